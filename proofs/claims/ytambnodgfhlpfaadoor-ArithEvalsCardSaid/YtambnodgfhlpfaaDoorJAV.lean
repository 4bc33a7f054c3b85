/- What a row of variables and a node come to, as Lean functions. -/
import Derived.Test.YtambnodgfhlpfaaDoorJAD
import Derived.Test.YtambnodgfhlpfaaDoorJQAx0
set_option linter.unusedVariables false
namespace Go.Proofs.YtambnodgfhlpfaaDoor.A
open Go.RowKit Go.Proofs.YtambnodgfhlpfaaDoorW.PrintWords Go.Proofs.YtambnodgfhlpfaaDoor.G Go.Proofs.YtambnodgfhlpfaaDoor.QA

/-! ### Variables: a row of names and values -/
abbrev Vars := List S39
def nameAt (l : Vars) (i : Nat) : ByteArray := (rd_T39 l (i : Int)).f0
def valAt (l : Vars) (i : Nat) : ByteArray := (rd_T39 l (i : Int)).f1
def cmpB (a b : ByteArray) : Int := Lib.compareBytes a.data.toList b.data.toList
/-- The search by halves between i and j, d rounds at most. -/
def bsr (l : Vars) (t : ByteArray) : Nat → Nat → Nat → Nat
  | 0, i, _ => i
  | d + 1, i, j => if i < j then (if cmpB (nameAt l ((i + j) / 2)) t < 0 then bsr l t d ((i + j) / 2 + 1) j else bsr l t d i ((i + j) / 2)) else i
theorem bsr_fuel (l : Vars) (t : ByteArray) : ∀ d d' i j, j - i ≤ d → j - i ≤ d' → bsr l t d i j = bsr l t d' i j
  | 0, 0, i, j, _, _ => rfl
  | 0, d' + 1, i, j, h, _ => by rw [bsr, bsr, if_neg (by omega)]
  | d + 1, 0, i, j, _, h => by rw [bsr, bsr, if_neg (by omega)]
  | d + 1, d' + 1, i, j, h, h' => by
    rw [bsr, bsr]
    by_cases hij : i < j
    · rw [if_pos hij, if_pos hij, bsr_fuel l t d d' _ _ (by omega) (by omega), bsr_fuel l t d d' i _ (by omega) (by omega)]
    · rw [if_neg hij, if_neg hij]
def bs (l : Vars) (t : ByteArray) (i j : Nat) : Nat := bsr l t (j - i) i j
theorem bs_low {l : Vars} {t : ByteArray} {i j : Nat} (h : i < j) (hc : cmpB (nameAt l ((i + j) / 2)) t < 0) : bs l t i j = bs l t ((i + j) / 2 + 1) j := by
  unfold bs
  rw [bsr_fuel l t (j - i) (j - i - 1 + 1) i j (by omega) (by omega), bsr, if_pos h, if_pos hc]
  exact bsr_fuel l t _ _ _ _ (by omega) (by omega)
theorem bs_high {l : Vars} {t : ByteArray} {i j : Nat} (h : i < j) (hc : ¬ cmpB (nameAt l ((i + j) / 2)) t < 0) : bs l t i j = bs l t i ((i + j) / 2) := by
  unfold bs
  rw [bsr_fuel l t (j - i) (j - i - 1 + 1) i j (by omega) (by omega), bsr, if_pos h, if_neg hc]
  exact bsr_fuel l t _ _ _ _ (by omega) (by omega)
theorem bs_end {l : Vars} {t : ByteArray} {i j : Nat} (h : ¬ i < j) : bs l t i j = i := by
  unfold bs
  rw [show j - i = 0 by omega, bsr]
theorem bs_le (l : Vars) (t : ByteArray) (i j : Nat) (h : i ≤ j) : i ≤ bs l t i j ∧ bs l t i j ≤ j := by
  by_cases hij : i < j
  · by_cases hc : cmpB (nameAt l ((i + j) / 2)) t < 0
    · rw [bs_low hij hc]
      have := bs_le l t ((i + j) / 2 + 1) j (by omega)
      omega
    · rw [bs_high hij hc]
      have := bs_le l t i ((i + j) / 2) (by omega)
      omega
  · rw [bs_end hij]; omega
termination_by j - i
def placeV (l : Vars) (t : ByteArray) : Nat := bs l t 0 l.length
def isAt (l : Vars) (t : ByteArray) : Bool := decide (placeV l t < l.length) && decide (cmpB (nameAt l (placeV l t)) t = 0)
def findV (l : Vars) (t : ByteArray) : ByteArray := if isAt l t then valAt l (placeV l t) else ⟨#[]⟩

/-! ### What a node comes to -/
def valueOfV (l : Vars) (t : ByteArray) : Except Int Int :=
  if (findV l t).size = 0 then .ok 0 else
  if (wholeV (findV l t)).2.2 = 0 ∧ ¬ (wholeV (findV l t)).2.1 < (findV l t).size then .ok (wholeV (findV l t)).1 else .error 2
def valueV (l : Vars) : Node → Except Int Int
  | .num n => .ok n
  | .name t => valueOfV l t
  | .un m a => match valueV l a with | .ok x => .ok (oneV m x) | .error e => .error e
  | .bin m a b =>
    match valueV l a with
    | .error e => .error e
    | .ok x => if m = .lor ∧ x ≠ 0 ∨ m = .land ∧ x = 0 then .ok (yesV (x != 0)) else
      match valueV l b with
      | .error e => .error e
      | .ok y => twoV m x y
/-- What arith.Eval comes to. -/
def evalV (k : Nat) (s : ByteArray) (l : Vars) : Option (Int × Int) :=
  match run s k (.lev 0) 0 0 with
  | none => none
  | some (.error e) => some (0, e)
  | some (.ok (x, q)) => if sk s q < s.size then some (0, 9) else match valueV l x with | .ok n => some (n, 0) | .error e => some (0, e)
end Go.Proofs.YtambnodgfhlpfaaDoor.A
