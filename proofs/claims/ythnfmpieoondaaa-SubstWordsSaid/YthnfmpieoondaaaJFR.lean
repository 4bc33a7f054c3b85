/- dragomanref06.from1, walked. -/
import Derived.Test.YthnfmpieoondaaaJQBx
import Derived.Test.YthnfmpieoondaaaJGG
import Derived.Outline
import Derived.WalkMore
import Derived.BigRegion
import Derived.Deep.LoopGhost
set_option linter.unusedVariables false
set_option linter.unusedSimpArgs false
namespace Go.Proofs.Ythnfmpieoondaaa.G
open Go.RowKit Go.Proofs.YthnfmpieoondaaaW.PrintWords Go.Proofs.YthnfmpieoondaaaW.PrintLast Go.Proofs.YthnfmpieoondaaaW.PrintMore Go.Proofs.Ythnfmpieoondaaa.QA Go.Proofs.Ythnfmpieoondaaa.QB
set_option maxRecDepth 100000 in
def fr2 (u : Nat → Value) : Act := ⟨#[u 0, u 1, u 2, u 3, u 4, u 5, u 6, u 7, u 8, u 9, u 10, u 11, u 12, u 13, u 14, u 15, u 16, u 17, u 18, u 19, u 20, u 21, u 22, u 23, u 24, u 25, u 26, u 27, u 28, u 29, u 30, u 31, u 32, u 33, u 34, u 35, u 36, u 37, u 38, u 39, u 40, u 41, u 42, u 43, u 44, u 45, u 46, u 47, u 48, u 49, u 50, u 51, u 52, u 53, u 54, u 55, u 56, u 57, u 58, u 59, u 60, u 61, u 62, u 63, u 64, u 65, u 66, u 67, u 68, u 69, u 70, u 71, u 72, u 73, u 74, u 75, u 76, u 77, u 78, u 79, u 80, u 81, u 82, u 83, u 84, u 85, u 86, u 87, u 88, u 89, u 90, u 91, u 92, u 93], []⟩
set_option maxRecDepth 100000 in
theorem fr2_of (L : List Value) (h : L.length = 94) : (⟨L.toArray, []⟩ : Act) = fr2 (fun i => L.getD i undef) := by
  have e := list_range L undef
  rw [h] at e
  have e2 : (⟨L.toArray, []⟩ : Act) = ⟨((List.range 94).map (fun i => L.getD i undef)).toArray, []⟩ := congrArg (fun q => (⟨q.toArray, []⟩ : Act)) e
  exact e2.trans rfl
def seenB (l : List Bool) : Obj := .cells (l.map Value.bool).toArray 99 (0, 0)
theorem ia99_0 (b o : Nat) (w : World) : (Instr.indexAt 99 (.pointer (some ⟨b, o, none⟩)) (.int .i64 0)).run Try.prog w = .ok (.pointer (some ⟨b, o, none⟩)) w := by kernel_rfl
theorem ia99_1 (b o : Nat) (w : World) : (Instr.indexAt 99 (.pointer (some ⟨b, o, none⟩)) (.int .i64 1)).run Try.prog w = .ok (.pointer (some ⟨b, o + 1, none⟩)) w := by kernel_rfl
attribute [local go_sem ↓] ia99_0 ia99_1
/-- dragomanref06.from1's loop. -/
def from1L (l : List S55) (s : ByteArray) : Nat → List Bool → List Bool → List S97 → Option (List Bool)
  | 0, _, _, _ => none
  | k + 1, out, seen, wait => match wait.getLast? with
    | none => some out
    | some x => if 0 ≤ x.f0 ∧ x.f0 < l.length ∧ 0 ≤ x.f2 ∧ x.f2 < s.size + 1 ∧ wait.length ≤ 1000000 then
        let i := (x.f0.toNat * (s.size + 1) + x.f2.toNat) * 2 + (if x.f1 = true then 1 else 0)
        if seen.getD i false = true then from1L l s k out seen wait.dropLast
        else if x.f1 = true then
          (if x.f0 = (l.length : Int) - 1 then from1L l s k (out.set x.f2.toNat true) (seen.set i true) wait.dropLast
           else (dragomanref06_beyond.f k l x.f0 x.f1 x.f2).bind fun ys => if ys.length ≤ 10 then from1L l s k out (seen.set i true) (wait.dropLast ++ ys) else none)
        else (dragomanref06_within.f k l s x.f0 x.f1 x.f2).bind fun ys => if ys.length ≤ 10 then from1L l s k out (seen.set i true) (wait.dropLast ++ ys) else none
      else none
structure FW (W : World) (ro rs base : Nat) (out seen : List Bool) (vw : Value) (wait : List S97) : Prop where
  ro : W.heap[ro]? = some (boolsB out)
  rs : W.heap[rs]? = some (seenB seen)
  w : Kd.R k97 97 W base (fun _ => True) vw wait
/-- What a frame holds in the loop. -/
structure FF (ro rs M : Nat) (A0 : Option Addr) (c0 : Nat) (l0 : List S55) (s : ByteArray) (u : Nat → Value) : Prop where
  h0 : u 0 = .slice A0 l0.length c0
  h1 : u 1 = .string s
  h7 : u 7 = .slice (some ⟨ro, 0, none⟩) (s.size + 1) (s.size + 1)
  h8 : u 8 = .slice (some ⟨rs, 0, none⟩) M M
def FI (w : World) (ro rs base M : Nat) (A0 : Option Addr) (c0 : Nat) (l0 : List S55) (s : ByteArray) (r : List Bool) (kq : Nat) (a : Act) (w' : World) : Prop :=
  ∃ u, a = fr2 u ∧ FF ro rs M A0 c0 l0 s u ∧ ∃ (out seen : List Bool) (wait : List S97), FW w' ro rs base out seen (u 9) wait ∧ from1L l0 s kq out seen wait = some r ∧ Below w.heap.size w w' ∧ base ≤ w'.heap.size ∧ out.length = s.size + 1 ∧ seen.length = M * 2
theorem FI.next (w : World) (ro rs base M : Nat) (A0 : Option Addr) (c0 : Nat) (l0 : List S55) (s : ByteArray) (r : List Bool) (J : Nat → Act → World → Prop) (K : Act → World → Prop) (hJ : ∀ k a' w', FI w ro rs base M A0 c0 l0 s r k a' w' → J k a' w') (gk : Nat) (hK : ∀ a' w', Handed J (gk + 1) a' w' → K a' w') (L : List Value) (hL : L.length = 94) (hf : FF ro rs M A0 c0 l0 s (fun i => L.getD i undef)) (w' : World) (out seen : List Bool) (wait : List S97) (h1 : FW w' ro rs base out seen (L.getD 9 undef) wait) (h2 : from1L l0 s gk out seen wait = some r) (h3 : Below w.heap.size w w') (h4 : base ≤ w'.heap.size) (h5 : out.length = s.size + 1) (h6 : seen.length = M * 2) : K ⟨L.toArray, []⟩ w' :=
  hK _ _ (Handed.intro gk (Nat.lt_succ_self _) (hJ _ _ _ ⟨_, fr2_of L hL, hf, out, seen, wait, h1, h2, h3, h4, h5, h6⟩))
end Go.Proofs.Ythnfmpieoondaaa.G
