/- What package arith reads with: marks, blanks, words, as Lean functions. -/
import Derived.Test.YtambnodgfhlpfaaDoorJGIsName
import Derived.Lib.Strings
set_option linter.unusedVariables false
namespace Go.Proofs.YtambnodgfhlpfaaDoor.A
open Go.RowKit Go.Proofs.YtambnodgfhlpfaaDoorW.PrintWords Go.Proofs.YtambnodgfhlpfaaDoor.G

/-- The marks between two, and those ahead of one. -/
inductive Bop | lor | land | eq | ne | le | ge | lt | gt | add | sub | mul | div | mod
deriving DecidableEq
inductive Uop | neg | pos | not
deriving DecidableEq
def Bop.str : Bop → ByteArray
  | .lor => ⟨#[124, 124]⟩ | .land => ⟨#[38, 38]⟩ | .eq => ⟨#[61, 61]⟩ | .ne => ⟨#[33, 61]⟩ | .le => ⟨#[60, 61]⟩ | .ge => ⟨#[62, 61]⟩ | .lt => ⟨#[60]⟩ | .gt => ⟨#[62]⟩
  | .add => ⟨#[43]⟩ | .sub => ⟨#[45]⟩ | .mul => ⟨#[42]⟩ | .div => ⟨#[47]⟩ | .mod => ⟨#[37]⟩
def Uop.str : Uop → ByteArray
  | .neg => ⟨#[45]⟩ | .pos => ⟨#[43]⟩ | .not => ⟨#[33]⟩
def opsOf : Nat → List Bop
  | 0 => [.lor] | 1 => [.land] | 2 => [.eq, .ne] | 3 => [.le, .ge, .lt, .gt] | 4 => [.add, .sub] | _ => [.mul, .div, .mod]
def uops : List Uop := [.neg, .pos, .not]
def lpar : ByteArray := ⟨#[40]⟩
def rpar : ByteArray := ⟨#[41]⟩
/-- What is to be reckoned. -/
inductive Node
  | num (n : Int)
  | name (s : ByteArray)
  | un (m : Uop) (a : Node)
  | bin (m : Bop) (a b : Node)

def spB (c : Int) : Bool := c == 32 || c == 9 || c == 10
/-- Behind blanks, d bytes to go. -/
def skip (s : ByteArray) : Nat → Nat → Nat
  | i, 0 => i
  | i, d + 1 => if spB (bt s i) then skip s (i + 1) d else i
def sk (s : ByteArray) (i : Nat) : Nat := skip s i (s.size - i)
/-- Does a text stand at a place? -/
def hasAt (s : ByteArray) (p : Nat) (m : ByteArray) : Bool := Lib.hasPrefix (s.extract p s.size).data.toList m.data.toList
/-- The first one of some texts that stands at a place; the empty one. -/
def mark (s : ByteArray) (p : Nat) : List ByteArray → ByteArray
  | [] => ⟨#[]⟩
  | m :: r => if hasAt s p m then m else mark s p r
def find1 {α : Type} (f : α → ByteArray) (s : ByteArray) (p : Nat) : List α → Option α
  | [] => none
  | m :: r => if hasAt s p (f m) then some m else find1 f s p r
theorem mark_find {α : Type} (f : α → ByteArray) (s : ByteArray) (p : Nat) (l : List α) : mark s p (l.map f) = match find1 f s p l with | none => ⟨#[]⟩ | some o => f o := by
  induction l with
  | nil => rfl
  | cons m r ih => simp only [List.map_cons, mark, find1]; by_cases h : hasAt s p (f m) = true <;> simp [h, ih]
def allDig (t : ByteArray) : Bool := t.data.toList.all fun b => decide (48 ≤ b.toNat) && decide (b.toNat ≤ 57)
/-- Where a word ends that begins at 'from'. -/
def wend (s : ByteArray) (from_ : Nat) : Nat → Nat → Nat
  | i, 0 => i
  | i, d + 1 => if nameB (s.extract from_ (i + 1)) || allDig (s.extract from_ (i + 1)) then wend s from_ (i + 1) d else i
def wordEnd (s : ByteArray) (p : Nat) : Nat := wend s p p (s.size - p)

end Go.Proofs.YtambnodgfhlpfaaDoor.A
