/- The Go functions of this part as Lean functions, each with a proof that a call of it comes to just what the Lean function does. Written by a program of the session's. Conditions: none but those in each theorem. -/
import Derived.Test.YthnfmpieoondaaaYQCx0
import Derived.Test.YthnfmpieoondaaaYQCx1
import Derived.Test.YthnfmpieoondaaaYQCx3
namespace Go.Proofs.Ythnfmpieoondaaa.QC
open Go.Proofs.Ythnfmpieoondaaa.G Go.Proofs.Ythnfmpieoondaaa.QA Go.Proofs.Ythnfmpieoondaaa.QB
open Go.RowKit Go.Proofs.YthnfmpieoondaaaW.PrintWords Go.Proofs.YthnfmpieoondaaaW.PrintLast Go.Proofs.YthnfmpieoondaaaW.PrintMore
attribute [local go_sem] max2_int min2_int max_two min_two max_three min_three max_four min_four   -- for this text's walks alone
attribute [local go_sem ↓] ix28_0 ix28_1 ia28_0 ia28_1
set_option linter.unusedVariables false
set_option linter.unusedSimpArgs false

/-! ### dragomanref07_All: function 18 -/
def dragomanref07_All.l0 : Nat → ByteArray → List ByteArray → List (S28) → ByteArray → Int → Int → Option (ByteArray × Int)
  | 0, _, _, _, _, _, _ => none
  | k + 1, x1, x2, x8, x9, x10, x11 => if x11 < (x8.length : Int) then (if 0 ≤ x11 then (if 0 ≤ x10 then (if x10 ≤ ((rd_T28 x8 x11).f0) then (if ((rd_T28 x8 x11).f0) ≤ (x1.size : Int) then (if x9.size + (x1.extract (x10 : Int).toNat (((rd_T28 x8 x11).f0) : Int).toNat).size ≤ 9223372036854775807 then (if 0 ≤ ((rd_T28 x8 x11).f0) then (if ((rd_T28 x8 x11).f0) ≤ ((rd_T28 x8 x11).f1) then (if ((rd_T28 x8 x11).f1) ≤ (x1.size : Int) then ((dragomanref07_Put.f k x2 (x1.extract (((rd_T28 x8 x11).f0) : Int).toNat (((rd_T28 x8 x11).f1) : Int).toNat)).bind fun t194 => (if (x9 ++ (x1.extract (x10 : Int).toNat (((rd_T28 x8 x11).f0) : Int).toNat)).size + t194.size ≤ 9223372036854775807 then (dragomanref07_All.l0 k x1 x2 x8 ((x9 ++ (x1.extract (x10 : Int).toNat (((rd_T28 x8 x11).f0) : Int).toNat)) ++ t194) ((rd_T28 x8 x11).f1) (wrap64 (x11 + 1))) else (none))) else (none)) else (none)) else (none)) else (none)) else (none)) else (none)) else (none)) else (none)) else (if 0 ≤ x10 then (if x10 ≤ (x1.size : Int) then (if x9.size + (x1.extract (x10 : Int).toNat x1.size).size ≤ 9223372036854775807 then (some (x9 ++ (x1.extract (x10 : Int).toNat x1.size), (x8.length : Int))) else (none)) else (none)) else (none))
def dragomanref07_All.f (k : Nat) (l0 : List (S55)) (a1 : ByteArray) (l2 : List ByteArray) : Option (ByteArray × Int) := (dragomanref06_Spans.f k l0 a1).bind fun t188 => (dragomanref07_All.l0 k a1 l2 t188 (⟨#[]⟩ : ByteArray) 0 0)
/-! ### dragomanlaw07_SubstStays: function 7 -/
end Go.Proofs.Ythnfmpieoondaaa.QC
