/- The Go functions of this part as Lean functions, each with a proof that a call of it comes to just what the Lean function does. Written by a program of the session's. Conditions: none but those in each theorem. -/
import Derived.Test.YthnfmpieoondaaaVQAx0
import Derived.Test.YthnfmpieoondaaaVQAx7
import Derived.Test.YthnfmpieoondaaaVQAx8
namespace Go.Proofs.Ythnfmpieoondaaa.QA
open Go.Proofs.Ythnfmpieoondaaa.G
open Go.RowKit Go.Proofs.YthnfmpieoondaaaW.PrintWords Go.Proofs.YthnfmpieoondaaaW.PrintLast Go.Proofs.YthnfmpieoondaaaW.PrintMore
attribute [local go_sem] max2_int min2_int max_two min_two max_three min_three max_four min_four   -- for this text's walks alone
attribute [local go_sem ↓] ix28_0 ix28_1 ia28_0 ia28_1
set_option linter.unusedVariables false
set_option linter.unusedSimpArgs false

/-! ### dragomanref07_Put: function 25 -/
def dragomanref07_Put.l0 : Nat → List ByteArray → ByteArray → ByteArray → Int → Option (ByteArray)
  | 0, _, _, _, _ => none
  | k + 1, x0, x1, x5, x6 => if x6 < (x0.length : Int) then (if x6 > 0 then (if x5.size + x1.size ≤ 9223372036854775807 then (if 0 ≤ x6 then (if (x5 ++ x1).size + (rdOf ByteArray.empty x0 x6).size ≤ 9223372036854775807 then (dragomanref07_Put.l0 k x0 x1 ((x5 ++ x1) ++ (rdOf ByteArray.empty x0 x6)) (wrap64 (x6 + 1))) else (none)) else (none)) else (none)) else (if 0 ≤ x6 then (if x5.size + (rdOf ByteArray.empty x0 x6).size ≤ 9223372036854775807 then (dragomanref07_Put.l0 k x0 x1 (x5 ++ (rdOf ByteArray.empty x0 x6)) (wrap64 (x6 + 1))) else (none)) else (none))) else (some x5)
def dragomanref07_Put.f (k : Nat) (l0 : List ByteArray) (a1 : ByteArray) : Option (ByteArray) := dragomanref07_Put.l0 k l0 a1 (⟨#[]⟩ : ByteArray) 0
/-! ### dragomanref07_Read: function 21 -/
end Go.Proofs.Ythnfmpieoondaaa.QA
