/- The Go functions of this part as Lean functions, each with a proof that a call of it comes to just what the Lean function does. Written by a program of the session's. Conditions: none but those in each theorem. -/
import Derived.Test.YthnfmpieoondaaaJQCx0
import Derived.Test.YthnfmpieoondaaaJQCx1
namespace Go.Proofs.Ythnfmpieoondaaa.QC
open Go.Proofs.Ythnfmpieoondaaa.G Go.Proofs.Ythnfmpieoondaaa.QA Go.Proofs.Ythnfmpieoondaaa.QB
open Go.RowKit Go.Proofs.YthnfmpieoondaaaW.PrintWords Go.Proofs.YthnfmpieoondaaaW.PrintLast Go.Proofs.YthnfmpieoondaaaW.PrintMore
attribute [local go_sem] max2_int min2_int max_two min_two max_three min_three max_four min_four   -- for this text's walks alone
attribute [local go_sem ↓] ix28_0 ix28_1 ia28_0 ia28_1
set_option linter.unusedVariables false
set_option linter.unusedSimpArgs false

/-! ### dragomanlaw07_SubstPuts: function 5 -/
/-! ### subst_First: function 16 -/
end Go.Proofs.Ythnfmpieoondaaa.QC
