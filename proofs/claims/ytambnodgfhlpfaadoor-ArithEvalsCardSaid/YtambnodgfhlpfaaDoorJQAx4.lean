/- The Go functions of this part as Lean functions, each with a proof that a call of it comes to just what the Lean function does. Written by a program of the session's. Conditions: none but those in each theorem. -/
import Derived.Test.YtambnodgfhlpfaaDoorJQAx0
namespace Go.Proofs.YtambnodgfhlpfaaDoor.QA
open Go.Proofs.YtambnodgfhlpfaaDoor.G
open Go.RowKit Go.Proofs.YtambnodgfhlpfaaDoorW.PrintWords Go.Proofs.YtambnodgfhlpfaaDoorW.PrintLast Go.Proofs.YtambnodgfhlpfaaDoorW.PrintMore
attribute [local go_sem] max2_int min2_int max_two min_two max_three min_three max_four min_four   -- for this text's walks alone
set_option linter.unusedVariables false
set_option linter.unusedSimpArgs false

/-! ### arith_Right: function 18 -/
end Go.Proofs.YtambnodgfhlpfaaDoor.QA
