/- The Go functions of this part as Lean functions, each with a proof that a call of it comes to just what the Lean function does. Written by a program of the session's. Conditions: none but those in each theorem. -/
import Derived.Test.YtgodmbcebpbdiaaDoorXQ1x0
import Derived.Test.YtgodmbcebpbdiaaDoorXQ1x1
import Derived.Test.YtgodmbcebpbdiaaDoorXQ1x2
namespace Go.Proofs.YtgodmbcebpbdiaaDoor.Q1
open Go.Proofs.YtgodmbcebpbdiaaDoor.G
open Go.RowKit Go.Proofs.YtgodmbcebpbdiaaDoorW.PrintWords Go.Proofs.YtgodmbcebpbdiaaDoorW.PrintLast Go.Proofs.YtgodmbcebpbdiaaDoorW.PrintMore
attribute [local go_sem] max2_int min2_int max_two min_two max_three min_three max_four min_four   -- for this text's walks alone
set_option linter.unusedVariables false
set_option linter.unusedSimpArgs false

end Go.Proofs.YtgodmbcebpbdiaaDoor.Q1
