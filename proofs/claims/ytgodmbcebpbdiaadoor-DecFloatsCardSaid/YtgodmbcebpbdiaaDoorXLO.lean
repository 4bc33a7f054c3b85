/- The document's sums, products and quotients as functions of whole numbers, each with what a call comes to. -/
import Derived.Test.YtgodmbcebpbdiaaDoorXLM
import Derived.Test.YtgodmbcebpbdiaaDoorXMm
set_option linter.unusedVariables false
namespace Go.Proofs.YtgodmbcebpbdiaaDoor.R2
open Go.RowKit Go.Proofs.YtgodmbcebpbdiaaDoorW.PrintWords

def i64 (n : Int) : Bool := decide (-9223372036854775808 ≤ n) && decide (n ≤ 9223372036854775807)
end Go.Proofs.YtgodmbcebpbdiaaDoor.R2
