/- The Go functions of this part as Lean functions, each with a proof that a call of it comes to just what the Lean function does. Written by a program of the session's. Conditions: none but those in each theorem. -/
import Derived.Test.YtldagaiphggnnaaDoorQAx0
import Derived.Test.YtldagaiphggnnaaDoorQAx1
import Derived.Test.YtldagaiphggnnaaDoorQAx2
import Derived.Test.YtldagaiphggnnaaDoorQAx3
import Derived.Test.YtldagaiphggnnaaDoorQAx4
import Derived.Test.YtldagaiphggnnaaDoorQAx5
namespace Go.Proofs.YtldagaiphggnnaaDoor.QA
open Go.Proofs.YtldagaiphggnnaaDoor.G Go.Proofs.YtldagaiphggnnaaDoor.GA
open Go.RowKit Go.Proofs.YtldagaiphggnnaaDoorW.PrintWords Go.Proofs.YtldagaiphggnnaaDoorW.PrintLast Go.Proofs.YtldagaiphggnnaaDoorW.PrintMore
attribute [local go_sem] max2_int min2_int max_two min_two max_three min_three max_four min_four   -- for this text's walks alone
set_option linter.unusedVariables false
set_option linter.unusedSimpArgs false

end Go.Proofs.YtldagaiphggnnaaDoor.QA
