/- The Go functions of this part as Lean functions, each with a proof that a call of it comes to just what the Lean function does. Written by a program of the session's. Conditions: none but those in each theorem. -/
import Derived.Test.YtmhkofgappbpjaaTQBx0
import Derived.Test.YtmhkofgappbpjaaTQBx1
import Derived.Test.YtmhkofgappbpjaaTQBx2
import Derived.Test.YtmhkofgappbpjaaTQBx3
import Derived.Test.YtmhkofgappbpjaaTQBx4
namespace Go.Proofs.Ytmhkofgappbpjaa.QB
open Go.Proofs.Ytmhkofgappbpjaa.G Go.Proofs.Ytmhkofgappbpjaa.QA
open Go.RowKit Go.Proofs.YtmhkofgappbpjaaW.PrintWords Go.Proofs.YtmhkofgappbpjaaW.PrintLast Go.Proofs.YtmhkofgappbpjaaW.PrintMore
attribute [local go_sem] max2_int min2_int max_two min_two max_three min_three max_four min_four   -- for this text's walks alone
attribute [local go_sem ↓] ix40_0 ix40_1 ia40_0 ia40_1
set_option linter.unusedVariables false
set_option linter.unusedSimpArgs false

end Go.Proofs.Ytmhkofgappbpjaa.QB
