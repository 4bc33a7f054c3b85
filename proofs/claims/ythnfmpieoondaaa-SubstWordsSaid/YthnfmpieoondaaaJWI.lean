/- dragomanref06.within, walked by hand. -/
import Derived.Test.YthnfmpieoondaaaJQAx
import Derived.Test.YthnfmpieoondaaaJGA
import Derived.Laws.OwnMore
import Derived.Deep.QuietTactic
import Derived.BigQuiet
import Derived.Deep.RegionHeld3
import Derived.Outline
set_option linter.unusedVariables false
set_option linter.unusedSimpArgs false
namespace Go.Proofs.Ythnfmpieoondaaa.QB
open Go.RowKit Go.Proofs.YthnfmpieoondaaaW.PrintWords Go.Proofs.YthnfmpieoondaaaW.PrintLast Go.Proofs.YthnfmpieoondaaaW.PrintMore Go.Proofs.Ythnfmpieoondaaa.QA Go.Proofs.Ythnfmpieoondaaa.G
attribute [local go_sem ↓] ix28_0 ix28_1 ia28_0 ia28_1
section
end
end Go.Proofs.Ythnfmpieoondaaa.QB
