/- A row of nodes that comes in, opened. -/
import Derived.Test.YtmhkofgappbpjaaUQAx
import Derived.OpenShut
import Derived.Deep.Slices
import Derived.ChangeOld
import Derived.Carry
set_option linter.unusedVariables false
set_option linter.unusedSimpArgs false
namespace Go.Proofs.Ytmhkofgappbpjaa.G
open Go.RowKit Go.ChangeShapes Go.WideShapes Go.Deep Go.Proofs.YtmhkofgappbpjaaW.PrintWords Go.Proofs.YtmhkofgappbpjaaW.PrintLast Go.Proofs.YtmhkofgappbpjaaW.PrintMore Go.Proofs.Ytmhkofgappbpjaa.QA
/-- A class's numbers are of their kind. -/
def Ok39 (x : S39) : Prop := (Lit.int .u64 x.f0).wf = true ∧ (Lit.int .u64 x.f1).wf = true ∧ (Lit.int .u64 x.f2).wf = true ∧ (Lit.int .u64 x.f3).wf = true
def Ok42 (x : S42) : Prop := (Lit.int .i64 x.f0).wf = true ∧ Ok39 x.f1 ∧ (Lit.int .i64 x.f2.f0).wf = true ∧ (Lit.int .i64 x.f2.f1).wf = true
section
end
end Go.Proofs.Ytmhkofgappbpjaa.G
