/- A row of nodes that comes in, opened. -/
import Derived.Test.YthnfmpieoondaaaJQAx
import Derived.OpenShut
import Derived.Deep.Slices
import Derived.ChangeOld
import Derived.Carry
set_option linter.unusedVariables false
set_option linter.unusedSimpArgs false
namespace Go.Proofs.Ythnfmpieoondaaa.G
open Go.RowKit Go.ChangeShapes Go.WideShapes Go.Deep Go.Proofs.YthnfmpieoondaaaW.PrintWords Go.Proofs.YthnfmpieoondaaaW.PrintLast Go.Proofs.YthnfmpieoondaaaW.PrintMore Go.Proofs.Ythnfmpieoondaaa.QA
/-- A class's numbers are of their kind. -/
def Ok53 (x : S53) : Prop := (Lit.int .u64 x.f0).wf = true ∧ (Lit.int .u64 x.f1).wf = true ∧ (Lit.int .u64 x.f2).wf = true ∧ (Lit.int .u64 x.f3).wf = true
def Ok55 (x : S55) : Prop := (Lit.int .i64 x.f0).wf = true ∧ Ok53 x.f1 ∧ (Lit.int .i64 x.f2.f0).wf = true ∧ (Lit.int .i64 x.f2.f1).wf = true
section
end
end Go.Proofs.Ythnfmpieoondaaa.G
