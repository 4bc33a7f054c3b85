/- The Go functions of this part as Lean functions, each with a proof that a call of it comes to just what the Lean function does. Written by a program of the session's. Conditions: none but those in each theorem. -/
import Derived.Test.YtldagaiphggnnaaDoorProg
import Derived.Below
import Derived.Deep.Draws
import Derived.Deep.AppendLies
import Derived.Maps.AppendAt
import Derived.OwnWalk
import Derived.Laws.BytesArg
import Derived.Laws.MakeOwn
import Derived.Laws.OwnMore
import Derived.Deep.OwnRows
import Derived.Tactics
import Derived.Lib.ConvBytes
import Derived.Laws.Slices
import Derived.WalkKit
import Derived.KernelRfl
import Derived.RowKit3
import Derived.Deep.LoopGhost
import Derived.Deep.QuietTactic
import Derived.BigQuiet
import Derived.WideLaws
import Derived.Deep.DeepCutAuto
import Derived.Deep.CutBlock
import Derived.Deep.RegionHeld3
import Derived.Laws.Rows
import Derived.Lib.AppendStr
import Derived.ArgAppend
import Derived.Laws.IdiomCopy
import Derived.OrdersHeld
import Derived.Laws.BitsLemmas
import Derived.RowKit
import Derived.Test.YtldagaiphggnnaaDoorGHexA
import Derived.Test.YtldagaiphggnnaaDoorWWords
import Derived.Test.YtldagaiphggnnaaDoorWLast
import Derived.Test.YtldagaiphggnnaaDoorWTab
import Derived.Test.YtldagaiphggnnaaDoorWFour
import Derived.Test.YtldagaiphggnnaaDoorWQPut
import Derived.Test.YtldagaiphggnnaaDoorWApart
import Derived.Test.YtldagaiphggnnaaDoorWArr
import Derived.Test.YtldagaiphggnnaaDoorWZeros
import Derived.Test.YtldagaiphggnnaaDoorWFoot
import Derived.Test.YtldagaiphggnnaaDoorWKept
import Derived.Test.YtldagaiphggnnaaDoorWShare
import Derived.Test.YtldagaiphggnnaaDoorWN
import Derived.Test.YtldagaiphggnnaaDoorWFootNe
import Derived.Test.YtldagaiphggnnaaDoorWAt
import Derived.Test.YtldagaiphggnnaaDoorWEqStruct
import Derived.Test.YtldagaiphggnnaaDoorWRepsOne
import Derived.Test.YtldagaiphggnnaaDoorWInv
import Derived.Test.YtldagaiphggnnaaDoorWInvWords
import Derived.Test.YtldagaiphggnnaaDoorWGuard
import Derived.Test.YtldagaiphggnnaaDoorWNEv
import Derived.Test.YtldagaiphggnnaaDoorWMore
namespace Go.Proofs.YtldagaiphggnnaaDoor.QA
open Go.Proofs.YtldagaiphggnnaaDoor.G Go.Proofs.YtldagaiphggnnaaDoor.GA
open Go.RowKit Go.Proofs.YtldagaiphggnnaaDoorW.PrintWords Go.Proofs.YtldagaiphggnnaaDoorW.PrintLast Go.Proofs.YtldagaiphggnnaaDoorW.PrintMore
attribute [local go_sem] max2_int min2_int max_two min_two max_three min_three max_four min_four   -- for this text's walks alone
set_option linter.unusedVariables false
set_option linter.unusedSimpArgs false



def errW : Option Int → Value
  | none => .nilIface
  | some c => .iface 0 (.int .i64 c)
theorem errW_none : errW none = .nilIface := rfl
theorem errW_some (c : Int) : errW (some c) = .iface 0 (.int .i64 c) := rfl

theorem info5 : (Tryd.prog.info? 5).map (fun i => (i.zero, i.size, i.bytes)) = some (some (.int .u8 0), 1, 1) := by kernel_rfl
-- the values' own types

end Go.Proofs.YtldagaiphggnnaaDoor.QA
