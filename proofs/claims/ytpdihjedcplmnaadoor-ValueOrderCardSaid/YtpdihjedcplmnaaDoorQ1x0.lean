/- The Go functions of this part as Lean functions, each with a proof that a call of it comes to just what the Lean function does. Written by a program of the session's. Conditions: none but those in each theorem. -/
import Derived.Test.YtpdihjedcplmnaaDoorProg
import Derived.Below
import Derived.Deep.Draws
import Derived.Deep.AppendLies
import Derived.Maps.AppendAt
import Derived.OwnWalk
import Derived.Laws.BytesArg
import Derived.Laws.MakeOwn
import Derived.Laws.OwnMore
import Derived.Deep.OwnRows
import Derived.Tactics
import Derived.Lib.ConvBytes
import Derived.Laws.Slices
import Derived.WalkKit
import Derived.KernelRfl
import Derived.RowKit3
import Derived.Deep.LoopGhost
import Derived.Deep.QuietTactic
import Derived.BigQuiet
import Derived.WideLaws
import Derived.Deep.DeepCutAuto
import Derived.Deep.CutBlock
import Derived.Deep.RegionHeld3
import Derived.Laws.Rows
import Derived.Lib.AppendStr
import Derived.ArgAppend
import Derived.Laws.IdiomCopy
import Derived.OrdersHeld
import Derived.Laws.BitsLemmas
import Derived.RowKit
import Derived.Test.YtpdihjedcplmnaaDoorGDecC
import Derived.Test.YtpdihjedcplmnaaDoorWWords
import Derived.Test.YtpdihjedcplmnaaDoorWLast
import Derived.Test.YtpdihjedcplmnaaDoorWTab
import Derived.Test.YtpdihjedcplmnaaDoorWFour
import Derived.Test.YtpdihjedcplmnaaDoorWQPut
import Derived.Test.YtpdihjedcplmnaaDoorWApart
import Derived.Test.YtpdihjedcplmnaaDoorWArr
import Derived.Test.YtpdihjedcplmnaaDoorWZeros
import Derived.Test.YtpdihjedcplmnaaDoorWFoot
import Derived.Test.YtpdihjedcplmnaaDoorWKept
import Derived.Test.YtpdihjedcplmnaaDoorWShare
import Derived.Test.YtpdihjedcplmnaaDoorWN
import Derived.Test.YtpdihjedcplmnaaDoorWFootNe
import Derived.Test.YtpdihjedcplmnaaDoorWAt
import Derived.Test.YtpdihjedcplmnaaDoorWEqStruct
import Derived.Test.YtpdihjedcplmnaaDoorWRepsOne
import Derived.Test.YtpdihjedcplmnaaDoorWInv
import Derived.Test.YtpdihjedcplmnaaDoorWInvWords
import Derived.Test.YtpdihjedcplmnaaDoorWGuard
import Derived.Test.YtpdihjedcplmnaaDoorWNEv
import Derived.Test.YtpdihjedcplmnaaDoorWMore
namespace Go.Proofs.YtpdihjedcplmnaaDoor.Q1
open Go.Proofs.YtpdihjedcplmnaaDoor.G
open Go.RowKit Go.Proofs.YtpdihjedcplmnaaDoorW.PrintWords Go.Proofs.YtpdihjedcplmnaaDoorW.PrintLast Go.Proofs.YtpdihjedcplmnaaDoorW.PrintMore
attribute [local go_sem] max2_int min2_int max_two min_two max_three min_three max_four min_four   -- for this text's walks alone
set_option linter.unusedVariables false
set_option linter.unusedSimpArgs false



def errW : Option Int → Value
  | none => .nilIface
  | some c => .iface 0 (.int .i64 c)
theorem errW_none : errW none = .nilIface := rfl
theorem errW_some (c : Int) : errW (some c) = .iface 0 (.int .i64 c) := rfl

-- the values' own types

end Go.Proofs.YtpdihjedcplmnaaDoor.Q1
