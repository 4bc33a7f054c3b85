/- Out of what the kit's print wrote for this seat: what this claim needs of it (the rest is left out by a program of the session's). Conditions: those in each theorem. -/
import Derived.Test.YtambnodgfhlpfaaDoorUWTab
import Derived.Test.YtambnodgfhlpfaaDoorUWN
namespace Go.Proofs.YtambnodgfhlpfaaDoorW.PrintWords
open Go.RowKit
end Go.Proofs.YtambnodgfhlpfaaDoorW.PrintWords
namespace Go.Proofs.YtambnodgfhlpfaaDoorW.PrintLast
section
variable {ops : Array Oper} {a : Act} {o og : Oper} {g : Nat} {t : Tmp} {u : Bool}
/-- An operand out of its slot. -/
theorem eval_of {v : Value} (h : a.tmps[t]? = some v) : a.eval (.tmp t) = v := by simp [Act.eval, h]
end
end Go.Proofs.YtambnodgfhlpfaaDoorW.PrintLast
