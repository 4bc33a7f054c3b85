/- Out of what the kit's print wrote for this seat: what this claim needs of it (the rest is left out by a program of the session's). Conditions: those in each theorem. -/
import Derived.Test.YtambnodgfhlpfaaDoorJWLast
import Derived.Test.YtambnodgfhlpfaaDoorJWWords
/-! ### 50. A region's order in a table, made once a region: each step asks the table (numbers alone), not the operations -/
namespace Go.Proofs.YtambnodgfhlpfaaDoorW.PrintLast
open Go.Proofs.YtambnodgfhlpfaaDoorW.PrintWords (Aside0)
section
end
/-- The operations of a region, by its number. -/
def opsIn : Code → Nat → Option (Array Oper)
  | .region id ops _, k => if id == k then some ops else none
  | .seq a b, k => match opsIn a k with
    | some o => some o
    | none => opsIn b k
  | .cond _ a b, k => match opsIn a k with
    | some o => some o
    | none => opsIn b k
  | .block _ c, k => opsIn c k
  | .loop c, k => opsIn c k
  | .scope c, k => opsIn c k
  | .rangeFunc _ _ a b, k => match opsIn a k with
    | some o => some o
    | none => opsIn b k
  | _, _ => none
def opsOf (f : Func) (k : Nat) : Array Oper := ((f.body.bind fun c => opsIn c k)).getD #[]
end Go.Proofs.YtambnodgfhlpfaaDoorW.PrintLast
