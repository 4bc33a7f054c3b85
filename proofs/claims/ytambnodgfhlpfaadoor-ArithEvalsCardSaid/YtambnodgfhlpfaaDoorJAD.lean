/- What package arith reads and comes to, as Lean functions: no program in sight but for what a text's figures and names come to. -/
import Derived.Test.YtambnodgfhlpfaaDoorJGHex
import Derived.Test.YtambnodgfhlpfaaDoorJAC
set_option linter.unusedVariables false
namespace Go.Proofs.YtambnodgfhlpfaaDoor.A
open Go.RowKit Go.Proofs.YtambnodgfhlpfaaDoorW.PrintWords Go.Proofs.YtambnodgfhlpfaaDoor.G

inductive Md | lev (n : Nat) | loop (n : Nat) (a : Node) | una
abbrev Res := Except Int (Node × Nat)
/-- What stands at a place, k calls deep at most: a node and the place behind it, or what is given up with. -/
def run (s : ByteArray) : Nat → Md → Nat → Nat → Option Res
  | 0, _, _, _ => none
  | k + 1, .lev n, p, dp =>
    if n = 6 then run s k .una p dp else
    match run s k (.lev (n + 1)) p dp with
    | some (.ok (a, q)) => run s k (.loop n a) q dp
    | r => r
  | k + 1, .loop n a, p, dp =>
    match find1 Bop.str s (sk s p) (opsOf n) with
    | none => some (.ok (a, sk s p))
    | some o =>
      match run s k (.lev (n + 1)) (sk s p + o.str.size) dp with
      | some (.ok (b, q)) => run s k (.loop n (.bin o a b)) q dp
      | r => r
  | k + 1, .una, p, dp =>
    match find1 Uop.str s (sk s p) uops with
    | some u =>
      if 30 ≤ dp then some (.error 7) else
      match run s k .una (sk s p + 1) (dp + 1) with
      | some (.ok (a, q)) => some (.ok (.un u a, q))
      | r => r
    | none =>
      if hasAt s (sk s p) lpar then
        if 30 ≤ dp then some (.error 7) else
        match run s k (.lev 0) (sk s p + 1) (dp + 1) with
        | some (.ok (a, q)) => if hasAt s (sk s q) rpar then some (.ok (a, sk s q + 1)) else some (.error 9)
        | r => r
      else if nameB (s.extract (sk s p) (wordEnd s (sk s p))) then some (.ok (.name (s.extract (sk s p) (wordEnd s (sk s p))), wordEnd s (sk s p)))
      else if (wholeV (s.extract (sk s p) (wordEnd s (sk s p)))).2.2 = 0 then some (.ok (.num (wholeV (s.extract (sk s p) (wordEnd s (sk s p)))).1, wordEnd s (sk s p)))
      else some (.error 9)

/-! ### What two come to, and one -/
def yesV (b : Bool) : Int := if b then 1 else 0
def twoV (m : Bop) (a b : Int) : Except Int Int :=
  match m with
  | .lor | .land => .ok (yesV (b != 0))
  | .eq => .ok (yesV (a == b))
  | .ne => .ok (yesV (a != b))
  | .le => .ok (yesV (decide (a ≤ b)))
  | .ge => .ok (yesV (decide (b ≤ a)))
  | .lt => .ok (yesV (decide (a < b)))
  | .gt => .ok (yesV (decide (b < a)))
  | .add => .ok (wrap64 (a + b))
  | .sub => .ok (wrap64 (a - b))
  | .mul => .ok (wrap64 (a * b))
  | .div => if b = 0 then .error 4 else .ok (wrap64 (a.tdiv b))
  | .mod => if b = 0 then .error 4 else .ok (a.tmod b)
def oneV (m : Uop) (a : Int) : Int := match m with | .neg => wrap64 (-a) | .pos => a | .not => yesV (a == 0)
end Go.Proofs.YtambnodgfhlpfaaDoor.A
