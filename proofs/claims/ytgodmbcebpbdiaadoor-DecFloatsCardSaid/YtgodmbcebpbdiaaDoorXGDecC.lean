/- dec.joined, walked, its upper word 0. -/
import Derived.Test.YtgodmbcebpbdiaaDoorXGDecA
set_option linter.unusedVariables false
set_option linter.unusedSimpArgs false
namespace Go.Proofs.YtgodmbcebpbdiaaDoor.G
open Go.RowKit Go.Proofs.YtgodmbcebpbdiaaDoorW.PrintWords Go.Proofs.YtgodmbcebpbdiaaDoorW.PrintLast
theorem wrapFit {x : Int} (h0 : -9223372036854775808 ≤ x) (h1 : x ≤ 9223372036854775807) : wrap64 x = x := by unfold wrap64; omega
set_option maxHeartbeats 4000000 in
set_option maxRecDepth 100000 in
theorem joined_pos (q : Int) (w : World) (h0 : decide (9223372036854775807 < q) = false) :
    Calls Tryd.prog 39 #[.int .u64 0, .int .u64 q, .bool false] w fun x w' => x = .returned (.int .i64 (wrap64 q)) ∧ w = w' := by
  go_enter Tryd.func39, Tryd.ntmps39
  go_wp2_with fail
  refine (wrong_no _ _).mono ?_
  rintro e w' ⟨rfl, rfl⟩
  go_wp2
  go_ret
  exact ⟨rfl, rfl⟩
set_option maxHeartbeats 4000000 in
set_option maxRecDepth 100000 in
theorem joined_neg (q : Int) (w : World) (h0 : decide (9223372036854775808 < q) = false) :
    Calls Tryd.prog 39 #[.int .u64 0, .int .u64 q, .bool true] w fun x w' => x = .returned (.int .i64 (wrap64 (-wrap64 q))) ∧ w = w' := by
  go_enter Tryd.func39, Tryd.ntmps39
  go_wp2_with fail
  refine (wrong_no _ _).mono ?_
  rintro e w' ⟨rfl, rfl⟩
  go_wp2
  go_ret
  exact ⟨rfl, rfl⟩
set_option maxHeartbeats 4000000 in
set_option maxRecDepth 100000 in
theorem joined_pover (q : Int) (w : World) (h0 : decide (9223372036854775807 < q) = true) :
    Calls Tryd.prog 39 #[.int .u64 0, .int .u64 q, .bool false] w fun x w' => x = .panicked [fault 3] ∧ w = w' := by
  go_enter Tryd.func39, Tryd.ntmps39
  go_wp2_with fail
  refine (wrong_yes _ _).mono ?_
  rintro e w' ⟨rfl, rfl⟩
  exact ⟨rfl, rfl, rfl⟩
set_option maxHeartbeats 4000000 in
set_option maxRecDepth 100000 in
theorem joined_nover (q : Int) (w : World) (h0 : decide (9223372036854775808 < q) = true) :
    Calls Tryd.prog 39 #[.int .u64 0, .int .u64 q, .bool true] w fun x w' => x = .panicked [fault 3] ∧ w = w' := by
  go_enter Tryd.func39, Tryd.ntmps39
  go_wp2_with fail
  refine (wrong_yes _ _).mono ?_
  rintro e w' ⟨rfl, rfl⟩
  exact ⟨rfl, rfl, rfl⟩

/-- A number of two words and a sign, its upper word 0; none: it gives up. -/
def joinV (q : Nat) (below : Bool) : Option Int := if below then (if q ≤ 9223372036854775808 then some (-(q : Int)) else none) else (if q ≤ 9223372036854775807 then some (q : Int) else none)
theorem joined_some (q : Nat) (below : Bool) (v : Int) (w : World) (hq : q < 18446744073709551616) (h : joinV q below = some v) :
    Calls Tryd.prog 39 #[.int .u64 0, .int .u64 q, .bool below] w fun x w' => x = .returned (.int .i64 v) ∧ w = w' := by
  unfold joinV at h
  cases below with
  | false =>
    by_cases hl : q ≤ 9223372036854775807
    · rw [if_neg (by decide), if_pos hl] at h
      obtain rfl := Option.some.inj h
      have := joined_pos q w (decide_eq_false (by omega))
      rw [wrapFit (x := (q : Int)) (by omega) (by omega)] at this
      exact this
    · rw [if_neg (by decide), if_neg hl] at h; cases h
  | true =>
    by_cases hl : q ≤ 9223372036854775808
    · rw [if_pos rfl, if_pos hl] at h
      obtain rfl := Option.some.inj h
      have := joined_neg q w (decide_eq_false (by omega))
      have e : wrap64 (-wrap64 (q : Int)) = -(q : Int) := by unfold wrap64; omega
      rw [e] at this
      exact this
    · rw [if_pos rfl, if_neg hl] at h; cases h
theorem joined_none (q : Nat) (below : Bool) (w : World) (h : joinV q below = none) :
    Calls Tryd.prog 39 #[.int .u64 0, .int .u64 q, .bool below] w fun x w' => x = .panicked [fault 3] ∧ w = w' := by
  unfold joinV at h
  cases below with
  | false =>
    by_cases hl : q ≤ 9223372036854775807
    · rw [if_neg (by decide), if_pos hl] at h; cases h
    · exact joined_pover q w (decide_eq_true (by omega))
  | true =>
    by_cases hl : q ≤ 9223372036854775808
    · rw [if_pos rfl, if_pos hl] at h; cases h
    · exact joined_nover q w (decide_eq_true (by omega))
/-! ### a number without its sign -/
set_option maxHeartbeats 4000000 in
theorem split_neg (n : Int) (w : World) (h0 : decide (n < 0) = true) :
    Calls Tryd.prog 43 #[.int .i64 n] w fun x w' => x = .returned (.tuple #[.int .u64 (IntKind.u64.wrap (-IntKind.u64.wrap n)), .bool true]) ∧ w = w' := by
  go_enter Tryd.func43, Tryd.ntmps43
  go_wp2
  go_ret2
  exact ⟨rfl, rfl⟩
set_option maxHeartbeats 4000000 in
theorem split_pos (n : Int) (w : World) (h0 : decide (n < 0) = false) :
    Calls Tryd.prog 43 #[.int .i64 n] w fun x w' => x = .returned (.tuple #[.int .u64 (IntKind.u64.wrap n), .bool false]) ∧ w = w' := by
  go_enter Tryd.func43, Tryd.ntmps43
  go_wp2
  go_ret2
  exact ⟨rfl, rfl⟩
end Go.Proofs.YtgodmbcebpbdiaaDoor.G
