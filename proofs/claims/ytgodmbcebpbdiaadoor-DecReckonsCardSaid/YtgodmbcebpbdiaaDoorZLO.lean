/- The document's sums, products and quotients as functions of whole numbers, each with what a call comes to. -/
import Derived.Test.YtgodmbcebpbdiaaDoorZLM
import Derived.Test.YtgodmbcebpbdiaaDoorZLN
set_option linter.unusedVariables false
namespace Go.Proofs.YtgodmbcebpbdiaaDoor.R2
open Go.RowKit Go.Proofs.YtgodmbcebpbdiaaDoorW.PrintWords

def i64 (n : Int) : Bool := decide (-9223372036854775808 ≤ n) && decide (n ≤ 9223372036854775807)
theorem i64_of {n : Int} (h : i64 n = true) : -9223372036854775808 ≤ n ∧ n ≤ 9223372036854775807 := by
  unfold i64 at h
  rw [Bool.and_eq_true, decide_eq_true_eq, decide_eq_true_eq] at h
  exact h
def dragomanref02_Add.f (a b : Int) : Option (Int × Int) := if i64 a = true ∧ i64 b = true then some (rAdd a b) else none
theorem dragomanref02_Add.calls (a b : Int) (r1 r2 : Int) (w : World) (h : dragomanref02_Add.f a b = some (r1, r2)) :
    Calls Tryd.prog 26 #[.int .i64 a, .int .i64 b] w fun e w' => e = .returned (.tuple #[.int .i64 r1, .int .i64 r2]) ∧ Below w.heap.size w w' := by
  unfold dragomanref02_Add.f at h
  by_cases hc : i64 a = true ∧ i64 b = true
  · rw [if_pos hc] at h
    have hp := rAdd_calls a b w (i64_of hc.1).1 (i64_of hc.1).2 (i64_of hc.2).1 (i64_of hc.2).2
    rw [Option.some.inj h] at hp
    exact hp
  · rw [if_neg hc] at h; cases h
def dragomanref02_Mul.f (a b : Int) : Option (Int × Int) := if i64 a = true ∧ i64 b = true then some (rMul a b) else none
theorem dragomanref02_Mul.calls (a b : Int) (r1 r2 : Int) (w : World) (h : dragomanref02_Mul.f a b = some (r1, r2)) :
    Calls Tryd.prog 28 #[.int .i64 a, .int .i64 b] w fun e w' => e = .returned (.tuple #[.int .i64 r1, .int .i64 r2]) ∧ Below w.heap.size w w' := by
  unfold dragomanref02_Mul.f at h
  by_cases hc : i64 a = true ∧ i64 b = true
  · rw [if_pos hc] at h
    have hp := rMul_calls a b w (i64_of hc.1).1 (i64_of hc.1).2 (i64_of hc.2).1 (i64_of hc.2).2
    rw [Option.some.inj h] at hp
    exact hp
  · rw [if_neg hc] at h; cases h
def dragomanref02_Div.f (a b : Int) : Option (Int × Int) := if i64 a = true ∧ i64 b = true then some (rDiv a b) else none
theorem dragomanref02_Div.calls (a b : Int) (r1 r2 : Int) (w : World) (h : dragomanref02_Div.f a b = some (r1, r2)) :
    Calls Tryd.prog 29 #[.int .i64 a, .int .i64 b] w fun e w' => e = .returned (.tuple #[.int .i64 r1, .int .i64 r2]) ∧ Below w.heap.size w w' := by
  unfold dragomanref02_Div.f at h
  by_cases hc : i64 a = true ∧ i64 b = true
  · rw [if_pos hc] at h
    have hp := rDiv_calls a b w (i64_of hc.1).1 (i64_of hc.1).2 (i64_of hc.2).1 (i64_of hc.2).2
    rw [Option.some.inj h] at hp
    exact hp
  · rw [if_neg hc] at h; cases h
def dragomanref02_Mod.f (a b : Int) : Option (Int × Int) := if i64 a = true ∧ i64 b = true then some (rMod a b) else none
theorem dragomanref02_Mod.calls (a b : Int) (r1 r2 : Int) (w : World) (h : dragomanref02_Mod.f a b = some (r1, r2)) :
    Calls Tryd.prog 30 #[.int .i64 a, .int .i64 b] w fun e w' => e = .returned (.tuple #[.int .i64 r1, .int .i64 r2]) ∧ Below w.heap.size w w' := by
  unfold dragomanref02_Mod.f at h
  by_cases hc : i64 a = true ∧ i64 b = true
  · rw [if_pos hc] at h
    have hp := rMod_calls a b w (i64_of hc.1).1 (i64_of hc.1).2 (i64_of hc.2).1 (i64_of hc.2).2
    rw [Option.some.inj h] at hp
    exact hp
  · rw [if_neg hc] at h; cases h
def dragomanref02_Whole.f (a : Int) : Option (Int × Int) := if i64 a = true then some (rWhole a) else none
theorem dragomanref02_Whole.calls (a : Int) (r1 r2 : Int) (w : World) (h : dragomanref02_Whole.f a = some (r1, r2)) :
    Calls Tryd.prog 31 #[.int .i64 a] w fun e w' => e = .returned (.tuple #[.int .i64 r1, .int .i64 r2]) ∧ Below w.heap.size w w' := by
  unfold dragomanref02_Whole.f at h
  by_cases hc : i64 a = true
  · rw [if_pos hc] at h
    have hp := rWhole_calls a w (i64_of hc).1 (i64_of hc).2
    rw [Option.some.inj h] at hp
    exact hp
  · rw [if_neg hc] at h; cases h
def dragomanref02_Trunc.f (a : Int) : Option Int := if i64 a = true then some (rTrunc a) else none
theorem dragomanref02_Trunc.calls (a : Int) (r : Int) (w : World) (h : dragomanref02_Trunc.f a = some r) :
    Calls Tryd.prog 32 #[.int .i64 a] w fun e w' => e = .returned (.int .i64 r) ∧ Below w.heap.size w w' := by
  unfold dragomanref02_Trunc.f at h
  by_cases hc : i64 a = true
  · rw [if_pos hc] at h
    have hp := rTrunc_calls a w (i64_of hc).1 (i64_of hc).2
    rw [Option.some.inj h] at hp
    exact hp
  · rw [if_neg hc] at h; cases h
end Go.Proofs.YtgodmbcebpbdiaaDoor.R2
