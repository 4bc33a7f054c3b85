/- arith.Eval and arith.Find, told in the form that the printed walks call them by. -/
import Derived.Test.YtambnodgfhlpfaaDoorJRL
set_option linter.unusedVariables false
namespace Go.Proofs.YtambnodgfhlpfaaDoor.A
open Go.RowKit Go.Proofs.YtambnodgfhlpfaaDoorW.PrintWords Go.Proofs.YtambnodgfhlpfaaDoorW.PrintLast Go.Proofs.YtambnodgfhlpfaaDoor.G Go.Proofs.YtambnodgfhlpfaaDoor.QA
theorem run_mono (s : ByteArray) : ∀ (k : Nat) (md : Md) (p dp : Nat) (r : Res), run s k md p dp = some r → run s (k + 1) md p dp = some r
  | 0, _, _, _, _, h => by simp [run] at h
  | k + 1, .lev n, p, dp, r, h => by
    rw [run] at h ⊢
    by_cases h6 : n = 6
    · rw [if_pos h6] at h ⊢; exact run_mono s k _ _ _ _ h
    · rw [if_neg h6] at h ⊢
      cases hx : run s k (.lev (n + 1)) p dp with
      | none => rw [hx] at h; cases h
      | some r2 =>
        rw [run_mono s k _ _ _ _ hx]
        rw [hx] at h
        cases r2 with
        | error x => exact h
        | ok r3 => obtain ⟨a, q⟩ := r3; exact run_mono s k _ _ _ _ h
  | k + 1, .loop n b, p, dp, r, h => by
    rw [run] at h ⊢
    cases hf : find1 Bop.str s (sk s p) (opsOf n) with
    | none => rw [hf] at h; exact h
    | some o =>
      rw [hf] at h
      dsimp only at h ⊢
      cases hx : run s k (.lev (n + 1)) (sk s p + o.str.size) dp with
      | none => rw [hx] at h; cases h
      | some r2 =>
        rw [run_mono s k _ _ _ _ hx]
        rw [hx] at h
        cases r2 with
        | error x => exact h
        | ok r3 => obtain ⟨a, q⟩ := r3; exact run_mono s k _ _ _ _ h
  | k + 1, .una, p, dp, r, h => by
    rw [run] at h ⊢
    cases hf : find1 Uop.str s (sk s p) uops with
    | some u =>
      rw [hf] at h
      dsimp only at h ⊢
      by_cases h30 : 30 ≤ dp
      · rw [if_pos h30] at h ⊢; exact h
      · rw [if_neg h30] at h ⊢
        cases hx : run s k .una (sk s p + 1) (dp + 1) with
        | none => rw [hx] at h; cases h
        | some r2 =>
          rw [run_mono s k _ _ _ _ hx]
          rw [hx] at h
          exact h
    | none =>
      rw [hf] at h
      dsimp only at h ⊢
      by_cases hl : hasAt s (sk s p) lpar = true
      · rw [if_pos hl] at h ⊢
        by_cases h30 : 30 ≤ dp
        · rw [if_pos h30] at h ⊢; exact h
        · rw [if_neg h30] at h ⊢
          cases hx : run s k (.lev 0) (sk s p + 1) (dp + 1) with
          | none => rw [hx] at h; cases h
          | some r2 =>
            rw [run_mono s k _ _ _ _ hx]
            rw [hx] at h
            exact h
      · rw [if_neg hl] at h ⊢; exact h
theorem evalV_mono (k : Nat) (s : ByteArray) (l : Vars) : LeO (evalV k s l) (evalV (k + 1) s l) := by
  intro r h
  unfold evalV at h ⊢
  cases hx : run s k (.lev 0) 0 0 with
  | none => rw [hx] at h; cases h
  | some r2 => rw [run_mono s k _ _ _ _ hx]; rw [hx] at h; exact h
def fitB (l : Vars) : Bool := l.all fun x => decide (x.f1.size ≤ 140737488355328)
def arith_Eval.f (k : Nat) (a0 : ByteArray) (l1 : List S39) : Option (Int × Int) := if a0.size ≤ 140737488355328 ∧ l1.length ≤ 140737488355328 ∧ fitB l1 = true then evalV k a0 l1 else none
theorem arith_Eval.mono (k : Nat) (a0 : ByteArray) (l1 : List S39) : LeO (arith_Eval.f k a0 l1) (arith_Eval.f (k + 1) a0 l1) := by
  unfold arith_Eval.f
  split
  · exact evalV_mono k a0 l1
  · intro r h; cases h
theorem arith_Eval.calls (k : Nat) (a0 : ByteArray) (A1 : Option Addr) (c1 : Nat) (l1 : List S39) (r1 r2 : Int) (w : World) (hG : GE w) (hr1 : Kd.C k39 w A1 l1.length l1) (hc1 : l1.length ≤ c1) (h : arith_Eval.f k a0 l1 = some (r1, r2)) :
    Calls Tryd.prog 13 #[.string a0, .slice A1 l1.length c1] w fun e w' => e = .returned (.tuple #[.int .i64 r1, .int .i64 r2]) ∧ Below w.heap.size w w' := by
  unfold arith_Eval.f at h
  by_cases hc : a0.size ≤ 140737488355328 ∧ l1.length ≤ 140737488355328 ∧ fitB l1 = true
  · rw [if_pos hc] at h
    exact eval_calls k a0 A1 c1 l1 w hc.1 hG hr1 hc.2.1 (fun x hx => of_decide_eq_true (List.all_eq_true.1 hc.2.2 x hx)) r1 r2 h
  · rw [if_neg hc] at h; cases h
end Go.Proofs.YtambnodgfhlpfaaDoor.A
