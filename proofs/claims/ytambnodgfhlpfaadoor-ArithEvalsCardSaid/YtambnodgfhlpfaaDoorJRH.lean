/- Package arith: level and unary, at every text: what a call comes to is what 'run' comes to. -/
import Derived.Test.YtambnodgfhlpfaaDoorJRG
set_option linter.unusedVariables false
set_option linter.unusedSimpArgs false
namespace Go.Proofs.YtambnodgfhlpfaaDoor.A
open Go.RowKit Go.Proofs.YtambnodgfhlpfaaDoorW.PrintWords Go.Proofs.YtambnodgfhlpfaaDoorW.PrintLast Go.Proofs.YtambnodgfhlpfaaDoor.G

/-- unary, a call deeper than what is known. -/
theorem unary_step (s : ByteArray) (hs : s.size ≤ 140737488355328) (k : Nat) (hU : UnaC s k) (hL : LevC s k) : UnaC s (k + 1) := by
  intro g p d w r hp hd h hr
  simp only [run] at hr
  cases hf : find1 Uop.str s (sk s p) uops with
  | some u =>
    rw [hf] at hr
    dsimp only at hr
    by_cases h30 : 30 ≤ d
    · rw [if_pos h30] at hr
      obtain rfl := Option.some.inj hr
      exact una_sign_deep s hs g p d w u hp h30 hd h hf
    · rw [if_neg h30] at hr
      cases hx : run s k .una (sk s p + 1) (d + 1) with
      | none => rw [hx] at hr; cases hr
      | some r2 =>
        have := una_sign s hs k hU g p d w u r2 hp (by omega) h hf hx
        rw [hx] at hr
        cases r2 with
        | error x => obtain rfl := Option.some.inj hr; exact this
        | ok r3 => obtain ⟨a, q⟩ := r3; obtain rfl := Option.some.inj hr; exact this
  | none =>
    rw [hf] at hr
    dsimp only at hr
    cases hl : hasAt s (sk s p) lpar with
    | true =>
      rw [hl, if_pos rfl] at hr
      by_cases h30 : 30 ≤ d
      · rw [if_pos h30] at hr
        obtain rfl := Option.some.inj hr
        exact una_par_deep s hs g p d w hp h30 hd h hf hl
      · rw [if_neg h30] at hr
        cases hx : run s k (.lev 0) (sk s p + 1) (d + 1) with
        | none => rw [hx] at hr; cases hr
        | some r2 =>
          have := una_par s hs k hL g p d w r2 hp (by omega) h hf hl hx
          rw [hx] at hr
          cases r2 with
          | error x => obtain rfl := Option.some.inj hr; exact this
          | ok r3 =>
            obtain ⟨a, q⟩ := r3
            have e : parRes s (.ok (a, q)) = r := by
              dsimp only at hr
              unfold parRes
              split at hr <;> rename_i hc <;> obtain rfl := Option.some.inj hr
              · dsimp only; rw [if_pos hc]
              · dsimp only; rw [if_neg hc]
            rw [e] at this
            exact this
    | false =>
      rw [hl, if_neg (by decide)] at hr
      have := una_word s hs g p d w hp h hf hl
      have e : wordRes s (sk s p) = r := by
        unfold wordRes
        split at hr <;> rename_i hn
        · obtain rfl := Option.some.inj hr; rw [if_pos hn]
        · rw [if_neg hn]
          split at hr <;> rename_i hv
          · obtain rfl := Option.some.inj hr; rw [if_pos hv]
          · obtain rfl := Option.some.inj hr; rw [if_neg hv]
      rw [e] at this
      exact this
theorem both_zero (s : ByteArray) : UnaC s 0 ∧ LevC s 0 := ⟨fun _ _ _ _ _ _ _ _ h => by simp [run] at h, fun _ _ _ _ _ _ _ _ _ _ h => by simp [run] at h⟩
theorem both (s : ByteArray) (hs : s.size ≤ 140737488355328) : ∀ k, ∀ j, j ≤ k → UnaC s j ∧ LevC s j
  | 0, j, hj => by obtain rfl : j = 0 := by omega
                   exact both_zero s
  | k + 1, j, hj => by
    by_cases h : j ≤ k
    · exact both s hs k j h
    · obtain rfl : j = k + 1 := by omega
      have hk := both s hs k k (Nat.le_refl _)
      exact ⟨unary_step s hs k hk.1 hk.2, level_step s hs k hk.1 fun j hj => (both s hs k j hj).2⟩
theorem level_calls (s : ByteArray) (hs : s.size ≤ 140737488355328) (k : Nat) : LevC s k := (both s hs k k (Nat.le_refl _)).2
end Go.Proofs.YtambnodgfhlpfaaDoor.A
