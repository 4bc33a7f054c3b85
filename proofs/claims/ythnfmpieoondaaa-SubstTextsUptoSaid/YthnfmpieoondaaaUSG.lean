/- The laws Texts and Back of Subst, in plain words. -/
import Derived.Test.YthnfmpieoondaaaUPD
set_option linter.unusedVariables false
set_option linter.unusedSimpArgs false
namespace Go.Proofs.Ythnfmpieoondaaa.P
open Go.RowKit Go.Proofs.YthnfmpieoondaaaW.PrintWords Go.Proofs.Ythnfmpieoondaaa.QA Go.Proofs.Ythnfmpieoondaaa.QB Go.Proofs.Ythnfmpieoondaaa.QC Go.Proofs.Ythnfmpieoondaaa.G Go.Proofs.Ythnfmpieoondaaa.Mt
/-! ### What is written bears no operator -/
theorem Same_loop (l : List ByteArray) (hl : l.length ≤ 4611686018427387904) : ∀ (d i k : Nat), i + d = l.length → d < k → dragomanref07_Same.l0 k l l (i : Int) = some true := by
  intro d
  induction d with
  | zero =>
    intro i k hi hk
    obtain ⟨k, rfl⟩ : ∃ m, k = m + 1 := ⟨k - 1, by omega⟩
    rw [dragomanref07_Same.l0, if_neg (by omega)]
  | succ d ih =>
    intro i k hi hk
    obtain ⟨k, rfl⟩ : ∃ m, k = m + 1 := ⟨k - 1, by omega⟩
    rw [dragomanref07_Same.l0, if_pos (by omega), if_pos (by omega), if_pos (by omega), if_pos rfl, wrap_up i (by omega)]
    exact ih (i + 1) k (by omega) (by omega)
theorem Same_is (l : List ByteArray) (hl : l.length ≤ 4611686018427387904) (k : Nat) (hk : l.length < k) : dragomanref07_Same.f k l l = some true := by
  unfold dragomanref07_Same.f
  rw [if_pos rfl]
  exact Same_loop l hl l.length 0 k (by omega) hk
theorem wrap_sum (a b : Nat) (ha : a ≤ 1048576) (hb : b ≤ 1048576) : wrap64 ((a : Int) + (b : Int)) = ((a + b : Nat) : Int) := by unfold wrap64; omega
theorem Pure.SubstTextsU (a0 : ByteArray) (l1 : List ByteArray) (a2 : ByteArray) (h0 : a0.size ≤ 1048576) (hb : l1.length + tot l1 ≤ 1048576) (h2 : a2.size ≤ 1048576) : ∃ k, dragomanlaw07_SubstTexts.f k a0 l1 a2 = some true := by
  have hj : ∀ k, 1 ≤ k → dragomanlaw07_SubstTexts.j0 k a0 l1 a2 true true = some true := fun k hk => by
    obtain ⟨k, rfl⟩ : ∃ m, k = m + 1 := ⟨k - 1, by omega⟩
    rw [dragomanlaw07_SubstTexts.j0, if_pos rfl]
  by_cases c0 : a0.size + a2.size > 2000
  · refine ⟨400, ?_⟩
    unfold dragomanlaw07_SubstTexts.f
    rw [shown_ok _ (by omega), Option.bind_some, wrap_sum _ _ h0 h2, if_pos (by omega)]
    exact hj _ (by omega)
  by_cases c1 : l1.length + tot l1 > 500
  · refine ⟨1048877, ?_⟩
    unfold dragomanlaw07_SubstTexts.f
    rw [shown_ok _ (by omega), Option.bind_some, wrap_sum _ _ h0 h2, if_neg (by omega), Long_is l1 (by omega) _ (by omega), Option.bind_some, decide_eq_true (by omega)]
    exact hj _ (by omega)
  · obtain ⟨r, hq, ha, hr⟩ := Read_both a0 (by omega) a0.size 0 [] ⟨#[]⟩ (by omega) (by omega) (by simp) (by simp [ByteArray.size])
    rw [show ((0 : Nat) : Int) = 0 from rfl, ByteArray.extract_zero_size] at *
    have hm : l1.length * a2.size ≤ 500 * 2000 := Nat.mul_le_mul (by omega) (by omega)
    have hjl := joinL_le l1 a2
    obtain ⟨K, hK⟩ : ∃ K, K = 40000 := ⟨_, rfl⟩
    have eput := Put_is l1 a2 (by omega) (by omega)
    obtain ⟨X, hX, hXd⟩ := RPut_is l1 a2 (by omega) (by omega) K (by omega)
    refine ⟨K + 1, ?_⟩
    unfold dragomanlaw07_SubstTexts.f
    rw [shown_ok _ (by omega), Option.bind_some, wrap_sum _ _ h0 h2, if_neg (by omega), Long_is l1 (by omega) _ (by omega), Option.bind_some, decide_eq_false (by omega), dragomanlaw07_SubstTexts.j0, if_neg (by decide)]
    unfold subst_Read.f dragomanref07_Read.f
    rw [ha K (by omega), Option.bind_some, hr K (by omega), Option.bind_some, if_pos rfl, Same_is r.1 (by omega) K (by omega), Option.bind_some, if_pos rfl, if_pos rfl, Text_is l1 hb K (by omega), Option.bind_some, RText_is l1 hb K (by omega), Option.bind_some, if_pos rfl, eput, Option.bind_some, hX, Option.bind_some, toList_data, toList_data, hXd, joinB_data, beq_self_eq_true]
end Go.Proofs.Ythnfmpieoondaaa.P
