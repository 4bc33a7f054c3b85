/- The laws Tells, Stays, Lengths and Puts of Subst, in plain words. -/
import Derived.Test.YthnfmpieoondaaaZPC
set_option linter.unusedVariables false
set_option linter.unusedSimpArgs false
set_option linter.unusedSectionVars false
namespace Go.Proofs.Ythnfmpieoondaaa.P
open Go.RowKit Go.Proofs.YthnfmpieoondaaaW.PrintWords Go.Proofs.Ythnfmpieoondaaa.QA Go.Proofs.Ythnfmpieoondaaa.QB Go.Proofs.Ythnfmpieoondaaa.QC Go.Proofs.Ythnfmpieoondaaa.G Go.Proofs.Ythnfmpieoondaaa.Mt
section
end
/-! ### Puts -/
theorem tot_take (l : List ByteArray) (i : Nat) (h : i < l.length) : tot (l.take (i + 1)) = tot (l.take i) + (rdOf ByteArray.empty l (i : Int)).size := by
  induction l generalizing i with
  | nil => simp at h
  | cons x l ih =>
    cases i with
    | zero => simp [tot, rdOf]
    | succ i =>
      have hr : rdOf ByteArray.empty (x :: l) ((i + 1 : Nat) : Int) = rdOf ByteArray.empty l (i : Int) := by simp [rdOf]
      rw [List.take_succ_cons, List.take_succ_cons, tot, tot, ih i (by simpa using h), hr, Nat.add_assoc]
theorem Puts_loop (x0 : List ByteArray) (x1 : ByteArray) (hl : x0.length ≤ 20) (hp : 0 < x0.length) (hw : x1.size ≤ 100) : ∀ (d i k : Nat), i + d = x0.length → d < k → tot (x0.take i) ≤ i * 100 → dragomanlaw07_SubstPuts.l0 k x0 x1 true (((x0.length - 1) * x1.size + tot (x0.take i) : Nat) : Int) (i : Int) = some true := by
  intro d
  induction d with
  | zero =>
    intro i k hi hk ht
    obtain ⟨k, rfl⟩ : ∃ m, k = m + 1 := ⟨k - 1, by omega⟩
    rw [List.take_of_length_le (by omega)] at ht ⊢
    have hm : (x0.length - 1) * x1.size ≤ 20 * 100 := Nat.mul_le_mul (by omega) hw
    have hj := joinL_len x0 x1
    have q1 : (joinL x0 x1).length ≤ 140737488355328 := by omega
    have hj1 : (joinL (x0.take 1) x1) = (rdOf ByteArray.empty x0 0).data.toList := by
      cases x0 with
      | nil => simp at hp
      | cons x l => rw [List.take_succ_cons, List.take_zero, joinL_one]; rfl
    have hr1 : (rdOf ByteArray.empty x0 0).size ≤ tot x0 := by
      cases x0 with
      | nil => simp at hp
      | cons x l => rw [tot]; show x.size ≤ _; omega
    have q2 : (joinL (x0.take 1) x1).length ≤ 140737488355328 := by rw [hj1, data_length]; omega
    have e1 := Put_is x0 x1 (by omega) q1
    have e2 := Put_is (x0.take 1) x1 (by rw [List.length_take]; omega) q2
    have q3 : ((joinB x0 x1).size : Int) = (((x0.length - 1) * x1.size + tot x0 : Nat) : Int) := by rw [joinB_size, hj, Nat.add_comm]
    simp only [dragomanlaw07_SubstPuts.l0]
    rw [if_neg (by omega : ¬ (i : Int) < (x0.length : Int)), if_pos trivial, e1, Option.bind_some, if_pos q3, if_pos (by omega : (1 : Int) ≤ (x0.length : Int)), e2, Option.bind_some, if_pos (by omega : (0 : Int) < (x0.length : Int)), toList_data, toList_data, joinB_data, hj1]
    simp
  | succ d ih =>
    intro i k hi hk ht
    obtain ⟨k, rfl⟩ : ∃ m, k = m + 1 := ⟨k - 1, by omega⟩
    have hm : (x0.length - 1) * x1.size ≤ 20 * 100 := Nat.mul_le_mul (by omega) hw
    have htt := tot_take x0 i (by omega)
    simp only [dragomanlaw07_SubstPuts.l0]
    rw [if_pos (by omega : (i : Int) < (x0.length : Int)), if_pos (by omega : (0 : Int) ≤ (i : Int))]
    by_cases c : ((rdOf ByteArray.empty x0 (i : Int)).size : Int) > 100
    · rw [if_pos c]
    · rw [if_neg c]
      have := ih (i + 1) k (by omega) (by omega) (by rw [htt]; omega)
      rw [htt] at this
      rw [wrap_up i (by omega), show wrap64 ((((x0.length - 1) * x1.size + tot (x0.take i) : Nat) : Int) + ((rdOf ByteArray.empty x0 (i : Int)).size : Int)) = (((x0.length - 1) * x1.size + (tot (x0.take i) + (rdOf ByteArray.empty x0 (i : Int)).size) : Nat) : Int) from by
        generalize (x0.length - 1) * x1.size = M at hm ⊢
        unfold wrap64; omega]
      exact this
theorem Pure.SubstPuts (l0 : List ByteArray) (a1 : ByteArray) : ∃ k, dragomanlaw07_SubstPuts.f k l0 a1 = some true := by
  have hj : ∀ k, 1 ≤ k → dragomanlaw07_SubstPuts.j0 k l0 a1 true true = some true := fun k hk => by
    obtain ⟨k, rfl⟩ : ∃ m, k = m + 1 := ⟨k - 1, by omega⟩
    simp only [dragomanlaw07_SubstPuts.j0, if_true]
  refine ⟨400, ?_⟩
  unfold dragomanlaw07_SubstPuts.f
  rw [shown_ok 400 (by decide), Option.bind_some]
  by_cases c0 : (l0.length : Int) > 20
  · rw [if_pos c0]; exact hj _ (by decide)
  rw [if_neg c0]
  by_cases c1 : (a1.size : Int) > 100
  · rw [if_pos c1]; exact hj _ (by decide)
  rw [if_neg c1]
  by_cases c2 : ((l0.length : Int) == 0) = true
  · rw [c2]; exact hj _ (by decide)
  rw [Bool.eq_false_iff.2 c2]
  have hp : 0 < l0.length := by
    rcases Nat.eq_zero_or_pos l0.length with h | h
    · rw [h] at c2; exact absurd rfl c2
    · exact h
  have hm : (l0.length - 1) * a1.size ≤ 20 * 100 := Nat.mul_le_mul (by omega) (by omega)
  have := Puts_loop l0 a1 (by omega) hp (by omega) l0.length 0 399 (by omega) (by omega) (by simp [tot])
  rw [List.take_zero, tot, Nat.add_zero, show ((0 : Nat) : Int) = 0 from rfl] at this
  show dragomanlaw07_SubstPuts.j0 (399 + 1) l0 a1 true false = some true
  generalize 399 = K at this ⊢
  simp only [dragomanlaw07_SubstPuts.j0, Bool.false_eq_true, if_false]
  rw [show wrap64 ((wrap64 ((l0.length : Int) - 1)) * (a1.size : Int)) = (((l0.length - 1) * a1.size : Nat) : Int) from by
    have h1 : wrap64 ((l0.length : Int) - 1) = ((l0.length - 1 : Nat) : Int) := by unfold wrap64; omega
    rw [h1, ← Int.natCast_mul]
    generalize (l0.length - 1) * a1.size = M at hm ⊢
    unfold wrap64; omega]
  exact this
theorem Pure.SubstPutsS (l0 : List ByteArray) (a1 : ByteArray) (_ : a1.size ≤ 140737488351232) : ∃ k, dragomanlaw07_SubstPuts.f k l0 a1 = some true := Pure.SubstPuts l0 a1
end Go.Proofs.Ythnfmpieoondaaa.P
