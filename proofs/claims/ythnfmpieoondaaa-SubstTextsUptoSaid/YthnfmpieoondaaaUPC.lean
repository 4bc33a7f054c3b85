/- Texts of this seat, put together: each part tells above it what it proves and on what conditions. -/
import Derived.Test.YthnfmpieoondaaaUPB
import Derived.Test.YthnfmpieoondaaaUQCx
/- Ends, Span and Whole, in plain words. -/
section
set_option linter.unusedVariables false
set_option linter.unusedSimpArgs false
namespace Go.Proofs.Ythnfmpieoondaaa.P
open Go.RowKit Go.Proofs.YthnfmpieoondaaaW.PrintWords Go.Proofs.Ythnfmpieoondaaa.QA Go.Proofs.Ythnfmpieoondaaa.QB Go.Proofs.Ythnfmpieoondaaa.QC Go.Proofs.Ythnfmpieoondaaa.G Go.Proofs.Ythnfmpieoondaaa.Mt
section
variable {l : List S55} {s : ByteArray}
theorem Rt.size {l : List S55} {s : ByteArray} (h : Rt l s) : s.size ≤ 9999 ∧ l.length ≤ 10000 := by
  have hb := h.big
  have hl : l.length * 1 ≤ l.length * (s.size + 1) := Nat.mul_le_mul_left _ (by omega)
  have hs : 1 * (s.size + 1) ≤ l.length * (s.size + 1) := Nat.mul_le_mul_right _ h.pos
  omega
end
end Go.Proofs.Ythnfmpieoondaaa.P
end

/- The functions of Subst, in plain words: what is put in, what is replaced. -/
section
set_option linter.unusedVariables false
set_option linter.unusedSimpArgs false
namespace Go.Proofs.Ythnfmpieoondaaa.P
open Go.RowKit Go.Proofs.YthnfmpieoondaaaW.PrintWords Go.Proofs.Ythnfmpieoondaaa.QA Go.Proofs.Ythnfmpieoondaaa.QB Go.Proofs.Ythnfmpieoondaaa.QC Go.Proofs.Ythnfmpieoondaaa.G Go.Proofs.Ythnfmpieoondaaa.Mt
set_option maxRecDepth 100000 in
theorem shown_at : dragomanlaw07_shown.f 300 = some true := by decide +kernel
theorem shown_ok (k : Nat) (hk : 300 ≤ k) : dragomanlaw07_shown.f k = some true := at_rounds (fun k => dragomanlaw07_shown.mono k) hk shown_at
/-- How many bytes texts have. -/
def tot : List ByteArray → Nat
  | [] => 0
  | x :: xs => x.size + tot xs
theorem tot_drop (l : List ByteArray) (i : Nat) (h : i < l.length) : tot (l.drop i) = (rdOf ByteArray.empty l (i : Int)).size + tot (l.drop (i + 1)) := by
  rw [List.drop_eq_getElem_cons h, tot]
  simp [rdOf, List.getD_eq_getElem?_getD, List.getElem?_eq_getElem h]
theorem Long_loop (l : List ByteArray) (hl : l.length ≤ 4611686018427387904) : ∀ (d i k n : Nat), i + d = l.length → d < k → n + tot (l.drop i) ≤ 4611686018427387904 → dragomanref07_Long.l0 k l (n : Int) (i : Int) = some ((n + tot (l.drop i) : Nat) : Int) := by
  intro d
  induction d with
  | zero =>
    intro i k n hi hk hb
    obtain ⟨k, rfl⟩ : ∃ m, k = m + 1 := ⟨k - 1, by omega⟩
    simp only [dragomanref07_Long.l0]
    rw [if_neg (by omega), List.drop_eq_nil_of_le (by omega), tot, Nat.add_zero]
  | succ d ih =>
    intro i k n hi hk hb
    obtain ⟨k, rfl⟩ : ∃ m, k = m + 1 := ⟨k - 1, by omega⟩
    have ht := tot_drop l i (by omega)
    simp only [dragomanref07_Long.l0]
    rw [if_pos (by omega), if_pos (by omega)]
    have e1 : wrap64 ((n : Int) + ((rdOf ByteArray.empty l (i : Int)).size : Int)) = ((n + (rdOf ByteArray.empty l (i : Int)).size : Nat) : Int) := by unfold wrap64; omega
    have e2 : wrap64 ((i : Int) + 1) = ((i + 1 : Nat) : Int) := by unfold wrap64; omega
    rw [e1, e2, ih (i + 1) k _ (by omega) (by omega) (by omega), ht, Nat.add_assoc]
theorem Long_is (l : List ByteArray) (h : l.length + tot l ≤ 4611686018427387904) (k : Nat) (hk : l.length < k) : dragomanref07_Long.f k l = some ((l.length + tot l : Nat) : Int) := by
  have := Long_loop l (by omega) l.length 0 k l.length (by omega) hk h
  rwa [List.drop_zero] at this
/-! ### what is put in -/
theorem joinL_nil (w : ByteArray) : joinL [] w = [] := rfl
theorem joinL_one (x w : ByteArray) : joinL [x] w = x.data.toList := by simp [joinL, Lib.join_one]
theorem joinL_cons (x y : ByteArray) (l : List ByteArray) (w : ByteArray) : joinL (x :: y :: l) w = x.data.toList ++ w.data.toList ++ joinL (y :: l) w := by
  simp only [joinL, List.map_cons, Lib.join_cons, Lib.joinTail, List.flatten_cons, List.append_assoc]
theorem joinL_len : ∀ (l : List ByteArray) (w : ByteArray), (joinL l w).length = tot l + (l.length - 1) * w.size
  | [], w => by simp [joinL_nil, tot]
  | [x], w => by rw [joinL_one, data_length]; simp [tot]
  | x :: y :: l, w => by
    rw [joinL_cons, List.length_append, List.length_append, joinL_len (y :: l) w, data_length, data_length]
    simp only [tot, List.length_cons, Nat.add_sub_cancel, Nat.add_mul, Nat.one_mul]
    omega
theorem joinL_le (l : List ByteArray) (w : ByteArray) : (joinL l w).length ≤ tot l + l.length * w.size := by
  rw [joinL_len]
  have : (l.length - 1) * w.size ≤ l.length * w.size := Nat.mul_le_mul_right _ (by omega)
  omega
def joinB (l : List ByteArray) (w : ByteArray) : ByteArray := ⟨(joinL l w).toArray⟩
theorem joinB_data (l : List ByteArray) (w : ByteArray) : (joinB l w).data.toList = joinL l w := by simp [joinB]
theorem Put_is (l : List ByteArray) (w : ByteArray) (h1 : l.length ≤ 140737488355328) (h2 : (joinL l w).length ≤ 140737488355328) : subst_Put.f l w = some (joinB l w) := by
  unfold subst_Put.f strings_Join.f
  rw [if_pos ⟨h1, h2⟩]
  rfl
end Go.Proofs.Ythnfmpieoondaaa.P
end

/- All and First, in plain words: the program's and the document's. -/
section
set_option linter.unusedVariables false
set_option linter.unusedSimpArgs false
set_option linter.unusedSectionVars false
namespace Go.Proofs.Ythnfmpieoondaaa.P
open Go.RowKit Go.Proofs.YthnfmpieoondaaaW.PrintWords Go.Proofs.Ythnfmpieoondaaa.QA Go.Proofs.Ythnfmpieoondaaa.QB Go.Proofs.Ythnfmpieoondaaa.QC Go.Proofs.Ythnfmpieoondaaa.G Go.Proofs.Ythnfmpieoondaaa.Mt
theorem wrap_up (i : Nat) (h : i ≤ 4611686018427387904) : wrap64 ((i : Int) + 1) = ((i + 1 : Nat) : Int) := by unfold wrap64; omega
theorem ext_data (s : ByteArray) (a b : Nat) : (s.extract a b).data.toList = (s.data.toList.drop a).take (b - a) := by simp
theorem ext_size (s : ByteArray) (a b : Nat) (hb : b ≤ s.size) : (s.extract a b).size = b - a := by rw [ByteArray.size_extract, Nat.min_eq_left hb]
theorem app_data (a b : ByteArray) : (a ++ b).data.toList = a.data.toList ++ b.data.toList := by simp [ByteArray.data_append]
theorem toList_data (a : ByteArray) : a.toList = a.data.toList := ByteArray.toList_eq a
theorem rdOf_cons (l : List ByteArray) (i : Nat) (h : i < l.length) : l.drop i = rdOf ByteArray.empty l (i : Int) :: l.drop (i + 1) := by
  rw [List.drop_eq_getElem_cons h]
  simp [rdOf, List.getD_eq_getElem?_getD, List.getElem?_eq_getElem h]
/-! ### Put -/
def jt (w : ByteArray) : List ByteArray → List UInt8
  | [] => []
  | x :: xs => w.data.toList ++ x.data.toList ++ jt w xs
theorem joinL_jt (x : ByteArray) (l : List ByteArray) (w : ByteArray) : joinL (x :: l) w = x.data.toList ++ jt w l := by
  induction l generalizing x with
  | nil => rw [joinL_one, jt, List.append_nil]
  | cons y l ih => rw [joinL_cons, ih y, jt]; simp only [List.append_assoc]
theorem RPut_tail (l : List ByteArray) (w : ByteArray) (hl : l.length ≤ 4611686018427387904) : ∀ (d i k : Nat) (acc : ByteArray), 1 ≤ i → i + d = l.length → d < k → acc.size + (jt w (l.drop i)).length ≤ 4611686018427387904 → ∃ X, dragomanref07_Put.l0 k l w acc (i : Int) = some X ∧ X.data.toList = acc.data.toList ++ jt w (l.drop i) := by
  intro d
  induction d with
  | zero =>
    intro i k acc h1 hi hk hb
    obtain ⟨k, rfl⟩ : ∃ m, k = m + 1 := ⟨k - 1, by omega⟩
    refine ⟨acc, ?_, ?_⟩
    · simp only [dragomanref07_Put.l0]
      rw [if_neg (by omega)]
    · rw [List.drop_eq_nil_of_le (by omega), jt, List.append_nil]
  | succ d ih =>
    intro i k acc h1 hi hk hb
    obtain ⟨k, rfl⟩ : ∃ m, k = m + 1 := ⟨k - 1, by omega⟩
    have hc := rdOf_cons l i (by omega)
    generalize hx : rdOf ByteArray.empty l (i : Int) = x at hc
    rw [hc, jt, List.length_append, List.length_append, data_length, data_length] at hb
    have z1 : (acc ++ w).size = acc.size + w.size := ByteArray.size_append
    have z2 : (acc ++ w ++ x).size = acc.size + w.size + x.size := by rw [ByteArray.size_append, z1]
    obtain ⟨X, hX, hX2⟩ := ih (i + 1) k (acc ++ w ++ x) (by omega) (by omega) (by omega) (by omega)
    refine ⟨X, ?_, ?_⟩
    · simp only [dragomanref07_Put.l0]
      have q1 : acc.size + w.size ≤ 9223372036854775807 := Nat.le_trans (by omega : _ ≤ 4611686018427387904) (by decide)
      have q2 : (acc ++ w).size + x.size ≤ 9223372036854775807 := Nat.le_trans (by rw [z1]; omega : _ ≤ 4611686018427387904) (by decide)
      rw [if_pos (by omega : (i : Int) < (l.length : Int)), if_pos (by omega : (i : Int) > 0), if_pos q1, if_pos (by omega : (0 : Int) ≤ (i : Int)), hx, if_pos q2, wrap_up i (by omega)]
      exact hX
    · rw [hX2, app_data, app_data, hc, jt]; simp only [List.append_assoc]
theorem RPut_is (l : List ByteArray) (w : ByteArray) (h1 : l.length ≤ 4611686018427387904) (h2 : (joinL l w).length ≤ 4611686018427387904) (k : Nat) (hk : l.length + 1 < k) : ∃ X, dragomanref07_Put.f k l w = some X ∧ X.data.toList = joinL l w := by
  cases l with
  | nil =>
    obtain ⟨k, rfl⟩ : ∃ m, k = m + 1 := ⟨k - 1, by omega⟩
    exact ⟨⟨#[]⟩, by unfold dragomanref07_Put.f; simp only [dragomanref07_Put.l0]; rw [if_neg (by simp)], rfl⟩
  | cons x l =>
    obtain ⟨k, rfl⟩ : ∃ m, k = m + 1 := ⟨k - 1, by omega⟩
    have hj := joinL_jt x l w
    rw [hj, List.length_append, data_length] at h2
    have hr : rdOf ByteArray.empty (x :: l) 0 = x := rfl
    have z0 : (⟨#[]⟩ : ByteArray).size = 0 := rfl
    have z : ((⟨#[]⟩ : ByteArray) ++ x).size = x.size := by rw [ByteArray.size_append, z0, Nat.zero_add]
    obtain ⟨X, hX, hX2⟩ := RPut_tail (x :: l) w h1 l.length 1 k (⟨#[]⟩ ++ x) (Nat.le_refl _) (by simp; omega) (by simp at hk; omega) (by rw [z]; exact h2)
    refine ⟨X, ?_, ?_⟩
    · unfold dragomanref07_Put.f
      simp only [dragomanref07_Put.l0]
      rw [if_pos (by simp), if_neg (by omega), if_pos (Int.le_refl _), hr, if_pos (show (⟨#[]⟩ : ByteArray).size + x.size ≤ 9223372036854775807 from Nat.le_trans (by rw [z0]; omega : _ ≤ 4611686018427387904) (by decide)), show wrap64 (0 + 1) = ((1 : Nat) : Int) from by unfold wrap64; decide]
      exact hX
    · rw [hX2, hj, app_data]; simp
/-! ### replaced -/
section
end
end Go.Proofs.Ythnfmpieoondaaa.P
end
