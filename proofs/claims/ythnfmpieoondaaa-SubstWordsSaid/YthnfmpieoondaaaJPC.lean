/- Texts of this seat, put together: each part tells above it what it proves and on what conditions. -/
import Derived.Test.YthnfmpieoondaaaJPB
import Derived.Test.YthnfmpieoondaaaJQCx
/- Ends, Span and Whole, in plain words. -/
section
set_option linter.unusedVariables false
set_option linter.unusedSimpArgs false
namespace Go.Proofs.Ythnfmpieoondaaa.P
open Go.RowKit Go.Proofs.YthnfmpieoondaaaW.PrintWords Go.Proofs.Ythnfmpieoondaaa.QA Go.Proofs.Ythnfmpieoondaaa.QB Go.Proofs.Ythnfmpieoondaaa.QC Go.Proofs.Ythnfmpieoondaaa.G Go.Proofs.Ythnfmpieoondaaa.Mt
/-- The places that are meant, from one on. -/
def tr (x : List Bool) : Nat → Nat → List Int
  | 0, _ => []
  | d + 1, i => if x.getD i false = true then (i : Int) :: tr x d (i + 1) else tr x d (i + 1)
theorem tr_mem (x : List Bool) : ∀ (d i : Nat) (v : Int), v ∈ tr x d i ↔ ∃ j : Nat, i ≤ j ∧ j < i + d ∧ x.getD j false = true ∧ v = (j : Int)
  | 0, i, v => by
    simp only [tr, List.not_mem_nil, false_iff]
    rintro ⟨j, h1, h2, _⟩
    omega
  | d + 1, i, v => by
    have ih := tr_mem x d (i + 1) v
    unfold tr
    by_cases h : x.getD i false = true
    · rw [if_pos h, List.mem_cons, ih]
      constructor
      · rintro (rfl | ⟨j, h1, h2, h3, h4⟩)
        · exact ⟨i, by omega, by omega, h, rfl⟩
        · exact ⟨j, by omega, by omega, h3, h4⟩
      · rintro ⟨j, h1, h2, h3, h4⟩
        by_cases e : j = i
        · subst e; exact .inl h4
        · exact .inr ⟨j, by omega, by omega, h3, h4⟩
    · rw [if_neg h, ih]
      constructor
      · rintro ⟨j, h1, h2, h3, h4⟩
        exact ⟨j, by omega, by omega, h3, h4⟩
      · rintro ⟨j, h1, h2, h3, h4⟩
        by_cases e : j = i
        · subst e; exact absurd h3 h
        · exact ⟨j, by omega, by omega, h3, h4⟩
theorem tr_len (x : List Bool) : ∀ d i, (tr x d i).length ≤ d
  | 0, _ => by simp [tr]
  | d + 1, i => by
    have := tr_len x d (i + 1)
    unfold tr
    split <;> simp <;> omega
theorem tr_nil (x : List Bool) (d i : Nat) : (tr x d i).length = 0 ↔ ∀ j, i ≤ j → j < i + d → ¬ x.getD j false = true := by
  constructor
  · intro h j h1 h2 h3
    have := (tr_mem x d i j).2 ⟨j, h1, h2, h3, rfl⟩
    rw [List.length_eq_zero_iff.1 h] at this
    cases this
  · intro h
    rw [List.length_eq_zero_iff, List.eq_nil_iff_forall_not_mem]
    intro v hv
    obtain ⟨j, h1, h2, h3, _⟩ := (tr_mem x d i v).1 hv
    exact h j h1 h2 h3
/-- The last one. -/
theorem tr_last (x : List Bool) : ∀ (d i : Nat), 0 < (tr x d i).length → ∃ m : Nat, (tr x d i).getD ((tr x d i).length - 1) 0 = (m : Int) ∧ i ≤ m ∧ m < i + d ∧ x.getD m false = true ∧ ∀ j, m < j → j < i + d → ¬ x.getD j false = true
  | 0, _, h => by simp [tr] at h
  | d + 1, i, h => by
    by_cases hr : (tr x d (i + 1)).length = 0
    · have hn := (tr_nil x d (i + 1)).1 hr
      unfold tr at h ⊢
      by_cases hi : x.getD i false = true
      · rw [if_pos hi] at h ⊢
        rw [List.length_eq_zero_iff] at hr
        rw [hr]
        exact ⟨i, rfl, by omega, by omega, hi, fun j h1 h2 => hn j (by omega) (by omega)⟩
      · rw [if_neg hi] at h; omega
    · obtain ⟨m, h1, h2, h3, h4, h5⟩ := tr_last x d (i + 1) (by omega)
      refine ⟨m, ?_, by omega, by omega, h4, fun j a b => h5 j a (by omega)⟩
      unfold tr
      by_cases hi : x.getD i false = true
      · rw [if_pos hi, List.length_cons, Nat.add_sub_cancel]
        obtain ⟨n, hn⟩ : ∃ n, (tr x d (i + 1)).length = n + 1 := ⟨(tr x d (i + 1)).length - 1, by omega⟩
        rw [hn] at h1 ⊢
        simpa using h1
      · rw [if_neg hi]; exact h1
theorem ends_loop_eq (x : List Bool) (hx : x.length ≤ 100000) : ∀ (d i k : Nat) (acc : List Int), i + d = x.length → d < k → acc.length + d ≤ 100000 → match_Ends.l0 k acc x (x.length : Int) i = some (acc ++ tr x d i) := by
  intro d
  induction d with
  | zero =>
    intro i k acc hi hk ha
    obtain ⟨k, rfl⟩ : ∃ m, k = m + 1 := ⟨k - 1, by omega⟩
    simp only [match_Ends.l0]
    rw [if_neg (by omega)]
    simp [tr]
  | succ d ih =>
    intro i k acc hi hk ha
    obtain ⟨k, rfl⟩ : ∃ m, k = m + 1 := ⟨k - 1, by omega⟩
    simp only [match_Ends.l0]
    rw [if_pos (by omega), if_pos (by omega), if_pos (by omega), wrap_succ i (by omega)]
    have hrd : rdOf false x (i : Int) = x.getD i false := by unfold rdOf; rw [Int.toNat_natCast]
    rw [hrd]
    unfold tr
    by_cases h : x.getD i false = true
    · rw [if_pos h, if_pos (by omega), if_pos h, ih (i + 1) k (acc ++ [(i : Int)]) (by omega) (by omega) (by simp; omega)]
      simp
    · rw [if_neg h, if_neg h]
      exact ih (i + 1) k acc (by omega) (by omega) (by omega)
section
variable {l : List S55} {s : ByteArray}
theorem Rt.size {l : List S55} {s : ByteArray} (h : Rt l s) : s.size ≤ 9999 ∧ l.length ≤ 10000 := by
  have hb := h.big
  have hl : l.length * 1 ≤ l.length * (s.size + 1) := Nat.mul_le_mul_left _ (by omega)
  have hs : 1 * (s.size + 1) ≤ l.length * (s.size + 1) := Nat.mul_le_mul_right _ h.pos
  omega
/-- Where it ends from a on. -/
noncomputable def ends (l : List S55) (s : ByteArray) (a : Nat) : List Int := tr (EL l s a) (s.size + 1) 0
theorem Ends_eq (h : Rt l s) (a : Nat) (ha : a ≤ s.size) (k : Nat) (hk : 100010 ≤ k) : match_Ends.f k l s a = some (ends l s a) := by
  have hz := h.size
  obtain ⟨k, rfl⟩ : ∃ m, k = m + 1 := ⟨k - 1, by omega⟩
  unfold match_Ends.f
  rw [if_neg (by omega)]
  simp only [match_Ends.j0]
  rw [if_neg (by simp; omega), (ends_both h a ha k (by omega)).1, Option.bind_some]
  have := ends_loop_eq (EL l s a) (by rw [EL_length]; omega) (s.size + 1) 0 k [] (by rw [EL_length]; omega) (by omega) (by simp; omega)
  exact this
/-- Does it stand from a to b? -/
def Stands (l : List S55) (s : ByteArray) (a b : Nat) : Prop := M (ndOf l) s.size (sb s) (l.length - 1) a b
theorem Stands.bound {a b : Nat} (h : Stands l s a b) (ha : a ≤ s.size) : a ≤ b ∧ b ≤ s.size := ⟨M.le _ _ _ h, M.bound _ _ _ h ha⟩
/-- Where it stands first, from one place on. -/
def SpanR (l : List S55) (s : ByteArray) (i : Nat) (r : Int × Int × Bool) : Prop :=
  (∃ a b : Nat, r = ((a : Int), (b : Int), true) ∧ i ≤ a ∧ a ≤ s.size ∧ b ≤ s.size ∧ Stands l s a b ∧ (∀ j, b < j → j ≤ s.size → ¬ Stands l s a j) ∧ ∀ a', i ≤ a' → a' < a → ∀ j, j ≤ s.size → ¬ Stands l s a' j) ∨
  (r = (0, 0, false) ∧ ∀ a', i ≤ a' → a' ≤ s.size → ∀ j, j ≤ s.size → ¬ Stands l s a' j)
theorem SpanR.uniq {i : Nat} {r r' : Int × Int × Bool} (h : SpanR l s i r) (h' : SpanR l s i r') : r = r' := by
  rcases h with ⟨a, b, rfl, h1, h2, h3, h4, h5, h6⟩ | ⟨rfl, h1⟩
  · rcases h' with ⟨a', b', rfl, g1, g2, g3, g4, g5, g6⟩ | ⟨rfl, g1⟩
    · have ha : a = a' := by
        rcases Nat.lt_trichotomy a a' with z | z | z
        · exact absurd h4 (g6 a h1 z b h3)
        · exact z
        · exact absurd g4 (h6 a' g1 z b' g3)
      subst ha
      have hb : b = b' := by
        rcases Nat.lt_trichotomy b b' with z | z | z
        · exact absurd g4 (h5 b' z g3)
        · exact z
        · exact absurd h4 (g5 b z h3)
      subst hb
      rfl
    · exact absurd h4 (g1 a h1 h2 b h3)
  · rcases h' with ⟨a', b', rfl, g1, g2, g3, g4, g5, g6⟩ | ⟨rfl, g1⟩
    · exact absurd g4 (h1 a' g1 g2 b' g3)
    · rfl
theorem rd_last (x : List Int) (h : 0 < x.length) (hl : x.length ≤ 100000) : wrap64 ((x.length : Int) - 1) = ((x.length - 1 : Nat) : Int) ∧ rd x (wrap64 ((x.length : Int) - 1)) = x.getD (x.length - 1) 0 := by
  have := wrap_pred x.length (by omega) h
  refine ⟨this, ?_⟩
  rw [this]
  unfold rd
  rw [Int.toNat_natCast]
theorem Span_loop (h : Rt l s) : ∀ (d i k : Nat), i + d = s.size + 1 → 100010 + d < k → ∃ r, match_Span.l0 k l s i = some r ∧ SpanR l s i r := by
  have hz := h.size
  intro d
  induction d with
  | zero =>
    intro i k hi hk
    obtain ⟨k, rfl⟩ : ∃ m, k = m + 1 := ⟨k - 1, by omega⟩
    refine ⟨(0, 0, false), ?_, .inr ⟨rfl, fun a' h1 h2 => by omega⟩⟩
    simp only [match_Span.l0]
    rw [if_neg (by omega)]
  | succ d ih =>
    intro i k hi hk
    obtain ⟨k, rfl⟩ : ∃ m, k = m + 1 := ⟨k - 1, by omega⟩
    simp only [match_Span.l0]
    rw [if_pos (by omega), Ends_eq h i (by omega) k (by omega), Option.bind_some]
    have hlen := tr_len (EL l s i) (s.size + 1) 0
    by_cases hp : (ends l s i).length = 0
    · rw [if_neg (by omega), wrap_succ i (by omega)]
      obtain ⟨r, h1, h2⟩ := ih (i + 1) k (by omega) (by omega)
      refine ⟨r, h1, ?_⟩
      have hn := (tr_nil (EL l s i) (s.size + 1) 0).1 hp
      have hno : ∀ j, j ≤ s.size → ¬ Stands l s i j := fun j hj hs => hn j (by omega) (by omega) ((EL_get l s i j hj).2 hs)
      rcases h2 with ⟨a, b, rfl, g1, g2, g3, g4, g5, g6⟩ | ⟨rfl, g1⟩
      · refine .inl ⟨a, b, rfl, by omega, g2, g3, g4, g5, fun a' z1 z2 => ?_⟩
        by_cases e : a' = i
        · subst e; exact hno
        · exact g6 a' (by omega) z2
      · refine .inr ⟨rfl, fun a' z1 z2 => ?_⟩
        by_cases e : a' = i
        · subst e; exact hno
        · exact g1 a' (by omega) z2
    · rw [if_pos (by omega)]
      have hpos : 0 < (ends l s i).length := by omega
      obtain ⟨e1, e2⟩ := rd_last (ends l s i) hpos (by unfold ends at *; omega)
      obtain ⟨m, m1, m2, m3, m4, m5⟩ := tr_last (EL l s i) (s.size + 1) 0 hpos
      rw [e1, if_pos (by omega), if_pos (by omega), ← e1, e2]
      refine ⟨_, rfl, .inl ⟨i, m, ?_, Nat.le_refl _, by omega, by omega, (EL_get l s i m (by omega)).1 m4, fun j h1 h2 hs => m5 j h1 (by omega) ((EL_get l s i j h2).2 hs), fun a' h1 h2 => by omega⟩⟩
      show ((i : Int), (ends l s i).getD ((ends l s i).length - 1) 0, true) = _
      unfold ends
      rw [m1]
theorem Span_eq (h : Rt l s) (i : Nat) : ∃ r, (∀ k, 120020 ≤ k → match_Span.f k l s i = some r) ∧ SpanR l s i r := by
  have hz := h.size
  have hmx : mx (i : Int) 0 = (i : Int) := by unfold mx; omega
  by_cases hi : i ≤ s.size + 1
  · obtain ⟨r, h1, h2⟩ := Span_loop h (s.size + 1 - i) i 120020 (by omega) (by omega)
    refine ⟨r, fun k hk => ?_, h2⟩
    have : match_Span.f 120020 l s i = some r := by unfold match_Span.f; rw [hmx]; exact h1
    exact at_rounds (fun k => match_Span.mono l s i k) hk this
  · refine ⟨(0, 0, false), fun k hk => ?_, .inr ⟨rfl, fun a' h1 h2 => by omega⟩⟩
    obtain ⟨k, rfl⟩ : ∃ m, k = m + 1 := ⟨k - 1, by omega⟩
    unfold match_Span.f
    rw [hmx]
    simp only [match_Span.l0]
    rw [if_neg (by omega)]
/-- The document's Span. -/
theorem RSpan_in (h : Rt l s) (i : Nat) (hi : i ≤ s.size) : ∀ (t k : Nat), i + t ≤ s.size + 1 → t < k → (∀ j, i + t ≤ j → j ≤ s.size → ¬ Stands l s i j) →
    (∃ b : Nat, b ≤ s.size ∧ Stands l s i b ∧ (∀ j, b < j → j ≤ s.size → ¬ Stands l s i j) ∧ dragomanref06_Span.l1 k l s i (EL l s i) (((i + t : Nat) : Int) - 1) = some ((i : Int), (b : Int), true)) ∨
    ((∀ j, j ≤ s.size → ¬ Stands l s i j) ∧ dragomanref06_Span.l1 k l s i (EL l s i) (((i + t : Nat) : Int) - 1) = dragomanref06_Span.l0 (k - t - 1) l s (wrap64 ((i : Int) + 1))) := by
  intro t
  induction t with
  | zero =>
    intro k ht hk hno
    obtain ⟨k, rfl⟩ : ∃ m, k = m + 1 := ⟨k - 1, by omega⟩
    refine .inr ⟨fun j hj hs => ?_, ?_⟩
    · have := (hs.bound hi).1
      exact hno j (by omega) hj hs
    · simp only [dragomanref06_Span.l1]
      rw [if_neg (by omega)]
      rfl
  | succ t ih =>
    intro k ht hk hno
    obtain ⟨k, rfl⟩ : ∃ m, k = m + 1 := ⟨k - 1, by omega⟩
    have hx : ((i + (t + 1) : Nat) : Int) - 1 = ((i + t : Nat) : Int) := by omega
    have hr : rdOf false (EL l s i) ((i + t : Nat) : Int) = (EL l s i).getD (i + t) false := by unfold rdOf; rw [Int.toNat_natCast]
    rw [hx]
    simp only [dragomanref06_Span.l1]
    rw [if_pos (by omega), if_pos (by omega), EL_length, if_pos (by omega), hr]
    by_cases hb : (EL l s i).getD (i + t) false = true
    · rw [if_pos hb]
      exact .inl ⟨i + t, by omega, (EL_get l s i (i + t) (by omega)).1 hb, fun j h1 h2 => hno j (by omega) h2, rfl⟩
    · rw [if_neg hb]
      have hw : wrap64 (((i + t : Nat) : Int) - 1) = ((i + t : Nat) : Int) - 1 := by
        have := h.size
        unfold wrap64; omega
      rw [hw]
      rcases ih k (by omega) (by omega) (fun j h1 h2 hs => by
        by_cases e : j = i + t
        · subst e; exact hb ((EL_get l s i (i + t) h2).2 hs)
        · exact hno j (by omega) h2 hs) with g | ⟨g1, g2⟩
      · exact .inl g
      · exact .inr ⟨g1, by rw [g2]; congr 1; omega⟩
theorem RSpan_loop (h : Rt l s) : ∀ (d i k : Nat), i + d = s.size + 1 → 100010 + d * (s.size + 4) < k → ∃ r, dragomanref06_Span.l0 k l s i = some r ∧ SpanR l s i r := by
  have hz := h.size
  intro d
  induction d with
  | zero =>
    intro i k hi hk
    obtain ⟨k, rfl⟩ : ∃ m, k = m + 1 := ⟨k - 1, by omega⟩
    refine ⟨(0, 0, false), ?_, .inr ⟨rfl, fun a' h1 h2 => by omega⟩⟩
    simp only [dragomanref06_Span.l0]
    rw [if_neg (by omega)]
  | succ d ih =>
    intro i k hi hk
    rw [Nat.add_mul, Nat.one_mul] at hk
    generalize d * (s.size + 4) = D at *
    obtain ⟨k, rfl⟩ : ∃ m, k = m + 1 := ⟨k - 1, by omega⟩
    simp only [dragomanref06_Span.l0]
    rw [if_pos (by omega), (ends_both h i (by omega) k (by omega)).2, Option.bind_some]
    have hsz : (s.size : Int) = ((i + (s.size + 1 - i) : Nat) : Int) - 1 := by omega
    rw [hsz]
    rcases RSpan_in h i (by omega) (s.size + 1 - i) k (by omega) (by omega) (fun j h1 h2 => by omega) with ⟨b, h1, h2, h3, h4⟩ | ⟨h1, h2⟩
    · exact ⟨_, h4, .inl ⟨i, b, rfl, Nat.le_refl _, by omega, h1, h2, h3, fun a' z1 z2 => by omega⟩⟩
    · rw [h2, wrap_succ i (by omega)]
      obtain ⟨r, g1, g2⟩ := ih (i + 1) (k - (s.size + 1 - i) - 1) (by omega) (by omega)
      refine ⟨r, g1, ?_⟩
      rcases g2 with ⟨a, b, rfl, q1, q2, q3, q4, q5, q6⟩ | ⟨rfl, q1⟩
      · refine .inl ⟨a, b, rfl, by omega, q2, q3, q4, q5, fun a' z1 z2 => ?_⟩
        by_cases e : a' = i
        · subst e; exact h1
        · exact q6 a' (by omega) z2
      · refine .inr ⟨rfl, fun a' z1 z2 => ?_⟩
        by_cases e : a' = i
        · subst e; exact h1
        · exact q1 a' (by omega) z2
/-- So many rounds are enough for both. -/
def KS (s : ByteArray) : Nat := 200000 + (s.size + 1) * (s.size + 4)
theorem RSpan_eq (h : Rt l s) (i : Nat) : ∃ r, (∀ k, KS s ≤ k → dragomanref06_Span.f k l s i = some r) ∧ SpanR l s i r := by
  have hz := h.size
  have key : ∃ r, dragomanref06_Span.f (KS s) l s i = some r ∧ SpanR l s i r := by
    obtain ⟨K, hK⟩ : ∃ K, KS s = K + 1 := ⟨KS s - 1, by unfold KS; omega⟩
    unfold dragomanref06_Span.f
    rw [if_neg (by omega), hK]
    simp only [dragomanref06_Span.j0]
    by_cases hi : i ≤ s.size + 1
    · refine RSpan_loop h (s.size + 1 - i) i K (by omega) ?_
      have : (s.size + 1 - i) * (s.size + 4) ≤ (s.size + 1) * (s.size + 4) := Nat.mul_le_mul_right _ (by omega)
      unfold KS at hK
      omega
    · obtain ⟨k, rfl⟩ : ∃ m, K = m + 1 := ⟨K - 1, by unfold KS at hK; omega⟩
      refine ⟨(0, 0, false), ?_, .inr ⟨rfl, fun a' h1 h2 => by omega⟩⟩
      simp only [dragomanref06_Span.l0]
      rw [if_neg (by omega)]
  obtain ⟨r, h1, h2⟩ := key
  exact ⟨r, fun k hk => at_rounds (fun k => dragomanref06_Span.mono l s i k) hk h1, h2⟩
/-- The program's Span and the document's come to the same. -/
theorem Span_both (h : Rt l s) (i : Nat) : ∃ r, (∀ k, KS s ≤ k → match_Span.f k l s i = some r ∧ dragomanref06_Span.f k l s i = some r) ∧ SpanR l s i r := by
  obtain ⟨r, h1, h2⟩ := Span_eq h i
  obtain ⟨r', h3, h4⟩ := RSpan_eq h i
  obtain rfl := h2.uniq h4
  exact ⟨r, fun k hk => ⟨h1 k (by unfold KS at hk; omega), h3 k hk⟩, h2⟩
end
end Go.Proofs.Ythnfmpieoondaaa.P
end

/- The law of Spans, in plain words. -/
section
set_option linter.unusedVariables false
set_option linter.unusedSimpArgs false
namespace Go.Proofs.Ythnfmpieoondaaa.P
open Go.RowKit Go.Proofs.YthnfmpieoondaaaW.PrintWords Go.Proofs.Ythnfmpieoondaaa.QA Go.Proofs.Ythnfmpieoondaaa.QB Go.Proofs.Ythnfmpieoondaaa.QC Go.Proofs.Ythnfmpieoondaaa.G Go.Proofs.Ythnfmpieoondaaa.Mt
section
variable {l : List S55} {s : ByteArray}
theorem SpanR.past {i : Nat} (hi : s.size < i) {r : Int × Int × Bool} (h : SpanR l s i r) : r = (0, 0, false) := by
  rcases h with ⟨a, b, rfl, h1, h2, _⟩ | ⟨rfl, _⟩
  · omega
  · rfl
theorem Spans_loop (h : Rt l s) : ∀ (n i : Nat) (bh : Bool), i ≤ s.size + 1 → 2 * (s.size + 1 - i) + (if bh = true then 0 else 1) ≤ n → ∃ ys : List S28, ys.length ≤ n ∧ ∀ k, KS s + n < k →
    spansL l s k (if bh = true then (i : Int) else -1) i = some ys ∧ ∀ acc : List S28, acc.length + n ≤ 8796093022207 → dragomanref06_Spans.l0 k l s acc i bh = some (acc ++ ys) := by
  have hz := h.size
  intro n
  induction n with
  | zero =>
    intro i bh hi hn
    refine ⟨[], Nat.le_refl _, fun k hk => ?_⟩
    obtain ⟨k, rfl⟩ : ∃ m, k = m + 1 := ⟨k - 1, by omega⟩
    obtain ⟨r, hr, hR⟩ := Span_both h i
    obtain rfl := hR.past (by omega)
    constructor
    · unfold spansL
      rw [if_neg (by omega)]
    · intro acc ha
      simp only [dragomanref06_Spans.l0]
      rw [(hr k (by omega)).2, Option.bind_some, if_neg (by simp), List.append_nil]
  | succ n ih =>
    intro i bh hi hn
    obtain ⟨r, hr, hR⟩ := Span_both h i
    by_cases hp : s.size < i
    · obtain rfl := hR.past hp
      refine ⟨[], Nat.zero_le _, fun k hk => ?_⟩
      obtain ⟨k, rfl⟩ : ∃ m, k = m + 1 := ⟨k - 1, by omega⟩
      constructor
      · unfold spansL
        rw [if_neg (by omega)]
      · intro acc ha
        simp only [dragomanref06_Spans.l0]
        rw [(hr k (by omega)).2, Option.bind_some, if_neg (by simp), List.append_nil]
    · rcases hR with ⟨a, b, rfl, h1, h2, h3, h4, -, -⟩ | ⟨rfl, -⟩
      · have hab := (h4.bound h2).1
        by_cases hc : bh = true ∧ a = i ∧ b = i
        · obtain ⟨rfl, rfl, rfl⟩ := hc
          obtain ⟨ys, hy, hk'⟩ := ih (b + 1) false (by omega) (by simp only [Bool.false_eq_true, if_false, if_true] at hn ⊢; omega)
          refine ⟨ys, by omega, fun k hk => ?_⟩
          obtain ⟨k, rfl⟩ : ∃ m, k = m + 1 := ⟨k - 1, by omega⟩
          obtain ⟨g1, g2⟩ := hk' k (by omega)
          rw [if_neg (by decide)] at g1
          constructor
          · unfold spansL
            rw [if_pos (by omega), (hr k (by omega)).1, Option.bind_some, if_pos rfl, if_pos ⟨rfl, rfl⟩]
            show spansL l s k (-1) (wrap64 ((b : Int) + 1)) = _
            rw [wrap_succ b (by omega)]
            exact g1
          · intro acc ha
            simp only [dragomanref06_Spans.l0]
            rw [(hr k (by omega)).2, Option.bind_some, if_pos rfl, if_pos rfl, if_pos trivial, if_pos rfl, wrap_succ b (by omega)]
            exact g2 acc (by omega)
        · obtain ⟨ys, hy, hk'⟩ := ih b true (by omega) (by
            simp only [if_true] at hn ⊢
            cases bh with
            | true => rw [if_pos rfl] at hn; have : b ≠ i := fun e => hc ⟨rfl, by omega, e⟩; omega
            | false => rw [if_neg (by decide)] at hn; omega)
          refine ⟨⟨(a : Int), (b : Int)⟩ :: ys, by simp; omega, fun k hk => ?_⟩
          obtain ⟨k, rfl⟩ : ∃ m, k = m + 1 := ⟨k - 1, by omega⟩
          obtain ⟨g1, g2⟩ := hk' k (by omega)
          rw [if_pos rfl] at g1
          constructor
          · unfold spansL
            rw [if_pos (by omega), (hr k (by omega)).1, Option.bind_some, if_pos rfl, if_neg (by
              show ¬ ((a : Int) = (b : Int) ∧ (a : Int) = _)
              rintro ⟨e1, e2⟩
              cases bh with
              | true => rw [if_pos rfl] at e2; exact hc ⟨rfl, by omega, by omega⟩
              | false => rw [if_neg (by decide)] at e2; omega)]
            show (spansL l s k (b : Int) (b : Int)).map _ = _
            rw [g1, Option.map_some]
          · intro acc ha
            have hg := g2 (acc ++ [(⟨(a : Int), (b : Int)⟩ : S28)]) (by simp; omega)
            rw [List.append_assoc, List.singleton_append] at hg
            simp only [dragomanref06_Spans.l0]
            rw [(hr k (by omega)).2, Option.bind_some, if_pos rfl]
            dsimp only
            by_cases e1 : (a : Int) = (b : Int)
            · rw [if_pos e1]
              cases bh with
              | true =>
                rw [if_pos rfl, if_neg (fun e => hc ⟨rfl, by omega, by omega⟩), if_pos (by omega)]
                exact hg
              | false =>
                rw [if_neg (by decide), if_pos (by omega)]
                exact hg
            · rw [if_neg e1, if_pos (by omega)]
              exact hg
      · refine ⟨[], Nat.zero_le _, fun k hk => ?_⟩
        obtain ⟨k, rfl⟩ : ∃ m, k = m + 1 := ⟨k - 1, by omega⟩
        constructor
        · unfold spansL
          rw [if_pos (by omega), (hr k (by omega)).1, Option.bind_some, if_neg (by simp)]
        · intro acc ha
          simp only [dragomanref06_Spans.l0]
          rw [(hr k (by omega)).2, Option.bind_some, if_neg (by simp), List.append_nil]
theorem Spans_both (h : Rt l s) : ∃ ys : List S28, ys.length ≤ 100000 ∧ ∀ k, KS s + 2 * s.size + 10 ≤ k → match_Spans.f k l s = some ys ∧ dragomanref06_Spans.f k l s = some ys := by
  have hz := h.size
  obtain ⟨ys, hy, hk⟩ := Spans_loop h (2 * s.size + 3) 0 false (by omega) (by rw [if_neg (by decide)]; omega)
  rw [if_neg (by decide)] at hk
  refine ⟨ys, by omega, fun k hk' => ?_⟩
  obtain ⟨g1, g2⟩ := hk k (by omega)
  constructor
  · unfold match_Spans.f
    have g1' : spansL l s k (-1) 0 = some ys := g1
    rw [g1', Option.bind_some, if_pos (by omega)]
  · have := g2 [] (by simp; omega)
    exact this
end
end Go.Proofs.Ythnfmpieoondaaa.P
end

/- The law of Apart, in plain words. -/
section
set_option linter.unusedVariables false
set_option linter.unusedSimpArgs false
namespace Go.Proofs.Ythnfmpieoondaaa.P
open Go.RowKit Go.Proofs.YthnfmpieoondaaaW.PrintWords Go.Proofs.Ythnfmpieoondaaa.QA Go.Proofs.Ythnfmpieoondaaa.QB Go.Proofs.Ythnfmpieoondaaa.QC Go.Proofs.Ythnfmpieoondaaa.G Go.Proofs.Ythnfmpieoondaaa.Mt
section
variable {l : List S55} {s : ByteArray}
theorem Span_of (h : Rt l s) {k : Nat} {i : Nat} {r : Int × Int × Bool} (hr : match_Span.f k l s i = some r) : SpanR l s i r := by
  obtain ⟨r', h1, h2⟩ := Span_both h i
  have e1 := at_rounds (fun k => match_Span.mono l s i k) (Nat.le_max_left k (KS s)) hr
  have e2 := (h1 (max k (KS s)) (Nat.le_max_right _ _)).1
  rw [e1] at e2
  obtain rfl := Option.some.inj e2
  exact h2
/-- The spans lie one behind the other, each as long as it can be. -/
def Chain (l : List S55) (s : ByteArray) : Nat → Bool → List S28 → Prop
  | _, _, [] => True
  | e, first, x :: xs => ∃ a b : Nat, x = ⟨(a : Int), (b : Int)⟩ ∧ e ≤ a ∧ a ≤ b ∧ b ≤ s.size ∧ (first = false → ¬ (a = b ∧ a = e)) ∧ Stands l s a b ∧ (∀ j, b < j → j ≤ s.size → ¬ Stands l s a j) ∧ Chain l s b false xs
end
end Go.Proofs.Ythnfmpieoondaaa.P
end

/- The functions of Subst, in plain words: what is put in, what is replaced. -/
section
set_option linter.unusedVariables false
set_option linter.unusedSimpArgs false
namespace Go.Proofs.Ythnfmpieoondaaa.P
open Go.RowKit Go.Proofs.YthnfmpieoondaaaW.PrintWords Go.Proofs.Ythnfmpieoondaaa.QA Go.Proofs.Ythnfmpieoondaaa.QB Go.Proofs.Ythnfmpieoondaaa.QC Go.Proofs.Ythnfmpieoondaaa.G Go.Proofs.Ythnfmpieoondaaa.Mt
set_option maxRecDepth 100000 in
theorem shown_at : dragomanlaw07_shown.f 300 = some true := by decide +kernel
theorem shown_ok (k : Nat) (hk : 300 ≤ k) : dragomanlaw07_shown.f k = some true := at_rounds (fun k => dragomanlaw07_shown.mono k) hk shown_at
/-- How many bytes texts have. -/
def tot : List ByteArray → Nat
  | [] => 0
  | x :: xs => x.size + tot xs
/-! ### what is put in -/
theorem joinL_nil (w : ByteArray) : joinL [] w = [] := rfl
theorem joinL_one (x w : ByteArray) : joinL [x] w = x.data.toList := by simp [joinL, Lib.join_one]
theorem joinL_cons (x y : ByteArray) (l : List ByteArray) (w : ByteArray) : joinL (x :: y :: l) w = x.data.toList ++ w.data.toList ++ joinL (y :: l) w := by
  simp only [joinL, List.map_cons, Lib.join_cons, Lib.joinTail, List.flatten_cons, List.append_assoc]
theorem joinL_len : ∀ (l : List ByteArray) (w : ByteArray), (joinL l w).length = tot l + (l.length - 1) * w.size
  | [], w => by simp [joinL_nil, tot]
  | [x], w => by rw [joinL_one, data_length]; simp [tot]
  | x :: y :: l, w => by
    rw [joinL_cons, List.length_append, List.length_append, joinL_len (y :: l) w, data_length, data_length]
    simp only [tot, List.length_cons, Nat.add_sub_cancel, Nat.add_mul, Nat.one_mul]
    omega
theorem joinL_le (l : List ByteArray) (w : ByteArray) : (joinL l w).length ≤ tot l + l.length * w.size := by
  rw [joinL_len]
  have : (l.length - 1) * w.size ≤ l.length * w.size := Nat.mul_le_mul_right _ (by omega)
  omega
def joinB (l : List ByteArray) (w : ByteArray) : ByteArray := ⟨(joinL l w).toArray⟩
theorem joinB_data (l : List ByteArray) (w : ByteArray) : (joinB l w).data.toList = joinL l w := by simp [joinB]
theorem joinB_size (l : List ByteArray) (w : ByteArray) : (joinB l w).size = (joinL l w).length := by rw [← joinB_data, data_length]
theorem Put_is (l : List ByteArray) (w : ByteArray) (h1 : l.length ≤ 140737488355328) (h2 : (joinL l w).length ≤ 140737488355328) : subst_Put.f l w = some (joinB l w) := by
  unfold subst_Put.f strings_Join.f
  rw [if_pos ⟨h1, h2⟩]
  rfl
end Go.Proofs.Ythnfmpieoondaaa.P
end

/- All and First, in plain words: the program's and the document's. -/
section
set_option linter.unusedVariables false
set_option linter.unusedSimpArgs false
set_option linter.unusedSectionVars false
namespace Go.Proofs.Ythnfmpieoondaaa.P
open Go.RowKit Go.Proofs.YthnfmpieoondaaaW.PrintWords Go.Proofs.Ythnfmpieoondaaa.QA Go.Proofs.Ythnfmpieoondaaa.QB Go.Proofs.Ythnfmpieoondaaa.QC Go.Proofs.Ythnfmpieoondaaa.G Go.Proofs.Ythnfmpieoondaaa.Mt
theorem wrap_up (i : Nat) (h : i ≤ 4611686018427387904) : wrap64 ((i : Int) + 1) = ((i + 1 : Nat) : Int) := by unfold wrap64; omega
theorem ext_data (s : ByteArray) (a b : Nat) : (s.extract a b).data.toList = (s.data.toList.drop a).take (b - a) := by simp
theorem ext_size (s : ByteArray) (a b : Nat) (hb : b ≤ s.size) : (s.extract a b).size = b - a := by rw [ByteArray.size_extract, Nat.min_eq_left hb]
theorem app_data (a b : ByteArray) : (a ++ b).data.toList = a.data.toList ++ b.data.toList := by simp [ByteArray.data_append]
theorem rd28_cons (l : List S28) (i : Nat) (h : i < l.length) : l.drop i = rd_T28 l (i : Int) :: l.drop (i + 1) := by
  rw [List.drop_eq_getElem_cons h]
  simp [rd_T28, rdOf, List.getD_eq_getElem?_getD, List.getElem?_eq_getElem h]
/-! ### replaced -/
def Ord (n : Nat) : Nat → List S28 → Prop
  | _, [] => True
  | e, x :: xs => ∃ a b : Nat, x = ⟨(a : Int), (b : Int)⟩ ∧ e ≤ a ∧ a ≤ b ∧ b ≤ n ∧ Ord n b xs
theorem Chain.ord {l : List S55} {s : ByteArray} : ∀ {e : Nat} {f : Bool} {ys : List S28}, Chain l s e f ys → Ord s.size e ys
  | _, _, [], _ => trivial
  | _, _, _ :: _, ⟨a, b, h1, h2, h3, h4, _, _, _, h5⟩ => ⟨a, b, h1, h2, h3, h4, Chain.ord h5⟩
def rep (s : ByteArray) (l : List ByteArray) : Nat → List S28 → List UInt8
  | a, [] => s.data.toList.drop a
  | a, x :: xs => (s.data.toList.drop a).take (x.f0.toNat - a) ++ joinL l (s.extract x.f0.toNat x.f1.toNat) ++ rep s l x.f1.toNat xs
section
variable (s : ByteArray) (l : List ByteArray) (ys : List S28) (hl : l.length ≤ 1000000000) (hs : s.size ≤ 1000000000) (hy : ys.length ≤ 1000000000) (T : Nat) (hT : tot l + l.length * s.size ≤ T)
include hl hs hy hT
theorem put_le (a b : Nat) (hb : b ≤ s.size) : (joinL l (s.extract a b)).length ≤ T := by
  refine Nat.le_trans (joinL_le _ _) (Nat.le_trans (Nat.add_le_add_left (Nat.mul_le_mul_left _ ?_) _) hT)
  rw [ext_size s a b hb]; omega
theorem replaced_loop : ∀ (d i k e : Nat) (acc : List UInt8), i + d = ys.length → d < k → e ≤ s.size → Ord s.size e (ys.drop i) → acc.length + d * (T + s.size) + s.size ≤ 140737488355328 → subst_replaced.l0 k s ys l acc (e : Int) (i : Int) = some (acc ++ rep s l e (ys.drop i)) := by
  intro d
  induction d with
  | zero =>
    intro i k e acc hi hk he ho hb
    obtain ⟨k, rfl⟩ : ∃ m, k = m + 1 := ⟨k - 1, by omega⟩
    simp only [subst_replaced.l0]
    have q0 : (0 : Int) ≤ (e : Int) ∧ (e : Int) ≤ (s.size : Int) ∧ acc.length + (s.extract (e : Int).toNat s.size).size ≤ 140737488355328 := ⟨by omega, by omega, by rw [Int.toNat_natCast, ext_size s e s.size (Nat.le_refl _)]; omega⟩
    rw [if_neg (by omega : ¬ (i : Int) < (ys.length : Int)), if_pos q0, List.drop_eq_nil_of_le (by omega), rep, Int.toNat_natCast, ext_data, List.take_of_length_le (by rw [List.length_drop, data_length]; omega)]
  | succ d ih =>
    intro i k e acc hi hk he ho hb
    obtain ⟨k, rfl⟩ : ∃ m, k = m + 1 := ⟨k - 1, by omega⟩
    rw [rd28_cons ys i (by omega)] at ho ⊢
    obtain ⟨a, b, hx, h1, h2, h3, h4⟩ := ho
    have hp := put_le s l ys hl hs hy T hT a b h3
    have hmul : (d + 1) * (T + s.size) = d * (T + s.size) + (T + s.size) := by rw [Nat.add_mul, Nat.one_mul]
    rw [hmul] at hb
    have hsz : (s.extract e a ++ joinB l (s.extract a b)).size = (a - e) + (joinL l (s.extract a b)).length := by rw [ByteArray.size_append, joinB_size, ext_size s e a (by omega)]
    simp only [subst_replaced.l0]
    rw [if_pos (by omega : (i : Int) < (ys.length : Int)), hx]
    dsimp only
    simp only [Int.toNat_natCast]
    have q0 : (0 : Int) ≤ (i : Int) ∧ (0 : Int) ≤ (e : Int) ∧ (e : Int) ≤ (a : Int) ∧ (a : Int) ≤ (b : Int) ∧ (b : Int) ≤ (s.size : Int) := ⟨by omega, by omega, by omega, by omega, by omega⟩
    have q1 : l.length ≤ 140737488355328 := Nat.le_trans hl (by decide)
    have q2 : (joinL l (s.extract a b)).length ≤ 140737488355328 := by omega
    have q3 : (s.extract e a).size + (joinB l (s.extract a b)).size ≤ 9223372036854775807 := Nat.le_trans (by rw [joinB_size, ext_size s e a (by omega)]; omega : _ ≤ 140737488355328) (by decide)
    have q4 : acc.length + (s.extract e a ++ joinB l (s.extract a b)).size ≤ 140737488355328 := by rw [hsz]; omega
    have q5 := ih (i + 1) k b (acc ++ (s.extract e a ++ joinB l (s.extract a b)).data.toList) (by omega) (by omega) h3 h4 (by rw [List.length_append, data_length, hsz]; omega)
    rw [if_pos q0, Put_is l _ q1 q2, Option.bind_some, if_pos ⟨q3, q4⟩, wrap_up i (by omega), q5, app_data, joinB_data, ext_data, rep]
    simp only [Int.toNat_natCast, List.append_assoc]
end
end Go.Proofs.Ythnfmpieoondaaa.P
end
