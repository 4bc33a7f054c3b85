/- The plain laws of layer 1: of names, and of texts in digits: each holds of the plain functions, at every input. No Go and no memory stands here. -/
import Derived.Test.YtldagaiphggnnaaDoorPlainB
namespace Go.Proofs.YtldagaiphggnnaaDoor.Pure
open Go.RowKit Go.Proofs.YtldagaiphggnnaaDoorW.PrintWords Go.Proofs.YtldagaiphggnnaaDoorW.PrintLast Go.Proofs.YtldagaiphggnnaaDoor.G Go.Proofs.YtldagaiphggnnaaDoor.GA Go.Proofs.YtldagaiphggnnaaDoor.QA Go.Proofs.YtldagaiphggnnaaDoor.PA

theorem u8_range {c : Int} (hc : (Lit.int .u8 c).wf = true) : 0 ≤ c ∧ c ≤ 255 := by
  simp [Lit.wf, IntKind.min, IntKind.max, IntKind.signed, IntKind.bits] at hc
  omega
theorem rname_step (s : ByteArray) (i k : Nat) (h : i < s.size) (hs : s.size ≤ 70368744177000) :
    dragomanref01_IsName.l0 (k + 1) s i = if oddB (bt s i) = true ∨ (i = 0 ∧ 48 ≤ bt s i ∧ bt s i ≤ 57) then some false else dragomanref01_IsName.l0 k s ((i + 1 : Nat) : Int) := by
  have w : wrap64 ((i : Int) + 1) = ((i + 1 : Nat) : Int) := by unfold wrap64; omega
  have p1 : (i : Int) < (s.size : Int) := by omega
  have p2 : (0 : Int) ≤ i := Int.natCast_nonneg i
  have p3 : ((i : Int) = 0) ↔ i = 0 := by omega
  have hi0 : ((i : Int) = 0) = (i = 0) := propext p3
  simp only [dragomanref01_IsName.l0, w]
  rw [if_pos p1, if_pos p2]
  generalize hF : dragomanref01_IsName.l0 k s ((i + 1 : Nat) : Int) = F
  generalize hc : bt s i = c
  clear hF hc h hs w p1 p2
  by_cases hT : oddB c = true ∨ (i = 0 ∧ 48 ≤ c ∧ c ≤ 57)
  · rw [if_pos hT]
    rw [odd_iff] at hT
    by_cases a1 : c ≥ 65
    · rw [if_pos a1]
      by_cases a2 : c ≤ 90
      · omega
      · rw [if_neg a2]
        by_cases a3 : c ≥ 97
        · rw [if_pos a3]
          by_cases a4 : c ≤ 122
          · omega
          · rw [if_neg a4, if_neg (by omega)]
            by_cases a5 : (i : Int) = 0
            · rw [if_pos a5]
            · rw [if_neg a5, if_neg (by omega), if_pos (by omega)]
        · rw [if_neg a3, if_neg (by omega)]
          by_cases a5 : (i : Int) = 0
          · rw [if_pos a5]
          · rw [if_neg a5, if_neg (by omega), if_pos (by omega)]
    · rw [if_neg a1, if_neg (by omega), if_neg (by omega)]
      by_cases a5 : (i : Int) = 0
      · rw [if_pos a5]
      · rw [if_neg a5]
        by_cases a6 : c < 48
        · rw [if_pos a6]
        · rw [if_neg a6, if_pos (by omega)]
  · rw [if_neg hT]
    have hT1 : ¬ (c ≠ 95 ∧ (c < 48 ∨ 57 < c) ∧ (c < 65 ∨ 90 < c) ∧ (c < 97 ∨ 122 < c)) := fun h => hT (.inl ((odd_iff c).2 h))
    have hT2 : ¬ (i = 0 ∧ 48 ≤ c ∧ c ≤ 57) := fun h => hT (.inr h)
    clear hT
    by_cases a1 : c ≥ 65
    · rw [if_pos a1]
      by_cases a2 : c ≤ 90
      · rw [if_pos a2]
      · rw [if_neg a2]
        by_cases a3 : c ≥ 97
        · rw [if_pos a3, if_pos (by omega)]
        · rw [if_neg a3, if_pos (by omega)]
    · rw [if_neg a1, if_neg (by omega), if_neg (by omega), if_neg (by omega), if_neg (by omega), if_neg (by omega)]
theorem rname_loop (s : ByteArray) (hs : s.size ≤ 70368744177000) : ∀ d i k, 0 < i → i + d = s.size → d < k →
    dragomanref01_IsName.l0 k s i = some (!((bytesOf s).drop i).any oddB) := by
  intro d
  induction d with
  | zero =>
    intro i k h0 hi hk
    obtain ⟨k, rfl⟩ : ∃ m, k = m + 1 := ⟨k - 1, by omega⟩
    rw [List.drop_eq_nil_of_le (by rw [bytesOf_length]; omega)]
    simp only [dragomanref01_IsName.l0]
    rw [if_neg (by omega)]
    simp only [List.any_nil, Bool.not_false]
    exact congrArg some (decide_eq_true (by omega))
  | succ d ih =>
    intro i k h0 hi hk
    obtain ⟨k, rfl⟩ : ∃ m, k = m + 1 := ⟨k - 1, by omega⟩
    rw [rname_step s i k (by omega) hs]
    have hl : i < (bytesOf s).length := by rw [bytesOf_length]; omega
    rw [List.drop_eq_getElem_cons hl, ← bt_get s i (by omega), List.any_cons]
    by_cases ho : oddB (bt s i) = true
    · rw [if_pos (.inl ho), ho]; rfl
    · rw [if_neg (by rintro (h | h); exact ho h; omega), ih (i + 1) k (by omega) (by omega) (by omega)]
      simp only [Bool.not_eq_true] at ho
      rw [ho]; rfl
theorem rname_f (s : ByteArray) (k : Nat) (hs : s.size ≤ 70368744177000) (hk : s.size + 1 < k) : dragomanref01_IsName.f k s = some (isN (bytesOf s)) := by
  unfold dragomanref01_IsName.f
  obtain ⟨k, rfl⟩ : ∃ m, k = m + 1 := ⟨k - 1, by omega⟩
  by_cases h : 0 < s.size
  · obtain ⟨r, hr, hr2⟩ := head_eq s h
    have := rname_step s 0 k h hs
    rw [show ((0 : Nat) : Int) = 0 from rfl] at this
    rw [this, hr]
    simp only [isN, List.any_cons]
    by_cases ho : oddB (bt s 0) = true
    · rw [if_pos (.inl ho), ho]; simp
    · simp only [Bool.not_eq_true] at ho
      by_cases hd : 48 ≤ bt s 0 ∧ bt s 0 ≤ 57
      · rw [if_pos (.inr ⟨trivial, hd⟩)]
        have h1 : decide (bt s 0 < 48) = false := decide_eq_false (by omega)
        have h2 : decide (57 < bt s 0) = false := decide_eq_false (by omega)
        rw [h1, h2]; rfl
      · rw [if_neg (by rintro (h | h); rw [ho] at h; cases h; exact hd h.2), rname_loop s hs (s.size - 1) (0 + 1) k (by omega) (by omega) (by omega), ho, hr2]
        have h1 : (decide (bt s 0 < 48) || decide (57 < bt s 0)) = true := by
          by_cases q : bt s 0 < 48
          · rw [decide_eq_true q]; rfl
          · rw [decide_eq_true (show 57 < bt s 0 by omega)]; simp
        rw [h1]
        rfl
  · have : bytesOf s = [] := List.eq_nil_of_length_eq_zero (by rw [bytesOf_length]; omega)
    rw [this]
    simp only [dragomanref01_IsName.l0]
    rw [if_neg (by omega)]
    exact congrArg some (decide_eq_false (by omega))

/-- Texts in digits, names and digits are as the document says. -/
theorem HexTells : dragomanlaw01_HexTells.Pure := by
  intro s c hs hc
  have hc' : 0 ≤ c ∧ c ≤ 255 := by
    exact u8_range hc
  refine ⟨3 * s.size + 100, ?_⟩
  unfold dragomanlaw01_HexTells.f
  rw [shown_f]
  simp only [Option.bind_some]
  by_cases h : (s.size : Int) > 5000
  · rw [if_pos h]
  · rw [if_neg h, unhex_f s _ (by omega) (by omega), runhex_f s _ (by omega) (by omega), hex_f s (by omega), rhex_f s _ (by omega) (by omega), name_f s (by omega), rname_f s _ (by omega) (by omega)]
    simp only [Option.bind_some, if_true, beq_self_eq_true]
    rw [show 3 * s.size + 100 = (3 * s.size + 98) + 2 from rfl, digit_f c _ hc'.1 hc'.2, rdigit_f c _ hc'.1 hc'.2]
    simp

/-- What was told in digits is read; what is read was told. -/
theorem HexBack : dragomanlaw01_HexBack.Pure := by
  intro s t hs ht
  refine ⟨2 * s.size + t.size + 100, ?_⟩
  unfold dragomanlaw01_HexBack.f
  rw [shown_f, Option.bind_some]
  have hw : wrap64 ((s.size : Int) + (t.size : Int)) = (s.size : Int) + t.size := by unfold wrap64; omega
  by_cases h : (s.size : Int) + t.size > 5000
  · rw [if_pos (by rw [hw]; exact h)]
  · have hz := size_hexV s
    have hN : isN (bytesOf (hexV s)) = true := by
      rw [bytes_hexV]
      have ho : (enc (bytesOf s)).any oddB = false := by
        rw [List.any_eq_false]
        intro x hx
        simp only [enc, List.mem_flatMap, List.mem_cons, List.not_mem_nil, or_false] at hx
        obtain ⟨b, hb, hx⟩ := hx
        have := bytes_of s b hb
        rw [odd_iff]
        rcases hx with rfl | rfl <;> (unfold dg; split <;> omega)
      simp only [isN, List.any_cons, ho]
      rfl
    have hw2 : wrap64 (1 + wrap64 (2 * (s.size : Int))) = 1 + 2 * s.size := by unfold wrap64; omega
    have hz2 : ((hexV s).size : Int) = 1 + 2 * s.size := by omega
    rw [if_neg (by rw [hw]; exact h), hex_f s (by omega), Option.bind_some, unhex_f (hexV s) _ (by omega) (by omega), Option.bind_some, unhex_f t _ (by omega) (by omega), Option.bind_some, unV_hexV, name_f _ (by omega), hN]
    rw [if_pos rfl, if_pos rfl, if_pos rfl, Option.bind_some, if_pos rfl, if_pos (hz2.trans hw2.symm)]
    rcases unV_cases t with ⟨b, hb⟩ | hb
    · have e := unV_of hb
      have hzb : b.size ≤ 5000 := by have := size_hexV b; rw [e] at this; omega
      rw [hb, if_pos rfl, hex_f b (by omega), e, Option.bind_some]
      exact congrArg some (beq_self_eq_true _)
    · rw [hb, if_neg (by decide)]

/-- Texts in digits, one behind the other without their x, are the texts', one behind the other. -/
theorem HexRows : dragomanlaw01_HexRows.Pure := by
  intro a b ha hb
  refine ⟨2 * a.size + 2 * b.size + 100, ?_⟩
  unfold dragomanlaw01_HexRows.f
  rw [shown_f, Option.bind_some]
  have hw : wrap64 ((a.size : Int) + (b.size : Int)) = (a.size : Int) + b.size := by unfold wrap64; omega
  by_cases h : (a.size : Int) + b.size > 3000
  · rw [if_pos (by rw [hw]; exact h)]
  · have hza := size_hexV a
    have hzb := size_hexV b
    have hj : hexV a ++ (hexV b).extract 1 (hexV b).size = hexV (a ++ b) := by
      apply ext_bytes
      have he : bytesOf ((hexV b).extract 1 (hexV b).size) = enc (bytesOf b) := by
        have : (bytesOf (hexV b)).drop 1 = enc (bytesOf b) := by rw [bytes_hexV]; rfl
        rw [← this]
        unfold bytesOf
        rw [ByteArray.data_extract, Array.toList_extract, List.extract_eq_take_drop, List.take_of_length_le (by simp), List.map_drop]
      rw [bytesOf_append, bytes_hexV, he, bytes_hexV, bytesOf_append, enc_append]
      rfl
    have hzx : ((hexV b).extract 1 (hexV b).size).size = 2 * b.size := by rw [ByteArray.size_extract]; omega
    have hzab : (a ++ b).size = a.size + b.size := ByteArray.size_append
    have hzh := size_hexV (a ++ b)
    have q1 : ¬ ((hexV b).size : Int) = 0 := by omega
    have q2 : (1 : Int) ≤ ((hexV b).size : Int) := by omega
    have q3 : 1 + 2 * a.size + 2 * b.size ≤ 9223372036854775807 := Nat.le_trans (by omega : 1 + 2 * a.size + 2 * b.size ≤ 10000) (by decide)
    have q4 : a.size + b.size ≤ 9223372036854775807 := Nat.le_trans (by omega : a.size + b.size ≤ 10000) (by decide)
    have hi : (hexV a = hexV b) ↔ a = b := by
      constructor
      · intro e
        have := unV_hexV a
        rw [e, unV_hexV] at this
        simp only [Prod.mk.injEq, and_true] at this
        exact this.symm
      · rintro rfl; rfl
    have e1 : ((hexV a).toList == (hexV b).toList) = (a.toList == b.toList) := by
      rw [Bool.eq_iff_iff, beq_iff_eq, beq_iff_eq, toList_inj, toList_inj, hi]
    rw [if_neg (by rw [hw]; exact h), hex_f a (by omega), Option.bind_some, hex_f b (by omega), Option.bind_some]
    rw [if_neg q1, if_pos q2, if_pos (by rw [hzx, hza]; exact q3), hj, unhex_f _ _ (by omega) (by omega), unV_hexV, Option.bind_some]
    rw [if_pos rfl, if_pos rfl, if_pos q4, if_pos rfl, hex_f (a ++ b) (by omega), Option.bind_some, if_pos rfl, e1]
    exact congrArg some (beq_self_eq_true _)

/-- A name with a name's byte behind it is a name; with another byte it is none. -/
theorem HexNames : dragomanlaw01_HexNames.Pure := by
  intro s c hs hc
  obtain ⟨c0, c1⟩ := u8_range hc
  refine ⟨10, ?_⟩
  unfold dragomanlaw01_HexNames.f
  rw [shown_f]
  simp only [Option.bind_some]
  by_cases h : (s.size : Int) > 1000
  · rw [if_pos h]
  · have hB : Bytes [c] := by intro x hx; simp at hx; subst hx; exact ⟨c0, c1⟩
    have hz : (strOfNums [c]).size = 1 := strOfNums_size _
    have h1 : isN (bytesOf (strOfNums [c])) = ((decide (c < 48) || decide (57 < c)) && !oddB c) := by
      rw [bytesOf_strOfNums _ hB]; simp [isN]
    have h2 : (s ++ strOfNums [c]).size = s.size + 1 := by rw [ByteArray.size_append, hz]
    have h3 : (strOfNums [c] ++ s).size = s.size + 1 := by rw [ByteArray.size_append, hz]; omega
    have h4 : isN (bytesOf (⟨#[]⟩ : ByteArray)) = false := rfl
    have h5 : isN (bytesOf s) = true → isN (bytesOf (s ++ strOfNums [c])) = !oddB c := by
      intro hn
      rw [bytesOf_append, bytesOf_strOfNums _ hB]
      cases hb : bytesOf s with
      | nil => rw [hb] at hn; cases hn
      | cons d r =>
        rw [hb] at hn
        simp only [isN, List.cons_append, List.any_cons, List.any_append, List.any_nil, Bool.or_false] at hn ⊢
        simp only [Bool.and_eq_true, Bool.not_eq_true', Bool.or_eq_false_iff] at hn
        obtain ⟨n1, n2, n3⟩ := hn
        rw [n1, n2, n3]
        rfl
    have h6 : 48 ≤ c → c ≤ 57 → isN (bytesOf (strOfNums [c] ++ s)) = false := by
      intro q1 q2
      rw [bytesOf_append, bytesOf_strOfNums _ hB]
      simp only [isN, List.cons_append]
      rw [decide_eq_false (by omega), decide_eq_false (by omega)]
      rfl
    rw [if_neg h, name_f s (by omega), name_f _ (by omega), h1]
    simp only [Option.bind_some]
    have q7 : s.size + 1 ≤ 9223372036854775807 := Nat.le_trans (by omega : s.size + 1 ≤ 10000) (by decide)
    have q8 : 1 + s.size ≤ 9223372036854775807 := by rw [Nat.add_comm]; exact q7
    have q9 : (s ++ strOfNums [c]).size ≤ 9223372036854775807 := by rw [h2]; exact q7
    have q10 : (strOfNums [c] ++ s).size ≤ 9223372036854775807 := by rw [h3]; exact q7
    have J1 : ∀ x5 x8 : Bool, x5 = true → (x8 = true → 48 ≤ c ∧ c ≤ 57) → ∀ k, dragomanlaw01_HexNames.j1 (k + 1) s c x5 x8 false = some true := by
      intro x5 x8 e5 e8 k
      subst e5
      simp only [dragomanlaw01_HexNames.j1, Bool.false_eq_true, if_false, if_true]
      rw [name_f _ (by decide), h4]
      simp only [Option.bind_some, Bool.false_eq_true, if_false]
      cases x8 with
      | false => rfl
      | true =>
        obtain ⟨q1, q2⟩ := e8 rfl
        simp only [if_true]
        rw [hz, if_pos q8, name_f _ q10, h6 q1 q2]
        rfl
    have J0 : ∀ x8 : Bool, (x8 = true ↔ 48 ≤ c ∧ c ≤ 57) → ∀ k, dragomanlaw01_HexNames.j0 (k + 2) s c true (isN (bytesOf s)) ((decide (c < 48) || decide (57 < c)) && !oddB c) x8 = some true := by
      intro x8 e8 k
      simp only [dragomanlaw01_HexNames.j0]
      cases hn : isN (bytesOf s) with
      | false =>
        simp only [Bool.false_eq_true, if_false]
        exact J1 true x8 rfl e8.1 k
      | true =>
        simp only [if_true, Option.bind_some]
        rw [hz, if_pos q7, name_f _ q9, h5 hn]
        simp only [Option.bind_some]
        by_cases hd : 48 ≤ c ∧ c ≤ 57
        · have e : x8 = true := e8.2 hd
          have ho : oddB c = false := by
            rw [Bool.eq_false_iff, ne_eq, odd_iff]; omega
          rw [ho, e, decide_eq_false (show ¬ c < 48 by omega), decide_eq_false (show ¬ 57 < c by omega)]
          exact J1 true true rfl (fun _ => hd) k
        · have e : x8 = false := by
            cases x8 with
            | false => rfl
            | true => exact absurd (e8.1 rfl) hd
          have hq : (decide (c < 48) || decide (57 < c)) = true := by
            by_cases q : c < 48
            · rw [decide_eq_true q]; rfl
            · rw [decide_eq_true (show 57 < c by omega)]; simp
          rw [hq, e]
          cases oddB c with
          | true => exact J1 true false rfl (fun h => by cases h) k
          | false => exact J1 true false rfl (fun h => by cases h) k
    by_cases h48 : c ≥ 48
    · rw [if_pos h48]
      exact J0 _ (by rw [decide_eq_true_eq]; omega) 8
    · rw [if_neg h48]
      have hf : (false = true) ↔ (48 ≤ c ∧ c ≤ 57) := by
        constructor
        · intro h; cases h
        · intro h; omega
      exact J0 false hf 8
end Go.Proofs.YtldagaiphggnnaaDoor.Pure
