/- The plain law of layer 1: names, and what the document's own texts come to. No Go and no memory stands here. -/
import Derived.Test.YtldagaiphggnnaaDoorPlainA
namespace Go.Proofs.YtldagaiphggnnaaDoor.PA
open Go.RowKit Go.Proofs.YtldagaiphggnnaaDoorW.PrintWords Go.Proofs.YtldagaiphggnnaaDoorW.PrintLast Go.Proofs.YtldagaiphggnnaaDoor.G Go.Proofs.YtldagaiphggnnaaDoor.GA Go.Proofs.YtldagaiphggnnaaDoor.QA

/-! ### names -/
def isN (l : List Int) : Bool := match l with
  | [] => false
  | c :: r => (decide (c < 48) || decide (57 < c)) && !((c :: r).any oddB)
theorem idxOdd_any (l : List Int) : ∀ d i, i + d = l.length → decide (0 ≤ idxOdd l i d) = (l.drop i).any oddB
  | 0, i, h => by rw [List.drop_eq_nil_of_le (by omega)]; rfl
  | d + 1, i, h => by
    rw [List.drop_eq_getElem_cons (show i < l.length by omega), List.any_cons, idxOdd]
    have e : l.getD i 0 = l[i] := by rw [List.getD_eq_getElem?_getD, List.getElem?_eq_getElem (by omega)]; rfl
    rw [e]
    by_cases ho : oddB l[i] = true
    · rw [if_pos ho, ho]; simp
    · rw [if_neg ho, idxOdd_any l d (i + 1) (by omega)]
      simp only [Bool.not_eq_true] at ho
      rw [ho]; rfl
theorem head_eq (s : ByteArray) (h : 0 < s.size) : ∃ r, bytesOf s = bt s 0 :: r ∧ r = (bytesOf s).drop 1 := by
  have := List.drop_eq_getElem_cons (l := bytesOf s) (i := 0) (by rw [bytesOf_length]; exact h)
  rw [List.drop_zero] at this
  refine ⟨_, ?_, rfl⟩
  have e : bt s 0 = (bytesOf s)[0]'(by rw [bytesOf_length]; exact h) := bt_get s 0 h
  rw [e]
  exact this
theorem nameB_eq (s : ByteArray) : nameB s = isN (bytesOf s) := by
  unfold nameB
  rw [idxOdd_any _ _ _ (by rw [bytesOf_length]; omega), List.drop_zero]
  by_cases h : 0 < s.size
  · obtain ⟨r, hr, _⟩ := head_eq s h
    rw [hr]
    simp [isN, h]
  · have : bytesOf s = [] := List.eq_nil_of_length_eq_zero (by rw [bytesOf_length]; omega)
    rw [this]
    simp [isN, h]
theorem name_f (s : ByteArray) (h : s.size ≤ 9223372036854775807) : hex_IsName.f s = some (isN (bytesOf s)) := by
  unfold hex_IsName.f
  rw [if_pos h, nameB_eq]
theorem odd_iff (c : Int) : oddB c = true ↔ (c ≠ 95 ∧ (c < 48 ∨ 57 < c) ∧ (c < 65 ∨ 90 < c) ∧ (c < 97 ∨ 122 < c)) := by
  unfold oddB
  simp [and_assoc]

/-! ### the examples -/
theorem itoa10 : Lib.itoa (-10) = [45, 49, 48] := by
  unfold Lib.itoa
  rw [if_pos (by omega)]
  rw [show Int.natAbs (-10) = 10 from rfl]
  unfold Lib.decDigits
  rw [dif_neg (by omega)]
  unfold Lib.decDigits
  rw [dif_pos (by omega)]
  rfl
theorem shown_f : dragomanlaw01_shown.f = some true := by
  unfold dragomanlaw01_shown.f
  rw [hex_f _ (by decide)]
  simp only [Option.bind_some]
  rw [if_pos (by decide +kernel)]
  unfold hex_Figures.f figT
  rw [if_pos (by omega), itoa10]
  simp only [Option.bind_some]
  rw [if_pos (by decide +kernel), name_f _ (by decide)]
  decide +kernel

/-! ### the reference -/
theorem rdigit_f (c : Int) (k : Nat) (h0 : 0 ≤ c) (h1 : c ≤ 255) : dragomanref01_Digit.f (k + 2) c = some (dig c) := by
  unfold dragomanref01_Digit.f dig
  have w0 : wrap64 c = c := by unfold wrap64; omega
  have w1 : wrap64 (c - 48) = c - 48 := by unfold wrap64; omega
  have w2 : wrap64 (c - 87) = c - 87 := by unfold wrap64; omega
  have w3 : wrap64 (c - 55) = c - 55 := by unfold wrap64; omega
  by_cases a : c ≥ 48
  · rw [if_pos a]
    by_cases b : c ≤ 57
    · simp only [dragomanref01_Digit.j0, b, decide_true, if_true, w0, w1]; rw [if_pos ⟨a, trivial⟩]
    · simp only [dragomanref01_Digit.j0, b, decide_false, Bool.false_eq_true, if_false]
      rw [if_neg (fun h : 48 ≤ c ∧ False => h.2)]
      by_cases d : c ≥ 97
      · rw [if_pos d]
        by_cases e : c ≤ 102
        · simp only [dragomanref01_Digit.j1, e, decide_true, if_true, w0, w2]; rw [if_pos ⟨d, trivial⟩]
        · simp only [dragomanref01_Digit.j1, e, decide_false, Bool.false_eq_true, if_false]
          rw [if_neg (fun h : 97 ≤ c ∧ False => h.2), if_pos (by omega), if_neg (by omega), if_neg (by omega)]
      · rw [if_neg d]
        simp only [dragomanref01_Digit.j1, Bool.false_eq_true, if_false, w0, w3]
        rw [if_neg (by omega : ¬ (97 ≤ c ∧ c ≤ 102))]
        by_cases e : c ≥ 65
        · rw [if_pos e]
          by_cases g : c ≤ 70
          · rw [if_pos g, if_pos ⟨e, g⟩]
          · rw [if_neg g, if_neg (by omega)]
        · rw [if_neg e, if_neg (by omega)]
  · rw [if_neg a]
    simp only [dragomanref01_Digit.j0, dragomanref01_Digit.j1, Bool.false_eq_true, if_false]
    rw [if_neg (by omega), if_neg (by omega), if_neg (by omega), if_neg (by omega), if_neg (by omega)]
theorem rdg (d : Int) (h0 : 0 ≤ d) (h1 : d < 16) : dragomanref01_digit.f d = some (strOfNums [dg d]) := by
  unfold dragomanref01_digit.f dg
  by_cases h : d < 10
  · rw [if_pos h, if_pos h, show (48 + d) % 256 = 48 + d by omega]
  · rw [if_neg h, if_neg h, show (87 + d) % 256 = 87 + d by omega]
theorem rhex_loop (s : ByteArray) (h : s.size ≤ 70368744177000) : ∀ d i k (acc : ByteArray), i + d = s.size → d < k → acc.size + 2 * d ≤ 422212465065984 →
    dragomanref01_Hex.l0 k s acc i = some (acc ++ strOfNums (enc ((bytesOf s).drop i))) := by
  intro d
  induction d with
  | zero =>
    intro i k acc hi hk ha
    obtain ⟨k, rfl⟩ : ∃ m, k = m + 1 := ⟨k - 1, by omega⟩
    rw [List.drop_eq_nil_of_le (by rw [bytesOf_length]; omega)]
    simp only [dragomanref01_Hex.l0]
    rw [if_neg (by omega)]
    refine congrArg some ?_
    apply ext_bytes
    rw [bytesOf_append, bytesOf_strOfNums _ (enc_bytes _ (fun _ h => by simp at h))]
    simp [enc]
  | succ d ih =>
    intro i k acc hi hk ha
    have p1 : (i : Int) < (s.size : Int) := by omega
    have p2 : (0 : Int) ≤ i := Int.natCast_nonneg i
    have c2 : acc.size + 1 + 1 ≤ 9223372036854775807 := Nat.le_trans (by omega : acc.size + 1 + 1 ≤ 422212465065984) (by decide)
    have c1 : acc.size + 1 ≤ 9223372036854775807 := Nat.le_trans (Nat.le_succ _) c2
    obtain ⟨k, rfl⟩ : ∃ m, k = m + 1 := ⟨k - 1, by omega⟩
    obtain ⟨b0, b1⟩ := bt_range s i
    have hl : i < (bytesOf s).length := by rw [bytesOf_length]; omega
    have t1 : (Int.tdiv (bt s i) 16) % 256 = bt s i / 16 := by rw [Int.tdiv_eq_ediv_of_nonneg b0]; omega
    have t2 : Int.tmod (bt s i) 16 = bt s i % 16 := by rw [Int.tmod_eq_emod_of_nonneg b0]
    have w3 : wrap64 ((i : Int) + 1) = ((i + 1 : Nat) : Int) := by unfold wrap64; omega
    have z1 : (strOfNums [dg (bt s i / 16)]).size = 1 := strOfNums_size _
    have z2 : (strOfNums [dg (bt s i % 16)]).size = 1 := strOfNums_size _
    simp only [dragomanref01_Hex.l0, t1, t2]
    rw [if_pos p1, if_pos p2, rdg _ (by omega) (by omega)]
    simp only [Option.bind_some]
    rw [z1, if_pos c1, rdg _ (by omega) (by omega)]
    simp only [Option.bind_some]
    rw [ByteArray.size_append, z1, z2, if_pos c2, w3, ih (i + 1) k _ (by omega) (by omega) (by rw [ByteArray.size_append, ByteArray.size_append, z1, z2]; omega)]
    refine congrArg some ?_
    rw [List.drop_eq_getElem_cons hl, ← bt_get s i (by omega)]
    have hB : Bytes (bt s i :: (bytesOf s).drop (i + 1)) := by
      intro x hx
      rcases List.mem_cons.1 hx with rfl | hx
      · exact ⟨b0, b1⟩
      · exact bytes_of s x (List.mem_of_mem_drop hx)
    have hB2 : Bytes ((bytesOf s).drop (i + 1)) := fun x hx => hB x (by simp [hx])
    have g1 : Bytes [dg (bt s i / 16)] := by intro x hx; simp at hx; subst hx; unfold dg; split <;> omega
    have g2 : Bytes [dg (bt s i % 16)] := by intro x hx; simp at hx; subst hx; unfold dg; split <;> omega
    apply ext_bytes
    simp only [bytesOf_append]
    rw [bytesOf_strOfNums _ g1, bytesOf_strOfNums _ g2, bytesOf_strOfNums _ (enc_bytes _ hB2), bytesOf_strOfNums _ (enc_bytes _ hB)]
    simp [enc]
theorem rhex_f (s : ByteArray) (k : Nat) (h : s.size ≤ 70368744177000) (hk : s.size < k) : dragomanref01_Hex.f k s = some (hexV s) := by
  unfold dragomanref01_Hex.f
  have := rhex_loop s h s.size 0 k ⟨#[120]⟩ (by omega) hk (by rw [show (ByteArray.mk #[120]).size = 1 from rfl]; omega)
  refine this.trans ?_
  rw [List.drop_zero]
  refine congrArg some ?_
  apply ext_bytes
  rw [bytesOf_append, bytes_hexV, bytesOf_strOfNums _ (enc_bytes _ (bytes_of s))]
  rfl
/-- The bytes that the reference reads, whatever stands there. -/
def rd2 : List Int → List Int
  | a :: b :: r => ((16 * dig a + dig b) % 256) :: rd2 r
  | _ => []
theorem rd2_bytes : ∀ l, Bytes (rd2 l)
  | [] => fun _ h => by simp [rd2] at h
  | [_] => fun _ h => by simp [rd2] at h
  | a :: b :: r => by
    intro x hx
    rcases List.mem_cons.1 hx with rfl | hx
    · omega
    · exact rd2_bytes r x hx
theorem dig_dg (d : Int) (h0 : 0 ≤ d) (h1 : d < 16) : dig (dg d) = d := (hd_some (hd_dg d h0 h1)).1
theorem rd2_enc : ∀ l, Bytes l → rd2 (enc l) = l
  | [], _ => rfl
  | b :: r, h => by
    have hb := h b (by simp)
    have e : enc (b :: r) = dg (b / 16) :: dg (b % 16) :: enc r := by simp [enc]
    rw [e, rd2, dig_dg _ (by omega) (by omega), dig_dg _ (by omega) (by omega), rd2_enc r (fun x hx => h x (by simp [hx]))]
    congr 1
    omega
theorem rd2_length : ∀ l, (rd2 l).length ≤ l.length
  | [] => by simp [rd2]
  | [_] => by simp [rd2]
  | a :: b :: r => by have := rd2_length r; simp [rd2]; omega
theorem dig_range (c : Int) : -1 ≤ dig c ∧ dig c ≤ 15 := by unfold dig; split <;> (try split) <;> (try split) <;> omega
theorem runhex_loop (s : ByteArray) (h : s.size ≤ 70368744177000) : ∀ d i k acc, s.size ≤ i + 2 * d + 1 → d + 2 * s.size + 20 < k → acc.length + 2 * d ≤ 70368744177000 → i ≤ s.size + 5 → Bytes acc → 2 * acc.length ≤ i →
    dragomanref01_Unhex.l0 k s acc i = some (if hexV (strOfNums (acc ++ rd2 ((bytesOf s).drop i))) = s then (strOfNums (acc ++ rd2 ((bytesOf s).drop i)), 0) else (⟨#[]⟩, 2)) := by
  intro d
  induction d with
  | zero =>
    intro i k acc hi hk ha h5 hB h2
    obtain ⟨k, rfl⟩ : ∃ m, k = m + 1 := ⟨k - 1, by omega⟩
    have w1 : wrap64 ((i : Int) + 1) = i + 1 := by unfold wrap64; omega
    have e : rd2 ((bytesOf s).drop i) = [] := by
      have hl : ((bytesOf s).drop i).length ≤ 1 := by rw [List.length_drop, bytesOf_length]; omega
      match (bytesOf s).drop i, hl with
      | [], _ => rfl
      | [_], _ => rfl
    simp only [dragomanref01_Unhex.l0, w1]
    rw [if_neg (by omega), e, List.append_nil, rhex_f _ _ (by rw [strOfNums_size]; omega) (by rw [strOfNums_size]; omega)]
    simp only [Option.bind_some, toList_inj]
    split <;> rfl
  | succ d ih =>
    intro i k acc hi hk ha h5 hB h2
    have w1 : wrap64 ((i : Int) + 1) = i + 1 := by unfold wrap64; omega
    by_cases hlt : i + 1 < s.size
    · obtain ⟨k, rfl⟩ : ∃ m, k = m + 1 := ⟨k - 1, by omega⟩
      have w2 : wrap64 ((i : Int) + 2) = ((i + 2 : Nat) : Int) := by unfold wrap64; omega
      obtain ⟨a0, a1⟩ := bt_range s i
      obtain ⟨b0, b1⟩ := bt_range s (i + 1)
      obtain ⟨c0, c1⟩ := dig_range (bt s i)
      obtain ⟨d0, d1⟩ := dig_range (bt s (i + 1))
      have w3 : wrap64 (16 * dig (bt s i)) = 16 * dig (bt s i) := by unfold wrap64; omega
      have w4 : wrap64 (16 * dig (bt s i) + dig (bt s (i + 1))) = 16 * dig (bt s i) + dig (bt s (i + 1)) := by unfold wrap64; omega
      simp only [dragomanref01_Unhex.l0, w1]
      rw [if_pos (by omega), if_pos (by omega), if_pos (by omega)]
      obtain ⟨q, rfl⟩ : ∃ m, k = m + 2 := ⟨k - 2, by omega⟩
      simp only [rdigit_f _ _ a0 a1, rdigit_f _ _ b0 b1, Option.bind_some, w3, w4, w2]
      rw [if_pos (by omega), if_pos (by omega), ih (i + 2) _ _ (by omega) (by omega) (by simp; omega) (by omega) ?_ (by simp; omega)]
      · have l1 : i < (bytesOf s).length := by rw [bytesOf_length]; omega
        have l2 : i + 1 < (bytesOf s).length := by rw [bytesOf_length]; omega
        rw [List.drop_eq_getElem_cons l1, List.drop_eq_getElem_cons l2, ← bt_get s i (by omega), ← bt_get s (i + 1) (by omega), rd2]
        rw [List.append_assoc]
        rfl
      · intro x hx
        rcases List.mem_append.1 hx with hx | hx
        · exact hB x hx
        · simp at hx; subst hx; omega
    · exact ih i k acc (by omega) (by omega) (by omega) h5 hB h2
theorem runhex_f (s : ByteArray) (k : Nat) (h : s.size ≤ 35184372088000) (hk : 3 * s.size + 40 < k) : dragomanref01_Unhex.f k s = some (unV s) := by
  unfold dragomanref01_Unhex.f
  refine (runhex_loop s (by omega) s.size 1 k [] (by omega) (by omega) (by simp; omega) (by omega) (fun _ h => by simp at h) (by simp)).trans ?_
  refine congrArg some ?_
  simp only [List.nil_append]
  rcases unV_cases s with ⟨b, hb⟩ | hb
  · have e := unV_of hb
    have e2 : bytesOf s = 120 :: enc (bytesOf b) := by rw [← e, bytes_hexV]
    have e3 : strOfNums (rd2 ((bytesOf s).drop 1)) = b := by
      rw [e2]
      show strOfNums (rd2 (enc (bytesOf b))) = b
      rw [rd2_enc _ (bytes_of b), strOfNums_bytesOf]
    rw [e3, if_pos e, hb]
  · rw [hb]
    by_cases e : hexV (strOfNums (rd2 ((bytesOf s).drop 1))) = s
    · have := unV_hexV (strOfNums (rd2 ((bytesOf s).drop 1)))
      rw [e, hb] at this
      simp at this
    · rw [if_neg e]
end Go.Proofs.YtldagaiphggnnaaDoor.PA
