/- The plain law of layer 2: rows of bytes, figures, and where a numeral's parts stand. No Go and no memory stands here. -/
import Derived.Test.YtgodmbcebpbdiaaDoorXMd
set_option linter.unusedVariables false
set_option linter.unusedSimpArgs false
namespace Go.Proofs.YtgodmbcebpbdiaaDoor.PD
open Go.RowKit Go.Proofs.YtgodmbcebpbdiaaDoorW.PrintWords Go.Proofs.YtgodmbcebpbdiaaDoorW.PrintLast Go.Proofs.YtgodmbcebpbdiaaDoor.G Go.Proofs.YtgodmbcebpbdiaaDoor.Q1

/-! ### bytes -/
theorem ext_bytes {a b : ByteArray} (h : bytesOf a = bytesOf b) : a = b := by
  unfold bytesOf at h
  have h2 : a.data.toList = b.data.toList := by
    refine List.map_inj_right (f := fun b : UInt8 => (b.toNat : Int)) ?_ |>.1 h
    intro x y hxy
    exact UInt8.toNat_inj.1 (Int.ofNat.inj hxy)
  exact ByteArray.ext (Array.ext' h2)
theorem bytesOf_append (a b : ByteArray) : bytesOf (a ++ b) = bytesOf a ++ bytesOf b := by
  unfold bytesOf
  rw [ByteArray.data_append, Array.toList_append, List.map_append]
theorem bt_get (s : ByteArray) (i : Nat) (h : i < s.size) : bt s i = (bytesOf s)[i]'(by rw [bytesOf_length]; exact h) := by
  unfold bt bytesOf
  simp [h]
  rfl
theorem drop_cons (s : ByteArray) (i : Nat) (h : i < s.size) : (bytesOf s).drop i = bt s i :: (bytesOf s).drop (i + 1) := by
  have hl : i < (bytesOf s).length := by rw [bytesOf_length]; exact h
  rw [List.drop_eq_getElem_cons hl, ← bt_get s i h]
theorem wrap_id {x : Int} (h0 : -9223372036854775808 ≤ x) (h1 : x ≤ 9223372036854775807) : wrap64 x = x := by unfold wrap64; omega
/-! ### figures in a row -/
def isD (c : Int) : Bool := decide (48 ≤ c) && decide (c ≤ 57)
theorem isD_iff (c : Int) : isD c = true ↔ 48 ≤ c ∧ c ≤ 57 := by simp [isD]
def isB (c : Int) : Bool := c == 32 || c == 9
theorem isB_iff (c : Int) : isB c = true ↔ c = 32 ∨ c = 9 := by simp [isB]
def val (acc : Nat) : List Int → Nat
  | [] => acc
  | c :: r => val (10 * acc + (c - 48).toNat) r
theorem val_ge : ∀ l acc, acc ≤ val acc l
  | [], acc => Nat.le_refl _
  | c :: r, acc => Nat.le_trans (by omega) (val_ge r _)
/-! ### where a numeral's parts stand -/
/-- Its end, of a row from its point on. -/
def endL (l : List Int) : Nat := if l.head? = some 46 then 1 + ((l.drop 1).takeWhile isD).length else 0
def signL (l : List Int) : Nat := if l.head? = some 45 ∨ l.head? = some 43 then 1 else 0
theorem s_l2 (s : ByteArray) (hs : s.size ≤ 281474976710656) (x2 x3 x4 : Int) : ∀ d (i k : Nat), i + d = s.size → d < k →
    dec_span.l2 k s x2 x3 x4 (i : Int) = some (x2, x3, x4, ((i + (((bytesOf s).drop i).takeWhile isD).length : Nat) : Int))
  | 0, i, k, h, hk => by
    obtain ⟨k, rfl⟩ : ∃ m, k = m + 1 := ⟨k - 1, by omega⟩
    rw [dec_span.l2, if_neg (by omega), List.drop_eq_nil_of_le (by rw [bytesOf_length]; omega)]; rfl
  | d + 1, i, k, h, hk => by
    obtain ⟨k, rfl⟩ : ∃ m, k = m + 1 := ⟨k - 1, by omega⟩
    rw [dec_span.l2, if_pos (by omega), if_pos (by omega), drop_cons s i (by omega), List.takeWhile_cons]
    by_cases h1 : bt s i ≥ 48
    · by_cases h2 : bt s i ≤ 57
      · rw [if_pos h1, if_pos h2, (isD_iff _).2 ⟨h1, h2⟩, wrap_id (by omega) (by omega), show ((i : Int) + 1) = ((i + 1 : Nat) : Int) from rfl, s_l2 s hs x2 x3 x4 d (i + 1) k (by omega) (by omega)]
        simp only [if_true, List.length_cons, Option.some.injEq, Prod.mk.injEq, true_and]; omega
      · rw [if_pos h1, if_neg h2, show isD (bt s i) = false from by rw [Bool.eq_false_iff, ne_eq, isD_iff]; omega]; rfl
    · rw [if_neg h1, show isD (bt s i) = false from by rw [Bool.eq_false_iff, ne_eq, isD_iff]; omega]; rfl
theorem s_j5 (s : ByteArray) (hs : s.size ≤ 281474976710656) (x2 x3 : Int) (c k : Nat) (hc : c ≤ s.size) (hk : s.size + 5 < k) :
    dec_span.j5 k s x2 x3 (c : Int) = some (x2, x3, (c : Int), ((c + endL ((bytesOf s).drop c) : Nat) : Int)) := by
  obtain ⟨k, rfl⟩ : ∃ m, k = m + 2 := ⟨k - 2, by omega⟩
  rw [dec_span.j5]
  by_cases h : c < s.size
  · rw [if_pos (by omega), if_pos (by omega), dec_span.j6, drop_cons s c h]
    unfold endL
    by_cases hd : bt s c = 46
    · rw [hd, if_pos (by decide), if_pos (by simp), wrap_id (by omega) (by omega), show ((c : Int) + 1) = ((c + 1 : Nat) : Int) from rfl, s_l2 s hs x2 x3 c (s.size - (c + 1)) (c + 1) k (by omega) (by omega)]
      simp only [List.drop_succ_cons, List.drop_zero, Option.some.injEq, Prod.mk.injEq, true_and]; omega
    · rw [if_neg (by simpa using hd), if_neg (by simpa using hd)]; simp
  · rw [if_neg (by omega), dec_span.j6, if_neg (by decide), List.drop_eq_nil_of_le (by rw [bytesOf_length]; omega)]; rfl
theorem s_l1 (s : ByteArray) (hs : s.size ≤ 281474976710656) (x2 x3 : Int) : ∀ d (i k : Nat), i + d = s.size → d + s.size + 7 < k →
    dec_span.l1 k s x2 x3 (i : Int) = some (x2, x3, ((i + (((bytesOf s).drop i).takeWhile isD).length : Nat) : Int),
      ((i + (((bytesOf s).drop i).takeWhile isD).length + endL (((bytesOf s).drop i).dropWhile isD) : Nat) : Int))
  | 0, i, k, h, hk => by
    obtain ⟨k, rfl⟩ : ∃ m, k = m + 1 := ⟨k - 1, by omega⟩
    rw [dec_span.l1, if_neg (by omega), s_j5 s hs x2 x3 i k (by omega) (by omega), List.drop_eq_nil_of_le (by rw [bytesOf_length]; omega)]; rfl
  | d + 1, i, k, h, hk => by
    obtain ⟨k, rfl⟩ : ∃ m, k = m + 1 := ⟨k - 1, by omega⟩
    rw [dec_span.l1, if_pos (by omega), if_pos (by omega)]
    have hj := s_j5 s hs x2 x3 i k (by omega) (by omega)
    rw [drop_cons s i (by omega)] at hj ⊢
    rw [List.takeWhile_cons, List.dropWhile_cons]
    by_cases h1 : bt s i ≥ 48
    · by_cases h2 : bt s i ≤ 57
      · rw [if_pos h1, if_pos h2, (isD_iff _).2 ⟨h1, h2⟩, wrap_id (by omega) (by omega), show ((i : Int) + 1) = ((i + 1 : Nat) : Int) from rfl, s_l1 s hs x2 x3 d (i + 1) k (by omega) (by omega)]
        simp only [if_true, List.length_cons, Option.some.injEq, Prod.mk.injEq, true_and]; omega
      · rw [if_pos h1, if_neg h2, show isD (bt s i) = false from by rw [Bool.eq_false_iff, ne_eq, isD_iff]; omega, hj]; rfl
    · rw [if_neg h1, show isD (bt s i) = false from by rw [Bool.eq_false_iff, ne_eq, isD_iff]; omega, hj]; rfl
/-- What follows the sign, of a row. -/
def tailL (l : List Int) : List Int := l.drop (signL l)
def spanFrom (a : Nat) (l : List Int) : Int × Int × Int × Int :=
  ((a : Int), ((a + signL l : Nat) : Int), ((a + signL l + ((tailL l).takeWhile isD).length : Nat) : Int), ((a + signL l + ((tailL l).takeWhile isD).length + endL ((tailL l).dropWhile isD) : Nat) : Int))
theorem s_j3 (s : ByteArray) (hs : s.size ≤ 281474976710656) (a b k : Nat) (hb : b ≤ s.size) (hk : 2 * s.size + 9 < k) :
    dec_span.j3 k s (a : Int) (b : Int) = some ((a : Int), (b : Int), ((b + (((bytesOf s).drop b).takeWhile isD).length : Nat) : Int),
      ((b + (((bytesOf s).drop b).takeWhile isD).length + endL (((bytesOf s).drop b).dropWhile isD) : Nat) : Int)) := by
  obtain ⟨k, rfl⟩ : ∃ m, k = m + 1 := ⟨k - 1, by omega⟩
  rw [dec_span.j3, s_l1 s hs a b (s.size - b) b k (by omega) (by omega)]
theorem s_j1 (s : ByteArray) (hs : s.size ≤ 281474976710656) (a k : Nat) (ha : a ≤ s.size) (hk : 2 * s.size + 12 < k) :
    dec_span.j1 k s (a : Int) = some (spanFrom a ((bytesOf s).drop a)) := by
  obtain ⟨k, rfl⟩ : ∃ m, k = m + 2 := ⟨k - 2, by omega⟩
  rw [dec_span.j1]
  by_cases h : a < s.size
  · rw [if_pos (by omega), if_pos (by omega)]
    have key : ∀ b : Bool, signL ((bytesOf s).drop a) = (if b then 1 else 0) → dec_span.j2 (k + 1) s (a : Int) (a : Int) b = some (spanFrom a ((bytesOf s).drop a)) := by
      intro b hb
      rw [dec_span.j2]
      unfold spanFrom tailL
      rw [hb]
      cases b with
      | true =>
        rw [if_pos rfl, if_pos rfl, wrap_id (by omega) (by omega), show ((a : Int) + 1) = ((a + 1 : Nat) : Int) from rfl, s_j3 s hs a (a + 1) k (by omega) (by omega), List.drop_drop]
      | false =>
        rw [if_neg (by decide), if_neg (by decide), s_j3 s hs a a k (by omega) (by omega)]; rfl
    have hh : ((bytesOf s).drop a).head? = some (bt s a) := by rw [drop_cons s a h]; rfl
    by_cases h1 : bt s a = 45
    · rw [if_pos h1]
      exact key true (by unfold signL; rw [hh, h1]; rfl)
    · rw [if_neg h1]
      apply key
      unfold signL
      rw [hh]
      by_cases h2 : bt s a = 43
      · rw [h2]; rfl
      · simp [h1, h2]
  · rw [if_neg (by omega), dec_span.j2, if_neg (by decide), s_j3 s hs a a k (by omega) (by omega), List.drop_eq_nil_of_le (by rw [bytesOf_length]; omega)]
    rfl
theorem s_l0 (s : ByteArray) (hs : s.size ≤ 281474976710656) : ∀ d (i k : Nat), i + d = s.size → d + 2 * s.size + 13 < k →
    dec_span.l0 k s (i : Int) = some (spanFrom (i + (((bytesOf s).drop i).takeWhile isB).length) (((bytesOf s).drop i).dropWhile isB))
  | 0, i, k, h, hk => by
    obtain ⟨k, rfl⟩ : ∃ m, k = m + 1 := ⟨k - 1, by omega⟩
    rw [dec_span.l0, if_neg (by omega), s_j1 s hs i k (by omega) (by omega), List.drop_eq_nil_of_le (by rw [bytesOf_length]; omega)]; rfl
  | d + 1, i, k, h, hk => by
    obtain ⟨k, rfl⟩ : ∃ m, k = m + 1 := ⟨k - 1, by omega⟩
    rw [dec_span.l0, if_pos (by omega), if_pos (by omega)]
    have hj := s_j1 s hs i k (by omega) (by omega)
    rw [drop_cons s i (by omega)] at hj ⊢
    rw [List.takeWhile_cons, List.dropWhile_cons]
    have go : isB (bt s i) = true → dec_span.l0 k s (wrap64 ((i : Int) + 1)) = some (spanFrom (i + (if isB (bt s i) = true then bt s i :: ((bytesOf s).drop (i + 1)).takeWhile isB else []).length) (if isB (bt s i) = true then ((bytesOf s).drop (i + 1)).dropWhile isB else bt s i :: (bytesOf s).drop (i + 1))) := by
      intro hb
      rw [if_pos hb, if_pos hb, wrap_id (by omega) (by omega), show ((i : Int) + 1) = ((i + 1 : Nat) : Int) from rfl, s_l0 s hs d (i + 1) k (by omega) (by omega), List.length_cons]
      congr 2; omega
    by_cases h1 : bt s i = 32
    · rw [if_pos h1]; exact go ((isB_iff _).2 (Or.inl h1))
    · by_cases h2 : bt s i = 9
      · rw [if_neg h1, if_pos h2]; exact go ((isB_iff _).2 (Or.inr h2))
      · rw [if_neg h1, if_neg h2, hj, show isB (bt s i) = false from by rw [Bool.eq_false_iff, ne_eq, isB_iff]; omega]; rfl
theorem span_f (s : ByteArray) (hs : s.size ≤ 281474976710656) (k : Nat) (hk : 3 * s.size + 13 < k) :
    dec_span.f k s = some (spanFrom ((bytesOf s).takeWhile isB).length ((bytesOf s).dropWhile isB)) := by
  have := s_l0 s hs s.size 0 k (by omega) (by omega)
  rw [List.drop_zero, Nat.zero_add] at this
  exact this
end Go.Proofs.YtgodmbcebpbdiaaDoor.PD
