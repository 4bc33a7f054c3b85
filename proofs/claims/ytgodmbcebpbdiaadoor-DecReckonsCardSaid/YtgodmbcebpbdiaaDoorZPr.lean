/- Texts of this seat, put together: each part tells above it what it proves and on what conditions. -/
import Derived.Test.YtgodmbcebpbdiaaDoorZMd
import Derived.Test.YtgodmbcebpbdiaaDoorZQRx1
import Derived.Test.YtgodmbcebpbdiaaDoorZQRx2
/- The plain law of layer 2: rows of bytes, figures, and where a numeral's parts stand. No Go and no memory stands here. -/
section
set_option linter.unusedVariables false
set_option linter.unusedSimpArgs false
namespace Go.Proofs.YtgodmbcebpbdiaaDoor.PR
open Go.RowKit Go.Proofs.YtgodmbcebpbdiaaDoorW.PrintWords Go.Proofs.YtgodmbcebpbdiaaDoorW.PrintLast Go.Proofs.YtgodmbcebpbdiaaDoor.G Go.Proofs.YtgodmbcebpbdiaaDoor.Q1

/-! ### bytes -/
theorem ext_bytes {a b : ByteArray} (h : bytesOf a = bytesOf b) : a = b := by
  unfold bytesOf at h
  have h2 : a.data.toList = b.data.toList := by
    refine List.map_inj_right (f := fun b : UInt8 => (b.toNat : Int)) ?_ |>.1 h
    intro x y hxy
    exact UInt8.toNat_inj.1 (Int.ofNat.inj hxy)
  exact ByteArray.ext (Array.ext' h2)
theorem bytesOf_append (a b : ByteArray) : bytesOf (a ++ b) = bytesOf a ++ bytesOf b := by
  unfold bytesOf
  rw [ByteArray.data_append, Array.toList_append, List.map_append]
theorem bt_get (s : ByteArray) (i : Nat) (h : i < s.size) : bt s i = (bytesOf s)[i]'(by rw [bytesOf_length]; exact h) := by
  unfold bt bytesOf
  simp [h]
  rfl
theorem drop_cons (s : ByteArray) (i : Nat) (h : i < s.size) : (bytesOf s).drop i = bt s i :: (bytesOf s).drop (i + 1) := by
  have hl : i < (bytesOf s).length := by rw [bytesOf_length]; exact h
  rw [List.drop_eq_getElem_cons hl, ← bt_get s i h]
theorem wrap_id {x : Int} (h0 : -9223372036854775808 ≤ x) (h1 : x ≤ 9223372036854775807) : wrap64 x = x := by unfold wrap64; omega
/-! ### figures in a row -/
def isD (c : Int) : Bool := decide (48 ≤ c) && decide (c ≤ 57)
theorem isD_iff (c : Int) : isD c = true ↔ 48 ≤ c ∧ c ≤ 57 := by simp [isD]
def isB (c : Int) : Bool := c == 32 || c == 9
theorem isB_iff (c : Int) : isB c = true ↔ c = 32 ∨ c = 9 := by simp [isB]
def val (acc : Nat) : List Int → Nat
  | [] => acc
  | c :: r => val (10 * acc + (c - 48).toNat) r
theorem val_ge : ∀ l acc, acc ≤ val acc l
  | [], acc => Nat.le_refl _
  | c :: r, acc => Nat.le_trans (by omega) (val_ge r _)
/-! ### where a numeral's parts stand -/
/-- Its end, of a row from its point on. -/
def endL (l : List Int) : Nat := if l.head? = some 46 then 1 + ((l.drop 1).takeWhile isD).length else 0
def signL (l : List Int) : Nat := if l.head? = some 45 ∨ l.head? = some 43 then 1 else 0
theorem s_l2 (s : ByteArray) (hs : s.size ≤ 281474976710656) (x2 x3 x4 : Int) : ∀ d (i k : Nat), i + d = s.size → d < k →
    dec_span.l2 k s x2 x3 x4 (i : Int) = some (x2, x3, x4, ((i + (((bytesOf s).drop i).takeWhile isD).length : Nat) : Int))
  | 0, i, k, h, hk => by
    obtain ⟨k, rfl⟩ : ∃ m, k = m + 1 := ⟨k - 1, by omega⟩
    rw [dec_span.l2, if_neg (by omega), List.drop_eq_nil_of_le (by rw [bytesOf_length]; omega)]; rfl
  | d + 1, i, k, h, hk => by
    obtain ⟨k, rfl⟩ : ∃ m, k = m + 1 := ⟨k - 1, by omega⟩
    rw [dec_span.l2, if_pos (by omega), if_pos (by omega), drop_cons s i (by omega), List.takeWhile_cons]
    by_cases h1 : bt s i ≥ 48
    · by_cases h2 : bt s i ≤ 57
      · rw [if_pos h1, if_pos h2, (isD_iff _).2 ⟨h1, h2⟩, wrap_id (by omega) (by omega), show ((i : Int) + 1) = ((i + 1 : Nat) : Int) from rfl, s_l2 s hs x2 x3 x4 d (i + 1) k (by omega) (by omega)]
        simp only [if_true, List.length_cons, Option.some.injEq, Prod.mk.injEq, true_and]; omega
      · rw [if_pos h1, if_neg h2, show isD (bt s i) = false from by rw [Bool.eq_false_iff, ne_eq, isD_iff]; omega]; rfl
    · rw [if_neg h1, show isD (bt s i) = false from by rw [Bool.eq_false_iff, ne_eq, isD_iff]; omega]; rfl
theorem s_j5 (s : ByteArray) (hs : s.size ≤ 281474976710656) (x2 x3 : Int) (c k : Nat) (hc : c ≤ s.size) (hk : s.size + 5 < k) :
    dec_span.j5 k s x2 x3 (c : Int) = some (x2, x3, (c : Int), ((c + endL ((bytesOf s).drop c) : Nat) : Int)) := by
  obtain ⟨k, rfl⟩ : ∃ m, k = m + 2 := ⟨k - 2, by omega⟩
  rw [dec_span.j5]
  by_cases h : c < s.size
  · rw [if_pos (by omega), if_pos (by omega), dec_span.j6, drop_cons s c h]
    unfold endL
    by_cases hd : bt s c = 46
    · rw [hd, if_pos (by decide), if_pos (by simp), wrap_id (by omega) (by omega), show ((c : Int) + 1) = ((c + 1 : Nat) : Int) from rfl, s_l2 s hs x2 x3 c (s.size - (c + 1)) (c + 1) k (by omega) (by omega)]
      simp only [List.drop_succ_cons, List.drop_zero, Option.some.injEq, Prod.mk.injEq, true_and]; omega
    · rw [if_neg (by simpa using hd), if_neg (by simpa using hd)]; simp
  · rw [if_neg (by omega), dec_span.j6, if_neg (by decide), List.drop_eq_nil_of_le (by rw [bytesOf_length]; omega)]; rfl
theorem s_l1 (s : ByteArray) (hs : s.size ≤ 281474976710656) (x2 x3 : Int) : ∀ d (i k : Nat), i + d = s.size → d + s.size + 7 < k →
    dec_span.l1 k s x2 x3 (i : Int) = some (x2, x3, ((i + (((bytesOf s).drop i).takeWhile isD).length : Nat) : Int),
      ((i + (((bytesOf s).drop i).takeWhile isD).length + endL (((bytesOf s).drop i).dropWhile isD) : Nat) : Int))
  | 0, i, k, h, hk => by
    obtain ⟨k, rfl⟩ : ∃ m, k = m + 1 := ⟨k - 1, by omega⟩
    rw [dec_span.l1, if_neg (by omega), s_j5 s hs x2 x3 i k (by omega) (by omega), List.drop_eq_nil_of_le (by rw [bytesOf_length]; omega)]; rfl
  | d + 1, i, k, h, hk => by
    obtain ⟨k, rfl⟩ : ∃ m, k = m + 1 := ⟨k - 1, by omega⟩
    rw [dec_span.l1, if_pos (by omega), if_pos (by omega)]
    have hj := s_j5 s hs x2 x3 i k (by omega) (by omega)
    rw [drop_cons s i (by omega)] at hj ⊢
    rw [List.takeWhile_cons, List.dropWhile_cons]
    by_cases h1 : bt s i ≥ 48
    · by_cases h2 : bt s i ≤ 57
      · rw [if_pos h1, if_pos h2, (isD_iff _).2 ⟨h1, h2⟩, wrap_id (by omega) (by omega), show ((i : Int) + 1) = ((i + 1 : Nat) : Int) from rfl, s_l1 s hs x2 x3 d (i + 1) k (by omega) (by omega)]
        simp only [if_true, List.length_cons, Option.some.injEq, Prod.mk.injEq, true_and]; omega
      · rw [if_pos h1, if_neg h2, show isD (bt s i) = false from by rw [Bool.eq_false_iff, ne_eq, isD_iff]; omega, hj]; rfl
    · rw [if_neg h1, show isD (bt s i) = false from by rw [Bool.eq_false_iff, ne_eq, isD_iff]; omega, hj]; rfl
/-- What follows the sign, of a row. -/
def tailL (l : List Int) : List Int := l.drop (signL l)
def spanFrom (a : Nat) (l : List Int) : Int × Int × Int × Int :=
  ((a : Int), ((a + signL l : Nat) : Int), ((a + signL l + ((tailL l).takeWhile isD).length : Nat) : Int), ((a + signL l + ((tailL l).takeWhile isD).length + endL ((tailL l).dropWhile isD) : Nat) : Int))
theorem s_j3 (s : ByteArray) (hs : s.size ≤ 281474976710656) (a b k : Nat) (hb : b ≤ s.size) (hk : 2 * s.size + 9 < k) :
    dec_span.j3 k s (a : Int) (b : Int) = some ((a : Int), (b : Int), ((b + (((bytesOf s).drop b).takeWhile isD).length : Nat) : Int),
      ((b + (((bytesOf s).drop b).takeWhile isD).length + endL (((bytesOf s).drop b).dropWhile isD) : Nat) : Int)) := by
  obtain ⟨k, rfl⟩ : ∃ m, k = m + 1 := ⟨k - 1, by omega⟩
  rw [dec_span.j3, s_l1 s hs a b (s.size - b) b k (by omega) (by omega)]
theorem s_j1 (s : ByteArray) (hs : s.size ≤ 281474976710656) (a k : Nat) (ha : a ≤ s.size) (hk : 2 * s.size + 12 < k) :
    dec_span.j1 k s (a : Int) = some (spanFrom a ((bytesOf s).drop a)) := by
  obtain ⟨k, rfl⟩ : ∃ m, k = m + 2 := ⟨k - 2, by omega⟩
  rw [dec_span.j1]
  by_cases h : a < s.size
  · rw [if_pos (by omega), if_pos (by omega)]
    have key : ∀ b : Bool, signL ((bytesOf s).drop a) = (if b then 1 else 0) → dec_span.j2 (k + 1) s (a : Int) (a : Int) b = some (spanFrom a ((bytesOf s).drop a)) := by
      intro b hb
      rw [dec_span.j2]
      unfold spanFrom tailL
      rw [hb]
      cases b with
      | true =>
        rw [if_pos rfl, if_pos rfl, wrap_id (by omega) (by omega), show ((a : Int) + 1) = ((a + 1 : Nat) : Int) from rfl, s_j3 s hs a (a + 1) k (by omega) (by omega), List.drop_drop]
      | false =>
        rw [if_neg (by decide), if_neg (by decide), s_j3 s hs a a k (by omega) (by omega)]; rfl
    have hh : ((bytesOf s).drop a).head? = some (bt s a) := by rw [drop_cons s a h]; rfl
    by_cases h1 : bt s a = 45
    · rw [if_pos h1]
      exact key true (by unfold signL; rw [hh, h1]; rfl)
    · rw [if_neg h1]
      apply key
      unfold signL
      rw [hh]
      by_cases h2 : bt s a = 43
      · rw [h2]; rfl
      · simp [h1, h2]
  · rw [if_neg (by omega), dec_span.j2, if_neg (by decide), s_j3 s hs a a k (by omega) (by omega), List.drop_eq_nil_of_le (by rw [bytesOf_length]; omega)]
    rfl
theorem s_l0 (s : ByteArray) (hs : s.size ≤ 281474976710656) : ∀ d (i k : Nat), i + d = s.size → d + 2 * s.size + 13 < k →
    dec_span.l0 k s (i : Int) = some (spanFrom (i + (((bytesOf s).drop i).takeWhile isB).length) (((bytesOf s).drop i).dropWhile isB))
  | 0, i, k, h, hk => by
    obtain ⟨k, rfl⟩ : ∃ m, k = m + 1 := ⟨k - 1, by omega⟩
    rw [dec_span.l0, if_neg (by omega), s_j1 s hs i k (by omega) (by omega), List.drop_eq_nil_of_le (by rw [bytesOf_length]; omega)]; rfl
  | d + 1, i, k, h, hk => by
    obtain ⟨k, rfl⟩ : ∃ m, k = m + 1 := ⟨k - 1, by omega⟩
    rw [dec_span.l0, if_pos (by omega), if_pos (by omega)]
    have hj := s_j1 s hs i k (by omega) (by omega)
    rw [drop_cons s i (by omega)] at hj ⊢
    rw [List.takeWhile_cons, List.dropWhile_cons]
    have go : isB (bt s i) = true → dec_span.l0 k s (wrap64 ((i : Int) + 1)) = some (spanFrom (i + (if isB (bt s i) = true then bt s i :: ((bytesOf s).drop (i + 1)).takeWhile isB else []).length) (if isB (bt s i) = true then ((bytesOf s).drop (i + 1)).dropWhile isB else bt s i :: (bytesOf s).drop (i + 1))) := by
      intro hb
      rw [if_pos hb, if_pos hb, wrap_id (by omega) (by omega), show ((i : Int) + 1) = ((i + 1 : Nat) : Int) from rfl, s_l0 s hs d (i + 1) k (by omega) (by omega), List.length_cons]
      congr 2; omega
    by_cases h1 : bt s i = 32
    · rw [if_pos h1]; exact go ((isB_iff _).2 (Or.inl h1))
    · by_cases h2 : bt s i = 9
      · rw [if_neg h1, if_pos h2]; exact go ((isB_iff _).2 (Or.inr h2))
      · rw [if_neg h1, if_neg h2, hj, show isB (bt s i) = false from by rw [Bool.eq_false_iff, ne_eq, isB_iff]; omega]; rfl
theorem span_f (s : ByteArray) (hs : s.size ≤ 281474976710656) (k : Nat) (hk : 3 * s.size + 13 < k) :
    dec_span.f k s = some (spanFrom ((bytesOf s).takeWhile isB).length ((bytesOf s).dropWhile isB)) := by
  have := s_l0 s hs s.size 0 k (by omega) (by omega)
  rw [List.drop_zero, Nat.zero_add] at this
  exact this
end Go.Proofs.YtgodmbcebpbdiaaDoor.PR
end

/- The plain law of layer 2: what a number's text is, and that it is read as the number. No Go and no memory stands here. -/
section
set_option linter.unusedVariables false
set_option linter.unusedSimpArgs false
namespace Go.Proofs.YtgodmbcebpbdiaaDoor.PR
open Go.RowKit Go.Proofs.YtgodmbcebpbdiaaDoorW.PrintWords Go.Proofs.YtgodmbcebpbdiaaDoorW.PrintLast Go.Proofs.YtgodmbcebpbdiaaDoor.G Go.Proofs.YtgodmbcebpbdiaaDoor.Q1

/-! ### a number's figures -/
def dec (u : Nat) : List Int := (Lib.decDigits u).map fun c => (c.toNat : Int)
theorem dec_lt {u : Nat} (h : u < 10) : dec u = [48 + (u : Int)] := by
  unfold dec; rw [Lib.decDigits, dif_pos h]
  simp only [List.map_cons, List.map_nil, UInt8.toNat_ofNat']
  congr 1; omega
theorem dec_ge {u : Nat} (h : ¬ u < 10) : dec u = dec (u / 10) ++ [48 + ((u % 10 : Nat) : Int)] := by
  unfold dec; rw [Lib.decDigits, dif_neg h, List.map_append]
  simp only [List.map_cons, List.map_nil, UInt8.toNat_ofNat']
  congr 2; omega
theorem dec_len : ∀ d u, u < 10 ^ (d + 1) → (dec u).length ≤ d + 1
  | 0, u, h => by rw [dec_lt (by simpa using h)]; simp
  | d + 1, u, h => by
    by_cases q : u < 10
    · rw [dec_lt q]; simp
    · rw [dec_ge q, List.length_append]
      have := dec_len d (u / 10) (by rw [Nat.pow_succ] at h; omega)
      simp; omega
def fig (n : Int) : ByteArray := ⟨(Lib.itoa n).toArray⟩
theorem bytes_fig (u : Nat) : bytesOf (fig (u : Int)) = dec u := by
  unfold fig bytesOf Lib.itoa dec
  rw [if_neg (by omega), Int.toNat_natCast]
theorem p19 : (10 : Nat) ^ 19 = 10000000000000000000 := by decide
theorem dec_len20 (u : Nat) (h : u < 10000000000000000000) : (dec u).length ≤ 19 := dec_len 18 u (by rw [p19]; exact h)
theorem fig_size (u : Nat) : (fig (u : Int)).size = (dec u).length := by rw [← bytesOf_length, bytes_fig]
theorem figures_f (n : Int) (h0 : -9223372036854775808 ≤ n) (h1 : n ≤ 9223372036854775807) : hex_Figures.f n = some (fig n) := by
  unfold hex_Figures.f fig
  rw [if_pos (show in64 n from ⟨h0, h1⟩)]
theorem i64_range {c : Int} (hc : (Lit.int .i64 c).wf = true) : -9223372036854775808 ≤ c ∧ c ≤ 9223372036854775807 := by
  simp [Lit.wf, IntKind.min, IntKind.max, IntKind.signed, IntKind.bits] at hc
  omega
/-! ### six figures -/
/-- The six figures of a number below a million. -/
def six (r : Nat) : List Int := [48 + ((r / 100000 % 10 : Nat) : Int), 48 + ((r / 10000 % 10 : Nat) : Int), 48 + ((r / 1000 % 10 : Nat) : Int), 48 + ((r / 100 % 10 : Nat) : Int), 48 + ((r / 10 % 10 : Nat) : Int), 48 + ((r % 10 : Nat) : Int)]
theorem dec_million (r : Nat) (h : r < 1000000) : dec (1000000 + r) = 49 :: six r := by
  rw [dec_ge (by omega), dec_ge (by omega), dec_ge (by omega), dec_ge (by omega), dec_ge (by omega), dec_ge (by omega), dec_lt (by omega)]
  unfold six
  simp only [List.cons_append, List.nil_append, List.cons.injEq, and_true, Nat.div_div_eq_div_mul]
  have e1 : (1000000 + r) / 10 % 10 = r / 10 % 10 := by omega
  have e2 : (1000000 + r) / (10 * 10) % 10 = r / 100 % 10 := by omega
  have e3 : (1000000 + r) / (10 * 10 * 10) % 10 = r / 1000 % 10 := by omega
  have e4 : (1000000 + r) / (10 * 10 * 10 * 10) % 10 = r / 10000 % 10 := by omega
  have e5 : (1000000 + r) / (10 * 10 * 10 * 10 * 10) % 10 = r / 100000 % 10 := by omega
  have e6 : (1000000 + r) / (10 * 10 * 10 * 10 * 10 * 10) = 1 := by omega
  have e0 : (1000000 + r) % 10 = r % 10 := by omega
  rw [e0, e1, e2, e3, e4, e5, e6]
  exact ⟨rfl, rfl, rfl, rfl, rfl, rfl, rfl⟩
/-! ### noughts at the end are cut -/
def strip (l : List Int) : List Int := (l.reverse.dropWhile (fun c => c == 48)).reverse
theorem strip_snoc (l : List Int) (c : Int) : strip (l ++ [c]) = if c = 48 then strip l else l ++ [c] := by
  unfold strip
  rw [List.reverse_append, List.reverse_singleton, List.singleton_append, List.dropWhile_cons]
  by_cases h : c = 48
  · subst h; simp
  · simp [h]
theorem strip_pad : ∀ (n : Nat) (l : List Int), l.length = n → ∃ m, l = strip l ++ List.replicate m 48
  | 0, l, h => ⟨0, by rw [List.eq_nil_of_length_eq_zero h]; rfl⟩
  | n + 1, l, h => by
    have hne : l ≠ [] := by intro z; rw [z] at h; simp at h
    have hl := List.dropLast_concat_getLast hne
    obtain ⟨m, hm⟩ := strip_pad n l.dropLast (by simp [h])
    rw [← hl, strip_snoc]
    by_cases hc : l.getLast hne = 48
    · rw [if_pos hc, hc]
      exact ⟨m + 1, by rw [List.replicate_succ', ← List.append_assoc, ← hm]⟩
    · rw [if_neg hc]; exact ⟨0, by simp⟩
theorem strip_len (l : List Int) : (strip l).length ≤ l.length := by
  obtain ⟨m, hm⟩ := strip_pad _ l rfl
  have := congrArg List.length hm
  simp at this; omega
theorem bytes_extract (s : ByteArray) (a b : Nat) : bytesOf (s.extract a b) = ((bytesOf s).take b).drop a := by
  unfold bytesOf
  rw [ByteArray.data_extract, Array.toList_extract, List.extract_eq_take_drop, List.map_take, List.map_drop, List.drop_take]
theorem trim_f : ∀ (n k : Nat) (s : ByteArray), s.size = n → n ≤ 281474976710656 → n < k → ∃ r, QR.strings_trimRightByte.l0 k s 48 = some r ∧ bytesOf r = strip (bytesOf s)
  | 0, k, s, h, hn, hk => by
    obtain ⟨k, rfl⟩ : ∃ m, k = m + 1 := ⟨k - 1, by omega⟩
    refine ⟨s, by rw [QR.strings_trimRightByte.l0, if_neg (by omega)], ?_⟩
    rw [show bytesOf s = [] from List.eq_nil_of_length_eq_zero (by rw [bytesOf_length]; exact h)]; rfl
  | n + 1, k, s, h, hn, hk => by
    obtain ⟨k, rfl⟩ : ∃ m, k = m + 1 := ⟨k - 1, by omega⟩
    have hw : wrap64 ((s.size : Int) - 1) = (n : Int) := by rw [wrap_id (by omega) (by omega)]; omega
    have hs : bytesOf s = bytesOf (s.extract 0 n) ++ [bt s n] := by
      rw [bytes_extract, List.drop_zero, bt_get s n (by omega)]
      have : bytesOf s = (bytesOf s).take (n + 1) := by rw [List.take_of_length_le (by rw [bytesOf_length]; omega)]
      rw [List.take_succ_eq_append_getElem (by rw [bytesOf_length]; omega)] at this
      exact this
    rw [QR.strings_trimRightByte.l0, if_pos (by omega), hw, if_pos (by omega), if_pos (by omega), hs, strip_snoc]
    by_cases hc : bt s n = 48
    · rw [if_pos hc, if_pos (by omega), if_pos hc, Int.toNat_natCast]
      exact trim_f n k (s.extract 0 n) (by rw [ByteArray.size_extract]; omega) (by omega) (by omega)
    · rw [if_neg hc, if_neg hc]
      exact ⟨s, rfl, hs⟩
/-! ### a number's text -/
def fracL (r : Nat) : List Int := if r = 0 then [] else 46 :: strip (six r)
def textL (n : Int) : List Int := (if n < 0 then [45] else []) ++ (dec (n.natAbs / 1000000) ++ fracL (n.natAbs % 1000000))
theorem split_f (n : Int) (h0 : -9223372036854775808 ≤ n) (h1 : n ≤ 9223372036854775807) : QR.dec_split.f n = some ((n.natAbs : Int), decide (n < 0)) := by
  unfold QR.dec_split.f
  by_cases h : n < 0
  · rw [if_pos h, decide_eq_true h]
    congr 2
    simp [IntKind.wrap, IntKind.bits, IntKind.signed]
    omega
  · rw [if_neg h, decide_eq_false h]
    congr 2
    simp [IntKind.wrap, IntKind.bits, IntKind.signed]
    omega
end Go.Proofs.YtgodmbcebpbdiaaDoor.PR
end

/- The plain law of layer 2: a number's text and a numeral's reading, as rows of bytes. No Go and no memory stands here. -/
section
set_option linter.unusedVariables false
set_option linter.unusedSimpArgs false
namespace Go.Proofs.YtgodmbcebpbdiaaDoor.PR
open Go.RowKit Go.Proofs.YtgodmbcebpbdiaaDoorW.PrintWords Go.Proofs.YtgodmbcebpbdiaaDoorW.PrintLast Go.Proofs.YtgodmbcebpbdiaaDoor.G Go.Proofs.YtgodmbcebpbdiaaDoor.Q1

theorem trimR_f (k : Nat) (s : ByteArray) (hn : s.size ≤ 281474976710656) (hk : s.size + 3 < k) : ∃ r, QR.strings_TrimRight.f k s (⟨#[48]⟩ : ByteArray) = some r ∧ bytesOf r = strip (bytesOf s) := by
  obtain ⟨k, rfl⟩ : ∃ m, k = m + 2 := ⟨k - 2, by omega⟩
  obtain ⟨r, hr, hb⟩ := trim_f s.size (k + 2) s rfl hn (by omega)
  unfold QR.strings_TrimRight.f
  by_cases he : s.toList = []
  · rw [if_pos he, QR.strings_TrimRight.j0, if_pos rfl]
    refine ⟨s, rfl, ?_⟩
    have : bytesOf s = [] := by unfold bytesOf; rw [← ByteArray.toList_eq, he]; rfl
    rw [this]; rfl
  · have hb48 : bt (⟨#[48]⟩ : ByteArray) 0 = 48 := by decide +kernel
    have h1 : (((⟨#[48]⟩ : ByteArray).toList == ([] : List UInt8)) : Bool) = false := by decide +kernel
    rw [if_neg he, h1, QR.strings_TrimRight.j0, if_neg (by decide), if_pos (by decide), if_pos (by decide), hb48, QR.strings_TrimRight.j1, if_pos (by decide), if_pos (by decide), hb48]
    have hk2 : ∀ k, s.size < k → ∃ r, QR.strings_trimRightByte.f k s 48 = some r ∧ bytesOf r = strip (bytesOf s) := fun k hk => trim_f s.size k s rfl hn hk
    obtain ⟨r2, hr2, hb2⟩ := hk2 k (by omega)
    rw [hr2]
    exact ⟨r2, rfl, hb2⟩
theorem bytes_mk1 (c : UInt8) : bytesOf (⟨#[c]⟩ : ByteArray) = [(c.toNat : Int)] := rfl
theorem size_of_bytes {s : ByteArray} {l : List Int} (h : bytesOf s = l) : s.size = l.length := by rw [← bytesOf_length, h]
theorem app46 (a z : List Int) : a ++ ([((46 : UInt8).toNat : Int)] ++ z) = a ++ (46 :: z) := rfl
theorem app45 (z : List Int) : [((45 : UInt8).toNat : Int)] ++ z = (if true = true then [45] else []) ++ z := rfl
theorem app0 (z : List Int) : z = (if false = true then [45] else []) ++ z := rfl
theorem text_aux (k m q r u : Nat) (b : Bool) (n : Int) (hk : 20 < k) (hq : q < 10000000000000000000) (hr : r < 1000000) (hu : u = 1000000 + r)
    (hs : QR.dec_split.f n = some ((m : Int), b)) (hw1 : wrap64 (IntKind.u64.wrap (Int.tdiv (m : Int) 1000000)) = (q : Int)) (hq2 : (q : Int) ≤ 9223372036854775807) (hw2 : Int.tmod (m : Int) 1000000 = (r : Int))
    (hw3 : wrap64 (IntKind.u64.wrap (1000000 + (r : Int))) = (u : Int)) : ∃ t, QR.dec_Text.f k n = some t ∧ bytesOf t = (if b = true then [45] else []) ++ (dec q ++ fracL r) ∧ t.size ≤ 30 := by
  have hdl := dec_len20 q hq
  unfold QR.dec_Text.f
  rw [hs]
  rw [Option.bind_some]
  dsimp only
  rw [hw1, figures_f (q : Int) (by omega) hq2, hw2]
  rw [Option.bind_some]
  have hfig := bytes_fig q
  have hfs := fig_size q
  generalize fig (q : Int) = t1 at hfig hfs ⊢
  by_cases hz : r = 0
  · subst hz
    have hfr : fracL 0 = [] := rfl
    rw [if_pos (show ((0 : Nat) : Int) = 0 from rfl), hfr, List.append_nil]
    cases b with
    | true =>
      rw [if_pos rfl, if_pos rfl, if_pos (by omega)]
      refine ⟨_, rfl, by rw [bytesOf_append, bytes_mk1, hfig]; exact app45 _, ?_⟩
      rw [ByteArray.size_append, show (⟨#[45]⟩ : ByteArray).size = 1 from rfl]; omega
    | false =>
      rw [if_neg (by decide), if_neg (by decide)]
      exact ⟨_, rfl, by rw [hfig]; exact app0 _, by omega⟩
  · rw [if_neg (by omega), hw3, figures_f (u : Int) (by omega) (by omega)]
    rw [Option.bind_some]
    have hb2 := bytes_fig u
    have hs2 := fig_size u
    generalize fig (u : Int) = t2 at hb2 hs2 ⊢
    rw [hu, dec_million r hr] at hb2 hs2
    have hs2' : t2.size = 7 := hs2
    rw [if_pos (by omega)]
    have hb3 : bytesOf (t2.extract 1 t2.size) = six r := by
      rw [bytes_extract, List.take_of_length_le (by rw [bytesOf_length]; omega), hb2]; exact List.drop_succ_cons.trans List.drop_zero
    obtain ⟨t3, ht3, hbt3⟩ := trimR_f k (t2.extract 1 t2.size) (by rw [ByteArray.size_extract]; omega) (by rw [ByteArray.size_extract]; omega)
    rw [ht3]
    rw [Option.bind_some]
    rw [hb3] at hbt3
    have hl3 : t3.size ≤ 6 := by
      rw [size_of_bytes hbt3]
      exact strip_len (six r)
    have hfr : fracL r = 46 :: strip (six r) := by unfold fracL; rw [if_neg hz]
    have hap : bytesOf (t1 ++ ((⟨#[46]⟩ : ByteArray) ++ t3)) = dec q ++ fracL r := by
      rw [bytesOf_append, bytesOf_append, bytes_mk1, hfig, hbt3, hfr]; exact app46 _ _
    have hsz : (t1 ++ ((⟨#[46]⟩ : ByteArray) ++ t3)).size ≤ 26 := by
      rw [ByteArray.size_append, ByteArray.size_append, show (⟨#[46]⟩ : ByteArray).size = 1 from rfl]; omega
    rw [if_pos (by omega), if_pos (by rw [ByteArray.size_append, show (⟨#[46]⟩ : ByteArray).size = 1 from rfl]; omega)]
    generalize t1 ++ ((⟨#[46]⟩ : ByteArray) ++ t3) = t4 at hap hsz ⊢
    cases b with
    | true =>
      rw [if_pos rfl, if_pos rfl, if_pos (by omega)]
      refine ⟨_, rfl, by rw [bytesOf_append, bytes_mk1, hap]; exact app45 _, ?_⟩
      rw [ByteArray.size_append, show (⟨#[45]⟩ : ByteArray).size = 1 from rfl]; omega
    | false =>
      rw [if_neg (by decide), if_neg (by decide)]
      exact ⟨_, rfl, by rw [hap]; exact app0 _, by omega⟩
theorem text_f (k : Nat) (n : Int) (h0 : -9223372036854775808 ≤ n) (h1 : n ≤ 9223372036854775807) (hk : 20 < k) : ∃ t, QR.dec_Text.f k n = some t ∧ bytesOf t = textL n ∧ t.size ≤ 30 := by
  have hm : n.natAbs ≤ 9223372036854775808 := by omega
  have hd : Int.tdiv (n.natAbs : Int) 1000000 = ((n.natAbs / 1000000 : Nat) : Int) := Int.tdiv_eq_ediv_of_nonneg (by omega)
  obtain ⟨t, h1, h2, h3⟩ := text_aux k n.natAbs (n.natAbs / 1000000) (n.natAbs % 1000000) (1000000 + n.natAbs % 1000000) (decide (n < 0)) n hk (by omega) (Nat.mod_lt _ (by decide)) rfl
    (split_f n h0 h1) (by rw [hd, wmod, Int.emod_eq_of_lt (by omega) (by omega), wrap_id (by omega) (by omega)]) (by omega) (Int.tmod_eq_emod_of_nonneg (by omega))
    (by rw [wmod, Int.emod_eq_of_lt (by omega) (by omega), wrap_id (by omega) (by omega)]; omega)
  refine ⟨t, h1, ?_, h3⟩
  rw [h2]
  unfold textL
  by_cases hn : n < 0
  · rw [if_pos (decide_eq_true hn), if_pos hn]
  · rw [if_neg (by simp [hn]), if_neg hn]

/-! ### a numeral is read -/
theorem getD_val (T : ByteArray) (i : Nat) (h : i < T.size) : ((T.data.toList.getD i 0).toNat : Int) = (bytesOf T)[i]'(by rw [bytesOf_length]; exact h) := by
  unfold bytesOf
  have hl : i < T.data.toList.length := by simpa using h
  rw [List.getD_eq_getElem?_getD, List.getElem?_eq_getElem hl]
  simp
theorem dig_step (x v d low : Nat) (hge : x ≤ v) (h0 : d = 0 → v = x) :
    (if x < 18446744073709551616 then (if v < 18446744073709551616 then some v else if d = 0 then some x else none) else none) = if v < 18446744073709551616 then some v else if d + 1 = 0 then some low else none := by
  by_cases hx : x < 18446744073709551616
  · rw [if_pos hx]
    by_cases hvl : v < 18446744073709551616
    · rw [if_pos hvl, if_pos hvl]
    · rw [if_neg hvl, if_neg hvl]
      by_cases d0 : d = 0
      · have := h0 d0; omega
      · rw [if_neg (Nat.succ_ne_zero d), if_neg d0]
  · rw [if_neg hx, if_neg (by omega), if_neg (Nat.succ_ne_zero d)]
theorem digV_val (T : ByteArray) (hd : ∀ c ∈ bytesOf T, isD c = true) : ∀ (d i low : Nat), i + d = T.size →
    digV T d i low = if val low ((bytesOf T).drop i) < 18446744073709551616 then some (val low ((bytesOf T).drop i)) else if d = 0 then some low else none
  | 0, i, low, h => by
    rw [digV, List.drop_eq_nil_of_le (by rw [bytesOf_length]; omega)]
    simp only [val]
    split <;> rfl
  | d + 1, i, low, h => by
    have hi : i < T.size := by omega
    have hl : i < (bytesOf T).length := by rw [bytesOf_length]; exact hi
    have hg := getD_val T i hi
    have hD := (isD_iff _).1 (hd _ (List.getElem_mem hl))
    rw [digV, List.drop_eq_getElem_cons hl]
    simp only [val]
    have e : low * 10 + ((T.data.toList.getD i 0).toNat - 48) = 10 * low + ((bytesOf T)[i] - 48).toNat := by omega
    rw [e, digV_val T hd d (i + 1) _ (by omega)]
    refine dig_step _ _ d low (val_ge _ _) (fun d0 => ?_)
    subst d0
    rw [List.drop_eq_nil_of_le (by rw [bytesOf_length]; omega)]; rfl
end Go.Proofs.YtgodmbcebpbdiaaDoor.PR
end

/- The plain law of layer 2: what a numeral comes to. No Go and no memory stands here. -/
section
set_option linter.unusedVariables false
set_option linter.unusedSimpArgs false
namespace Go.Proofs.YtgodmbcebpbdiaaDoor.PR
open Go.RowKit Go.Proofs.YtgodmbcebpbdiaaDoorW.PrintWords Go.Proofs.YtgodmbcebpbdiaaDoorW.PrintLast Go.Proofs.YtgodmbcebpbdiaaDoor.G Go.Proofs.YtgodmbcebpbdiaaDoor.Q1

theorem takeWhile_app {p : Int → Bool} : ∀ (a b : List Int), (∀ x ∈ a, p x = true) → (∀ c, b.head? = some c → p c = false) → (a ++ b).takeWhile p = a ∧ (a ++ b).dropWhile p = b
  | [], b, _, h => by
    cases b with
    | nil => exact ⟨rfl, rfl⟩
    | cons c r =>
      have := h c rfl
      rw [List.nil_append, List.takeWhile_cons, List.dropWhile_cons, this]; exact ⟨rfl, rfl⟩
  | x :: a, b, ha, h => by
    obtain ⟨h1, h2⟩ := takeWhile_app a b (fun y hy => ha y (List.mem_cons_of_mem _ hy)) h
    rw [List.cons_append, List.takeWhile_cons, List.dropWhile_cons, ha x (List.mem_cons_self ..), if_pos rfl, if_pos rfl, h1, h2]; exact ⟨rfl, rfl⟩
/-- A numeral's parts: blanks, a sign, figures, a point with figures (or nothing), what follows. -/
structure Parts (l B S D F M : List Int) : Prop where
  all : l = B ++ (S ++ (D ++ (F ++ M)))
  blanks : ∀ c ∈ B, isB c = true
  sign : S = [] ∨ S = [45] ∨ S = [43]
  figs : ∀ c ∈ D, isD c = true
  some_ : D ≠ []
  frac : (F = [] ∧ M.head? ≠ some 46) ∨ (F.head? = some 46 ∧ ∀ c ∈ F.drop 1, isD c = true)
  rest : ∀ c, M.head? = some c → isD c = false
theorem Parts.end_ {l B S D F M : List Int} (h : Parts l B S D F M) : endL (F ++ M) = F.length ∧ ∀ c, (F ++ M).head? = some c → isD c = false := by
  rcases h.frac with ⟨rfl, h2⟩ | ⟨h1, h2⟩
  · refine ⟨?_, h.rest⟩
    unfold endL
    rw [List.nil_append, if_neg h2]; rfl
  · cases F with
    | nil => cases h1
    | cons x E =>
      obtain rfl : x = 46 := by simpa using h1
      refine ⟨?_, ?_⟩
      · unfold endL
        rw [List.cons_append, List.head?_cons, if_pos rfl, List.drop_succ_cons, List.drop_zero, (takeWhile_app E M h2 h.rest).1, List.length_cons]; omega
      · intro c hc
        rw [List.cons_append, List.head?_cons] at hc
        obtain rfl := Option.some.inj hc; rfl
theorem isB_of_isD {c : Int} (h : isD c = true) : isB c = false := by
  have := (isD_iff c).1 h
  rw [Bool.eq_false_iff, ne_eq, isB_iff]; omega
theorem Parts.span {l B S D F M : List Int} (h : Parts l B S D F M) :
    spanFrom (l.takeWhile isB).length (l.dropWhile isB) = ((B.length : Int), ((B.length + S.length : Nat) : Int), ((B.length + S.length + D.length : Nat) : Int), ((B.length + S.length + D.length + F.length : Nat) : Int)) := by
  obtain ⟨d, D', hD⟩ : ∃ d D', D = d :: D' := by
    cases hD : D with
    | nil => exact absurd hD h.some_
    | cons d D' => exact ⟨d, D', rfl⟩
  have hd : isD d = true := h.figs d (by rw [hD]; exact List.mem_cons_self ..)
  have hd' := (isD_iff d).1 hd
  have hb : ∀ c, (S ++ (D ++ (F ++ M))).head? = some c → isB c = false := by
    intro c hc
    rcases h.sign with rfl | rfl | rfl
    · rw [hD] at hc
      obtain rfl := Option.some.inj hc
      exact isB_of_isD hd
    · obtain rfl := Option.some.inj hc; rfl
    · obtain rfl := Option.some.inj hc; rfl
  obtain ⟨t1, t2⟩ := takeWhile_app B _ h.blanks hb
  rw [h.all, t1, t2]
  have hs : signL (S ++ (D ++ (F ++ M))) = S.length := by
    unfold signL
    rcases h.sign with rfl | rfl | rfl
    · rw [hD]
      simp only [List.nil_append, List.cons_append, List.head?_cons, Option.some.injEq]
      rw [if_neg (by omega)]; rfl
    · rfl
    · rfl
  have ht : tailL (S ++ (D ++ (F ++ M))) = D ++ (F ++ M) := by
    unfold tailL; rw [hs, List.drop_left]
  unfold spanFrom
  rw [ht, hs]
  obtain ⟨t3, t4⟩ := takeWhile_app D _ h.figs h.end_.2
  rw [t3, t4, h.end_.1]
theorem six_bytes : bytesOf (⟨#[48, 48, 48, 48, 48, 48]⟩ : ByteArray) = List.replicate 6 48 := rfl
theorem nil_bytes : bytesOf (⟨#[]⟩ : ByteArray) = [] := rfl
theorem Parts.num {s : ByteArray} {B S D F M : List Int} (h : Parts (bytesOf s) B S D F M) (hs : s.size ≤ 281474976710656) :
    bytesOf (numT s ((B.length + S.length : Nat) : Int) ((B.length + S.length + D.length : Nat) : Int) ((B.length + S.length + D.length + F.length : Nat) : Int)) = D ++ (F.drop 1 ++ List.replicate 6 48).take 6 := by
  have hl : s.size = B.length + (S.length + (D.length + (F.length + M.length))) := by rw [size_of_bytes h.all]; simp
  have e1 : bytesOf (s.extract (B.length + S.length) (B.length + S.length + D.length)) = D := by
    rw [bytes_extract, h.all, ← List.append_assoc, ← List.append_assoc, ← List.append_assoc, List.append_assoc _ F M, show (B ++ S ++ D ++ (F ++ M)).take (B.length + S.length + D.length) = B ++ S ++ D from by rw [show B.length + S.length + D.length = (B ++ S ++ D).length by simp; omega, List.take_left]]
    rw [show B.length + S.length = (B ++ S).length by simp, List.drop_left]
  unfold numT
  rw [bytesOf_append, Int.toNat_natCast, Int.toNat_natCast, e1]
  congr 1
  by_cases hF : F.length = 0
  · have hF' : F = [] := List.eq_nil_of_length_eq_zero hF
    rw [if_neg (by omega), bytes_extract, bytesOf_append, six_bytes, nil_bytes, hF']; rfl
  · rw [if_pos (by omega), bytes_extract, bytesOf_append, six_bytes]
    rw [show (((B.length + S.length + D.length : Nat) : Int) + 1).toNat = B.length + S.length + D.length + 1 by omega]
    rw [bytes_extract, Int.toNat_natCast, h.all, show (B ++ (S ++ (D ++ (F ++ M)))).take (B.length + S.length + D.length + F.length) = B ++ S ++ D ++ F from by rw [show B ++ (S ++ (D ++ (F ++ M))) = (B ++ S ++ D ++ F) ++ M by simp, show B.length + S.length + D.length + F.length = (B ++ S ++ D ++ F).length by simp; omega, List.take_left]]
    rw [List.drop_zero, show (B ++ S ++ D ++ F).drop (B.length + S.length + D.length + 1) = F.drop 1 from by
      rw [← List.drop_drop, show B.length + S.length + D.length = (B ++ S ++ D).length by simp; omega, List.drop_left]]
theorem joinV_lt {V : Nat} {b : Bool} {v : Int} (h : joinV V b = some v) : V < 18446744073709551616 := by
  unfold joinV at h
  cases b with
  | true =>
    by_cases h1 : V ≤ 9223372036854775808
    · omega
    · rw [if_pos rfl, if_neg h1] at h; cases h
  | false =>
    by_cases h1 : V ≤ 9223372036854775807
    · omega
    · rw [if_neg (by decide), if_neg h1] at h; cases h
/-- A numeral is read as its figures say. -/
theorem Parts.read {s : ByteArray} {B S D F M : List Int} (h : Parts (bytesOf s) B S D F M) (hs : s.size ≤ 281474976710656) {V : Nat} {v : Int}
    (hV : val 0 (D ++ (F.drop 1 ++ List.replicate 6 48).take 6) = V) (hj : joinV V (decide (S = [45])) = some v) :
    dec_Read.f s = some (v, ((B.length + S.length + D.length + F.length : Nat) : Int), 0) := by
  have hl : s.size = B.length + (S.length + (D.length + (F.length + M.length))) := by rw [size_of_bytes h.all]; simp
  have hDl : 0 < D.length := List.length_pos_iff.2 h.some_
  have hn := h.num hs
  unfold dec_Read.f
  rw [span_f s hs _ (by omega), h.span, Option.bind_some]
  unfold readV
  dsimp only
  have hT : ∀ c ∈ bytesOf (numT s ((B.length + S.length : Nat) : Int) ((B.length + S.length + D.length : Nat) : Int) ((B.length + S.length + D.length + F.length : Nat) : Int)), isD c = true := by
    rw [hn]
    intro c hc
    rcases List.mem_append.1 hc with hc | hc
    · exact h.figs c hc
    · rcases List.mem_append.1 (List.mem_of_mem_take hc) with hc | hc
      · rcases h.frac with ⟨rfl, _⟩ | ⟨_, h2⟩
        · cases hc
        · exact h2 c hc
      · rw [(List.mem_replicate.1 hc).2]; rfl
  generalize numT s ((B.length + S.length : Nat) : Int) ((B.length + S.length + D.length : Nat) : Int) ((B.length + S.length + D.length + F.length : Nat) : Int) = T at hn hT ⊢
  have hTs : T.size ≤ D.length + 6 := by
    rw [size_of_bytes hn, List.length_append, List.length_take]; omega
  have ha : B.length < s.size := by omega
  rw [if_neg (by omega), if_pos (by
    refine ⟨⟨by omega, by omega, by omega, by omega, by omega, by omega, hs, by omega⟩, fun i hi => ?_⟩
    have h1 := (isD_iff _).1 (hT _ (List.getElem_mem (by rw [bytesOf_length]; exact hi)))
    have h2 := getD_val T i hi
    omega)]
  have hval : val 0 ((bytesOf T).drop 0) = V := by rw [List.drop_zero, hn]; exact hV
  rw [digV_val T hT T.size 0 0 (by omega), hval, if_pos (joinV_lt hj)]
  have hm : minus s (B.length : Int) = decide (S = [45]) := by
    unfold minus
    rw [dif_pos (show ((B.length : Int)).toNat < s.size by omega)]
    have hb : (((s[((B.length : Int)).toNat]'(by omega)).toNat : Int)) = bt s (B.length : Int) := by
      unfold bt
      simp [ha]
    have hg : bt s ((B.length : Nat) : Int) = (S ++ (D ++ (F ++ M))).head (by intro z; have := congrArg List.length z; simp only [List.length_append, List.length_nil] at this; omega) := by
      rw [bt_get s B.length ha]
      simp only [h.all]
      rw [List.getElem_append_right (Nat.le_refl _), List.head_eq_getElem]
      simp
    rw [hb, hg]
    rcases h.sign with rfl | rfl | rfl
    · obtain ⟨d, D', rfl⟩ : ∃ d D', D = d :: D' := by
        cases hD : D with
        | nil => exact absurd hD h.some_
        | cons d D' => exact ⟨d, D', rfl⟩
      have := (isD_iff d).1 (h.figs d (List.mem_cons_self ..))
      simp
      omega
    · rfl
    · rfl
  rw [hm]
  unfold resV
  rw [Option.bind_some, hj]
end Go.Proofs.YtgodmbcebpbdiaaDoor.PR
end

/- The plain laws of layer 2: a number's text is read as it. No Go and no memory stands here. -/
section
set_option linter.unusedVariables false
set_option linter.unusedSimpArgs false
namespace Go.Proofs.YtgodmbcebpbdiaaDoor.PR
open Go.RowKit Go.Proofs.YtgodmbcebpbdiaaDoorW.PrintWords Go.Proofs.YtgodmbcebpbdiaaDoorW.PrintLast Go.Proofs.YtgodmbcebpbdiaaDoor.G Go.Proofs.YtgodmbcebpbdiaaDoor.Q1 Go.Proofs.YtgodmbcebpbdiaaDoor.QR

/-! ### the document's examples -/
theorem shown_read : dec_Read.f (⟨#[45, 49, 46, 53, 48, 120]⟩ : ByteArray) = some (-1500000, 5, 0) := by
  have hp : Parts (bytesOf (⟨#[45, 49, 46, 53, 48, 120]⟩ : ByteArray)) [] [45] [49] [46, 53, 48] [120] :=
    ⟨rfl, by simp, Or.inr (Or.inl rfl), by decide, by decide, Or.inr ⟨rfl, by decide⟩, by intro c hc; obtain rfl := Option.some.inj hc; rfl⟩
  have := hp.read (V := 1500000) (v := -1500000) (by decide) (by decide) (by decide +kernel)
  exact this
theorem toList_of {t : ByteArray} {l : List UInt8} (h : bytesOf t = l.map fun c => (c.toNat : Int)) : t.toList = l := by
  have : t = ⟨l.toArray⟩ := ext_bytes (by rw [h]; unfold bytesOf; simp)
  rw [this, ByteArray.toList_eq]
theorem shown_f (k : Nat) (hk : 20 < k) : dragomanlaw02_shown.f k = some true := by
  unfold dragomanlaw02_shown.f
  rw [shown_read, Option.bind_some, show dec_Div.f 1000000 3000000 = some (333333, 0) by decide +kernel, Option.bind_some]
  dsimp only
  obtain ⟨t1, h1, b1, _⟩ := text_f k (-1500000) (by decide) (by decide) hk
  obtain ⟨t2, h2, b2, _⟩ := text_f k 333333 (by decide) (by decide) hk
  have d1 : textL (-1500000) = [45, 49, 46, 53] := by
    unfold textL
    rw [show ((-1500000 : Int).natAbs / 1000000) = 1 from by decide, show ((-1500000 : Int).natAbs % 1000000) = 500000 from by decide, dec_lt (by decide)]
    decide +kernel
  have d2 : textL 333333 = [48, 46, 51, 51, 51, 51, 51, 51] := by
    unfold textL
    rw [show ((333333 : Int).natAbs / 1000000) = 0 from by decide, show ((333333 : Int).natAbs % 1000000) = 333333 from by decide, dec_lt (by decide)]
    decide +kernel
  rw [if_pos rfl, if_pos rfl, if_pos rfl, h1, Option.bind_some, if_pos (toList_of (by rw [b1, d1]; rfl)), h2, Option.bind_some, if_pos (toList_of (by rw [b2, d2]; rfl))]
  rfl
end Go.Proofs.YtgodmbcebpbdiaaDoor.PR
end

/- Sums, differences, products, quotients, rests, whole parts and whole numbers are as the document says: in plain words. -/
section
set_option linter.unusedVariables false
set_option linter.unusedSimpArgs false
namespace Go.Proofs.YtgodmbcebpbdiaaDoor.PR
open Go.RowKit Go.Proofs.YtgodmbcebpbdiaaDoorW.PrintWords Go.Proofs.YtgodmbcebpbdiaaDoorW.PrintLast Go.Proofs.YtgodmbcebpbdiaaDoor.G Go.Proofs.YtgodmbcebpbdiaaDoor.Q1 Go.Proofs.YtgodmbcebpbdiaaDoor.QR Go.Proofs.YtgodmbcebpbdiaaDoor.R2

theorem size_abs (a : Int) : size a = (a.natAbs : Int) := by unfold size; split <;> omega
theorem told_join (q : Nat) (b : Bool) : toldN b (q : Int) = orOver (joinV q b) := by
  unfold toldN joinV
  cases b with
  | true =>
    rw [if_pos rfl, if_pos rfl]
    by_cases h : q ≤ 9223372036854775808
    · rw [if_neg (by omega), if_pos h]; rfl
    · rw [if_pos (by omega), if_neg h]; rfl
  | false =>
    rw [if_neg Bool.false_ne_true, if_neg Bool.false_ne_true]
    by_cases h : q ≤ 9223372036854775807
    · rw [if_neg (by omega), if_pos h]; rfl
    · rw [if_pos (by omega), if_neg h]; rfl
theorem told_big (q : Nat) (b : Bool) (h : 18446744073709551616 ≤ q) : toldN b (q : Int) = (0, 3) := by
  unfold toldN
  cases b with
  | true => rw [if_pos rfl, if_pos (by omega)]
  | false => rw [if_neg Bool.false_ne_true, if_pos (by omega)]
theorem scaled_eq (a b c : Int) (hc : c ≠ 0) : orOver (scaledV a b c) = toldN ((decide (a < 0) != decide (b < 0)) != decide (c < 0)) ((a.natAbs * b.natAbs / c.natAbs : Nat) : Int) := by
  unfold scaledV
  have hc0 : 0 < c.natAbs := by omega
  by_cases h : c.natAbs ≤ a.natAbs * b.natAbs / 18446744073709551616
  · rw [if_pos h, told_big _ _ ?_]
    · rfl
    · rw [Nat.le_div_iff_mul_le hc0]
      have := (Nat.le_div_iff_mul_le (by decide)).1 h
      rwa [Nat.mul_comm] at this
  · rw [if_neg h, told_join]
theorem bne_ff (b : Bool) : (b != false) = b := by cases b <;> rfl
theorem mul_eq (a b : Int) : mulV a b = rMul a b := by
  unfold mulV rMul
  rw [scaled_eq a b 1000000 (by decide), size_abs, size_abs, show decide ((1000000 : Int) < 0) = false from rfl, bne_ff]
  unfold below
  congr 1
theorem div_eq (a b : Int) : divV a b = rDiv a b := by
  unfold divV rDiv
  by_cases h : b = 0
  · rw [if_pos h, if_pos h]
  · rw [if_neg h, if_neg h, scaled_eq a 1000000 b h, size_abs, size_abs, show decide ((1000000 : Int) < 0) = false from rfl, bne_ff]
    unfold below
    congr 1
theorem whole_eq (a : Int) : wholeV a = rWhole a := by
  unfold wholeV rWhole
  rw [scaled_eq a 1000000 1 (by decide), size_abs, show decide ((1000000 : Int) < 0) = false from rfl, show decide ((1 : Int) < 0) = false from rfl, bne_ff, bne_ff]
  unfold below
  congr 1
  rw [show (1 : Int).natAbs = 1 from rfl, Nat.div_one]
  rfl
theorem add_eq {a b : Int} (a0 : -9223372036854775808 ≤ a) (a1 : a ≤ 9223372036854775807) (b0 : -9223372036854775808 ≤ b) (b1 : b ≤ 9223372036854775807) : addV a b = rAdd a b := by
  unfold addV rAdd toldN below size
  by_cases h1 : a < 0
  · by_cases h2 : b < 0
    · rw [decide_eq_true h1, decide_eq_true h2, if_pos rfl, if_pos rfl, if_pos h1, if_pos h2]
      by_cases h3 : -a + -b > 9223372036854775808
      · have hw : wrap64 (a + b) = a + b + 18446744073709551616 := by unfold wrap64; omega
        rw [if_pos h3, hw, decide_eq_false (by omega)]; rfl
      · have hw : wrap64 (a + b) = a + b := by unfold wrap64; omega
        rw [if_neg h3, hw, decide_eq_true (by omega), if_neg (by decide)]
        congr 1; omega
    · have hw : wrap64 (a + b) = a + b := by unfold wrap64; omega
      rw [decide_eq_true h1, decide_eq_false h2, if_neg (show ¬ ((true == false && (decide (wrap64 (a + b) < 0) != true)) = true) from Bool.false_ne_true), if_neg (show ¬ (true = false) by decide), if_neg Bool.false_ne_true, if_pos rfl, if_pos h1, if_neg h2, hw]
      by_cases h3 : -a < b
      · rw [if_pos h3, if_neg (by omega)]; congr 1; omega
      · rw [if_neg h3, if_neg (by omega)]; congr 1; omega
  · by_cases h2 : b < 0
    · have hw : wrap64 (a + b) = a + b := by unfold wrap64; omega
      rw [decide_eq_false h1, decide_eq_true h2, if_neg (show ¬ ((false == true && (decide (wrap64 (a + b) < 0) != false)) = true) from Bool.false_ne_true), if_neg Bool.false_ne_true, if_pos rfl, if_neg Bool.false_ne_true, if_neg h1, if_pos h2, hw]
      by_cases h3 : a < -b
      · rw [if_pos h3, if_neg (by omega)]; congr 1; omega
      · rw [if_neg h3, if_neg (by omega)]; congr 1; omega
    · rw [decide_eq_false h1, decide_eq_false h2, if_pos rfl, if_neg Bool.false_ne_true, if_neg h1, if_neg h2]
      by_cases h3 : a + b > 9223372036854775807
      · have hw : wrap64 (a + b) = a + b - 18446744073709551616 := by unfold wrap64; omega
        rw [if_pos h3, hw, decide_eq_true (by omega)]; rfl
      · have hw : wrap64 (a + b) = a + b := by unfold wrap64; omega
        rw [if_neg h3, hw, decide_eq_false (by omega), if_neg (by decide)]
theorem radd_val {a b : Int} (a0 : -9223372036854775808 ≤ a) (a1 : a ≤ 9223372036854775807) (b0 : -9223372036854775808 ≤ b) (b1 : b ≤ 9223372036854775807) :
    rAdd a b = if -9223372036854775808 ≤ a + b ∧ a + b ≤ 9223372036854775807 then (a + b, 0) else (0, 3) := by
  rw [← add_eq a0 a1 b0 b1]
  unfold addV
  by_cases h : -9223372036854775808 ≤ a + b ∧ a + b ≤ 9223372036854775807
  · have hw : wrap64 (a + b) = a + b := by unfold wrap64; omega
    rw [if_pos h, hw]
    by_cases h1 : a < 0 <;> by_cases h2 : b < 0
    · rw [decide_eq_true h1, decide_eq_true h2, decide_eq_true (show a + b < 0 by omega)]; rfl
    · rw [decide_eq_true h1, decide_eq_false h2]; rfl
    · rw [decide_eq_false h1, decide_eq_true h2]; rfl
    · rw [decide_eq_false h1, decide_eq_false h2, decide_eq_false (show ¬ a + b < 0 by omega)]; rfl
  · rw [if_neg h]
    by_cases h1 : a < 0
    · have h2 : b < 0 := by omega
      have hw : wrap64 (a + b) = a + b + 18446744073709551616 := by unfold wrap64; omega
      rw [hw, decide_eq_true h1, decide_eq_true h2, decide_eq_false (by omega)]; rfl
    · have h2 : ¬ b < 0 := by omega
      have hw : wrap64 (a + b) = a + b - 18446744073709551616 := by unfold wrap64; omega
      rw [hw, decide_eq_false h1, decide_eq_false h2, decide_eq_true (by omega)]; rfl
theorem i64_in {n : Int} (h0 : -9223372036854775808 ≤ n) (h1 : n ≤ 9223372036854775807) : i64 n = true := by unfold i64; rw [decide_eq_true h0, decide_eq_true h1]; rfl
theorem addf {a b : Int} (a0 : -9223372036854775808 ≤ a) (a1 : a ≤ 9223372036854775807) (b0 : -9223372036854775808 ≤ b) (b1 : b ≤ 9223372036854775807) :
    dragomanref02_Add.f a b = some (if -9223372036854775808 ≤ a + b ∧ a + b ≤ 9223372036854775807 then (a + b, 0) else (0, 3)) := by
  unfold dragomanref02_Add.f
  rw [if_pos ⟨i64_in a0 a1, i64_in b0 b1⟩, radd_val a0 a1 b0 b1]
theorem sub_val {a b : Int} (a0 : -9223372036854775808 ≤ a) (a1 : a ≤ 9223372036854775807) (b0 : -9223372036854775808 ≤ b) (b1 : b ≤ 9223372036854775807) :
    subV a b = if -9223372036854775808 ≤ a - b ∧ a - b ≤ 9223372036854775807 then (a - b, 0) else (0, 3) := by
  unfold subV
  by_cases h : -9223372036854775808 ≤ a - b ∧ a - b ≤ 9223372036854775807
  · have hw : wrap64 (a - b) = a - b := by unfold wrap64; omega
    rw [if_pos h, hw]
    by_cases h1 : a < 0 <;> by_cases h2 : b < 0
    · rw [decide_eq_true h1, decide_eq_true h2]; rfl
    · rw [decide_eq_true h1, decide_eq_false h2, decide_eq_true (show a - b < 0 by omega)]; rfl
    · rw [decide_eq_false h1, decide_eq_true h2, decide_eq_false (show ¬ a - b < 0 by omega)]; rfl
    · rw [decide_eq_false h1, decide_eq_false h2]; rfl
  · rw [if_neg h]
    by_cases h1 : a < 0
    · have h2 : ¬ b < 0 := by omega
      have hw : wrap64 (a - b) = a - b + 18446744073709551616 := by unfold wrap64; omega
      rw [hw, decide_eq_true h1, decide_eq_false h2, decide_eq_false (by omega)]; rfl
    · have h2 : b < 0 := by omega
      have hw : wrap64 (a - b) = a - b - 18446744073709551616 := by unfold wrap64; omega
      rw [hw, decide_eq_false h1, decide_eq_true h2, decide_eq_true (by omega)]; rfl
theorem sub_f {a b : Int} (a0 : -9223372036854775808 ≤ a) (a1 : a ≤ 9223372036854775807) (b0 : -9223372036854775808 ≤ b) (b1 : b ≤ 9223372036854775807) : dragomanref02_Sub.f a b = some (subV a b) := by
  rw [sub_val a0 a1 b0 b1]
  unfold dragomanref02_Sub.f
  by_cases hb : b = -9223372036854775808
  · rw [if_pos hb, addf a0 a1 (by decide) (by decide), Option.bind_some]
    subst hb
    by_cases h : -9223372036854775808 ≤ a + 9223372036854775807 ∧ a + 9223372036854775807 ≤ 9223372036854775807
    · rw [if_pos h]
      dsimp only
      rw [if_pos rfl, addf (by omega) (by omega) (by decide) (by decide), Option.bind_some]
      by_cases h2 : -9223372036854775808 ≤ a + 9223372036854775807 + 1 ∧ a + 9223372036854775807 + 1 ≤ 9223372036854775807
      · rw [if_pos h2, if_pos (by omega)]
        exact congrArg (fun x => some (x, (0 : Int))) (by omega)
      · rw [if_neg h2, if_neg (by omega)]
    · rw [if_neg h]
      dsimp only
      rw [if_neg (by decide), addf a0 a1 (by decide) (by decide), Option.bind_some]
      by_cases h2 : -9223372036854775808 ≤ a + 1 ∧ a + 1 ≤ 9223372036854775807
      · rw [if_pos h2]
        dsimp only
        rw [if_pos rfl, addf (by omega) (by omega) (by decide) (by decide), Option.bind_some, if_neg (by omega), if_neg (by omega)]
      · rw [if_neg h2]
        dsimp only
        rw [if_neg (by decide), if_neg (by omega)]
  · have hw : wrap64 (-b) = -b := by unfold wrap64; omega
    rw [if_neg hb, hw, addf a0 a1 (by omega) (by omega), Option.bind_some]
    by_cases h : -9223372036854775808 ≤ a + -b ∧ a + -b ≤ 9223372036854775807
    · rw [if_pos h, if_pos (by omega)]
      exact congrArg (fun x => some (x, (0 : Int))) (by omega)
    · rw [if_neg h, if_neg (by omega)]
end Go.Proofs.YtgodmbcebpbdiaaDoor.PR
end

/- DecReckons in plain words: rests and whole parts, and the law's answer. -/
section
set_option linter.unusedVariables false
set_option linter.unusedSimpArgs false
namespace Go.Proofs.YtgodmbcebpbdiaaDoor.PR
open Go.RowKit Go.Proofs.YtgodmbcebpbdiaaDoorW.PrintWords Go.Proofs.YtgodmbcebpbdiaaDoorW.PrintLast Go.Proofs.YtgodmbcebpbdiaaDoor.G Go.Proofs.YtgodmbcebpbdiaaDoor.Q1 Go.Proofs.YtgodmbcebpbdiaaDoor.QR Go.Proofs.YtgodmbcebpbdiaaDoor.R2

theorem tmod_abs (a b : Int) : Int.tmod a b = if a < 0 then -((a.natAbs % b.natAbs : Nat) : Int) else ((a.natAbs % b.natAbs : Nat) : Int) := by
  by_cases h : a < 0
  · rw [if_pos h]
    have h1 : a = -((a.natAbs : Nat) : Int) := by omega
    have h2 := Int.natAbs_eq b
    rw [show Int.tmod a b = Int.tmod (-((a.natAbs : Nat) : Int)) b from by rw [← h1], Int.neg_tmod]
    congr 1
    rcases h2 with h2 | h2
    · rw [show Int.tmod (a.natAbs : Int) b = Int.tmod (a.natAbs : Int) (b.natAbs : Int) from by rw [← h2]]; rfl
    · rw [show Int.tmod (a.natAbs : Int) b = Int.tmod (a.natAbs : Int) (-(b.natAbs : Int)) from by rw [← h2], Int.tmod_neg]; rfl
  · rw [if_neg h]
    have h1 : a = ((a.natAbs : Nat) : Int) := by omega
    have h2 := Int.natAbs_eq b
    rw [show Int.tmod a b = Int.tmod ((a.natAbs : Nat) : Int) b from by rw [← h1]]
    rcases h2 with h2 | h2
    · rw [show Int.tmod (a.natAbs : Int) b = Int.tmod (a.natAbs : Int) (b.natAbs : Int) from by rw [← h2]]; rfl
    · rw [show Int.tmod (a.natAbs : Int) b = Int.tmod (a.natAbs : Int) (-(b.natAbs : Int)) from by rw [← h2], Int.tmod_neg]; rfl
theorem mod_eq {a b : Int} (a0 : -9223372036854775808 ≤ a) (a1 : a ≤ 9223372036854775807) : rMod a b = if b = 0 then (0, 4) else (Int.tmod a b, 0) := by
  unfold rMod
  by_cases hb : b = 0
  · rw [if_pos hb, if_pos hb]
  · rw [if_neg hb, if_neg hb, size_abs, size_abs, tmod_abs]
    have hd := Nat.div_add_mod a.natAbs b.natAbs
    have he : ((a.natAbs : Int)) - ((a.natAbs : Int)) / (b.natAbs : Int) * (b.natAbs : Int) = ((a.natAbs % b.natAbs : Nat) : Int) := by
      rw [← Int.natCast_ediv, ← Int.natCast_mul, Nat.mul_comm]
      omega
    rw [he]
    have hl : a.natAbs % b.natAbs ≤ a.natAbs := Nat.mod_le _ _
    unfold toldN below
    by_cases h : a < 0
    · rw [decide_eq_true h, if_pos rfl, if_pos h, if_neg (by omega)]
    · rw [decide_eq_false h, if_neg Bool.false_ne_true, if_neg h, if_neg (by omega)]
theorem trunc_eq {a : Int} (a0 : -9223372036854775808 ≤ a) (a1 : a ≤ 9223372036854775807) : rTrunc a = wrap64 (Int.tdiv a 1000000) := by
  unfold rTrunc toldN below size
  by_cases h : a < 0
  · rw [decide_eq_true h, if_pos rfl, if_pos h, if_neg (by omega)]
    have h2 : Int.tdiv a 1000000 = -(-a / 1000000) := by
      rw [show Int.tdiv a 1000000 = Int.tdiv (-(-a)) 1000000 from by rw [Int.neg_neg], Int.neg_tdiv, Int.tdiv_eq_ediv_of_nonneg (by omega)]
    rw [h2]; unfold wrap64
    show -(-a / 1000000) = _
    omega
  · rw [decide_eq_false h, if_neg Bool.false_ne_true, if_neg h, if_neg (by omega), Int.tdiv_eq_ediv_of_nonneg (by omega)]
    unfold wrap64
    show a / 1000000 = _
    omega
set_option maxRecDepth 100000 in
theorem DecReckons : QR.dragomanlaw02_DecReckons.Pure := fun a b wa wb => by
  refine ⟨21, ?_⟩
  obtain ⟨a0, a1⟩ := i64_range wa
  obtain ⟨b0, b1⟩ := i64_range wb
  unfold dragomanlaw02_DecReckons.f
  have e1 : dec_Mul.f a b = some (mulV a b) := if_pos ⟨⟨a0, a1⟩, ⟨b0, b1⟩⟩
  have e2 : dec_Div.f a b = some (divV a b) := if_pos ⟨⟨a0, a1⟩, ⟨b0, b1⟩⟩
  have e3 : dec_Whole.f a = some (wholeV a) := if_pos ⟨a0, a1⟩
  have r1 : dragomanref02_Add.f a b = some (rAdd a b) := if_pos ⟨i64_in a0 a1, i64_in b0 b1⟩
  have r2 : dragomanref02_Mul.f a b = some (rMul a b) := if_pos ⟨i64_in a0 a1, i64_in b0 b1⟩
  have r3 : dragomanref02_Div.f a b = some (rDiv a b) := if_pos ⟨i64_in a0 a1, i64_in b0 b1⟩
  have r4 : dragomanref02_Mod.f a b = some (rMod a b) := if_pos ⟨i64_in a0 a1, i64_in b0 b1⟩
  have r5 : dragomanref02_Whole.f a = some (rWhole a) := if_pos (i64_in a0 a1)
  have r6 : dragomanref02_Trunc.f a = some (rTrunc a) := if_pos (i64_in a0 a1)
  have e4 : dec_Mod.f a b = some (rMod a b) := by
    rw [mod_eq a0 a1]; unfold dec_Mod.f
    by_cases h : b = 0
    · rw [if_pos h, if_pos h]
    · rw [if_neg h, if_neg h]
  have e5 : dec_Trunc.f a = some (rTrunc a) := by rw [trunc_eq a0 a1]; rfl
  rw [shown_f 21 (by decide), Option.bind_some, show dec_Add.f a b = some (rAdd a b) from (congrArg some (add_eq a0 a1 b0 b1)), Option.bind_some, r1, Option.bind_some, show dec_Sub.f a b = some (subV a b) from rfl, Option.bind_some, sub_f a0 a1 b0 b1, Option.bind_some,
    e1, Option.bind_some, r2, Option.bind_some, e2, Option.bind_some, r3, Option.bind_some, e4, Option.bind_some, r4, Option.bind_some, e3, Option.bind_some, r5, Option.bind_some, mul_eq, div_eq, whole_eq, e5, r6]
  simp
end Go.Proofs.YtgodmbcebpbdiaaDoor.PR
end

/- The plain law of layer 2 that stands over the document's numbers, under its name. -/
section
namespace Go.Proofs.YtgodmbcebpbdiaaDoor.Pure
theorem DecReckons : QR.dragomanlaw02_DecReckons.Pure := PR.DecReckons
end Go.Proofs.YtgodmbcebpbdiaaDoor.Pure
end
