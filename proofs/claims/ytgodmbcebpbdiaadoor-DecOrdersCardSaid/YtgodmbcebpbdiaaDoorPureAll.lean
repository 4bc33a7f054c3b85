/- Texts of this seat, put together: each part tells above it what it proves and on what conditions. -/
import Derived.Test.YtgodmbcebpbdiaaDoorRead
import Derived.Test.YtgodmbcebpbdiaaDoorQAx
/- The plain law of layer 2: rows of bytes, figures, and where a numeral's parts stand. No Go and no memory stands here. -/
section
set_option linter.unusedVariables false
set_option linter.unusedSimpArgs false
namespace Go.Proofs.YtgodmbcebpbdiaaDoor.PD
open Go.RowKit Go.Proofs.YtgodmbcebpbdiaaDoorW.PrintWords Go.Proofs.YtgodmbcebpbdiaaDoorW.PrintLast Go.Proofs.YtgodmbcebpbdiaaDoor.G Go.Proofs.YtgodmbcebpbdiaaDoor.Q1

/-! ### bytes -/
def Bytes (l : List Int) : Prop := ∀ b ∈ l, 0 ≤ b ∧ b ≤ 255
theorem bytes_of (s : ByteArray) : Bytes (bytesOf s) := by
  intro b hb
  simp only [bytesOf, List.mem_map] at hb
  obtain ⟨x, _, rfl⟩ := hb
  have := x.toNat_lt
  omega
theorem bytesOf_strOfNums (l : List Int) (h : Bytes l) : bytesOf (strOfNums l) = l := by
  unfold bytesOf strOfNums
  rw [show (ByteArray.mk (List.map (fun n => UInt8.ofNat n.toNat) l).toArray).data.toList = l.map fun n => UInt8.ofNat n.toNat from rfl, List.map_map]
  conv => rhs; rw [← List.map_id l]
  apply List.map_congr_left
  intro b hb
  obtain ⟨h0, h1⟩ := h b hb
  simp only [Function.comp, id, UInt8.toNat_ofNat']
  omega
theorem ext_bytes {a b : ByteArray} (h : bytesOf a = bytesOf b) : a = b := by
  unfold bytesOf at h
  have h2 : a.data.toList = b.data.toList := by
    refine List.map_inj_right (f := fun b : UInt8 => (b.toNat : Int)) ?_ |>.1 h
    intro x y hxy
    exact UInt8.toNat_inj.1 (Int.ofNat.inj hxy)
  exact ByteArray.ext (Array.ext' h2)
theorem bytesOf_append (a b : ByteArray) : bytesOf (a ++ b) = bytesOf a ++ bytesOf b := by
  unfold bytesOf
  rw [ByteArray.data_append, Array.toList_append, List.map_append]
theorem bt_get (s : ByteArray) (i : Nat) (h : i < s.size) : bt s i = (bytesOf s)[i]'(by rw [bytesOf_length]; exact h) := by
  unfold bt bytesOf
  simp [h]
  rfl
theorem toList_inj {a b : ByteArray} : a.toList = b.toList ↔ a = b := by
  constructor
  · intro h
    rw [ByteArray.toList_eq, ByteArray.toList_eq] at h
    exact ByteArray.ext (Array.ext' h)
  · rintro rfl; rfl
theorem drop_cons (s : ByteArray) (i : Nat) (h : i < s.size) : (bytesOf s).drop i = bt s i :: (bytesOf s).drop (i + 1) := by
  have hl : i < (bytesOf s).length := by rw [bytesOf_length]; exact h
  rw [List.drop_eq_getElem_cons hl, ← bt_get s i h]
theorem wrap_id {x : Int} (h0 : -9223372036854775808 ≤ x) (h1 : x ≤ 9223372036854775807) : wrap64 x = x := by unfold wrap64; omega
/-! ### figures in a row -/
def isD (c : Int) : Bool := decide (48 ≤ c) && decide (c ≤ 57)
theorem isD_iff (c : Int) : isD c = true ↔ 48 ≤ c ∧ c ≤ 57 := by simp [isD]
def isB (c : Int) : Bool := c == 32 || c == 9
theorem isB_iff (c : Int) : isB c = true ↔ c = 32 ∨ c = 9 := by simp [isB]
def val (acc : Nat) : List Int → Nat
  | [] => acc
  | c :: r => val (10 * acc + (c - 48).toNat) r
theorem val_ge : ∀ l acc, acc ≤ val acc l
  | [], acc => Nat.le_refl _
  | c :: r, acc => Nat.le_trans (by omega) (val_ge r _)
theorem val_append : ∀ a b acc, val acc (a ++ b) = val (val acc a) b
  | [], b, acc => rfl
  | c :: r, b, acc => val_append r b _
/-! ### where a numeral's parts stand -/
/-- Its end, of a row from its point on. -/
def endL (l : List Int) : Nat := if l.head? = some 46 then 1 + ((l.drop 1).takeWhile isD).length else 0
def signL (l : List Int) : Nat := if l.head? = some 45 ∨ l.head? = some 43 then 1 else 0
theorem s_l2 (s : ByteArray) (hs : s.size ≤ 281474976710656) (x2 x3 x4 : Int) : ∀ d (i k : Nat), i + d = s.size → d < k →
    dec_span.l2 k s x2 x3 x4 (i : Int) = some (x2, x3, x4, ((i + (((bytesOf s).drop i).takeWhile isD).length : Nat) : Int))
  | 0, i, k, h, hk => by
    obtain ⟨k, rfl⟩ : ∃ m, k = m + 1 := ⟨k - 1, by omega⟩
    rw [dec_span.l2, if_neg (by omega), List.drop_eq_nil_of_le (by rw [bytesOf_length]; omega)]; rfl
  | d + 1, i, k, h, hk => by
    obtain ⟨k, rfl⟩ : ∃ m, k = m + 1 := ⟨k - 1, by omega⟩
    rw [dec_span.l2, if_pos (by omega), if_pos (by omega), drop_cons s i (by omega), List.takeWhile_cons]
    by_cases h1 : bt s i ≥ 48
    · by_cases h2 : bt s i ≤ 57
      · rw [if_pos h1, if_pos h2, (isD_iff _).2 ⟨h1, h2⟩, wrap_id (by omega) (by omega), show ((i : Int) + 1) = ((i + 1 : Nat) : Int) from rfl, s_l2 s hs x2 x3 x4 d (i + 1) k (by omega) (by omega)]
        simp only [if_true, List.length_cons, Option.some.injEq, Prod.mk.injEq, true_and]; omega
      · rw [if_pos h1, if_neg h2, show isD (bt s i) = false from by rw [Bool.eq_false_iff, ne_eq, isD_iff]; omega]; rfl
    · rw [if_neg h1, show isD (bt s i) = false from by rw [Bool.eq_false_iff, ne_eq, isD_iff]; omega]; rfl
theorem s_j5 (s : ByteArray) (hs : s.size ≤ 281474976710656) (x2 x3 : Int) (c k : Nat) (hc : c ≤ s.size) (hk : s.size + 5 < k) :
    dec_span.j5 k s x2 x3 (c : Int) = some (x2, x3, (c : Int), ((c + endL ((bytesOf s).drop c) : Nat) : Int)) := by
  obtain ⟨k, rfl⟩ : ∃ m, k = m + 2 := ⟨k - 2, by omega⟩
  rw [dec_span.j5]
  by_cases h : c < s.size
  · rw [if_pos (by omega), if_pos (by omega), dec_span.j6, drop_cons s c h]
    unfold endL
    by_cases hd : bt s c = 46
    · rw [hd, if_pos (by decide), if_pos (by simp), wrap_id (by omega) (by omega), show ((c : Int) + 1) = ((c + 1 : Nat) : Int) from rfl, s_l2 s hs x2 x3 c (s.size - (c + 1)) (c + 1) k (by omega) (by omega)]
      simp only [List.drop_succ_cons, List.drop_zero, Option.some.injEq, Prod.mk.injEq, true_and]; omega
    · rw [if_neg (by simpa using hd), if_neg (by simpa using hd)]; simp
  · rw [if_neg (by omega), dec_span.j6, if_neg (by decide), List.drop_eq_nil_of_le (by rw [bytesOf_length]; omega)]; rfl
theorem s_l1 (s : ByteArray) (hs : s.size ≤ 281474976710656) (x2 x3 : Int) : ∀ d (i k : Nat), i + d = s.size → d + s.size + 7 < k →
    dec_span.l1 k s x2 x3 (i : Int) = some (x2, x3, ((i + (((bytesOf s).drop i).takeWhile isD).length : Nat) : Int),
      ((i + (((bytesOf s).drop i).takeWhile isD).length + endL (((bytesOf s).drop i).dropWhile isD) : Nat) : Int))
  | 0, i, k, h, hk => by
    obtain ⟨k, rfl⟩ : ∃ m, k = m + 1 := ⟨k - 1, by omega⟩
    rw [dec_span.l1, if_neg (by omega), s_j5 s hs x2 x3 i k (by omega) (by omega), List.drop_eq_nil_of_le (by rw [bytesOf_length]; omega)]; rfl
  | d + 1, i, k, h, hk => by
    obtain ⟨k, rfl⟩ : ∃ m, k = m + 1 := ⟨k - 1, by omega⟩
    rw [dec_span.l1, if_pos (by omega), if_pos (by omega)]
    have hj := s_j5 s hs x2 x3 i k (by omega) (by omega)
    rw [drop_cons s i (by omega)] at hj ⊢
    rw [List.takeWhile_cons, List.dropWhile_cons]
    by_cases h1 : bt s i ≥ 48
    · by_cases h2 : bt s i ≤ 57
      · rw [if_pos h1, if_pos h2, (isD_iff _).2 ⟨h1, h2⟩, wrap_id (by omega) (by omega), show ((i : Int) + 1) = ((i + 1 : Nat) : Int) from rfl, s_l1 s hs x2 x3 d (i + 1) k (by omega) (by omega)]
        simp only [if_true, List.length_cons, Option.some.injEq, Prod.mk.injEq, true_and]; omega
      · rw [if_pos h1, if_neg h2, show isD (bt s i) = false from by rw [Bool.eq_false_iff, ne_eq, isD_iff]; omega, hj]; rfl
    · rw [if_neg h1, show isD (bt s i) = false from by rw [Bool.eq_false_iff, ne_eq, isD_iff]; omega, hj]; rfl
/-- What follows the sign, of a row. -/
def tailL (l : List Int) : List Int := l.drop (signL l)
def spanFrom (a : Nat) (l : List Int) : Int × Int × Int × Int :=
  ((a : Int), ((a + signL l : Nat) : Int), ((a + signL l + ((tailL l).takeWhile isD).length : Nat) : Int), ((a + signL l + ((tailL l).takeWhile isD).length + endL ((tailL l).dropWhile isD) : Nat) : Int))
theorem s_j3 (s : ByteArray) (hs : s.size ≤ 281474976710656) (a b k : Nat) (hb : b ≤ s.size) (hk : 2 * s.size + 9 < k) :
    dec_span.j3 k s (a : Int) (b : Int) = some ((a : Int), (b : Int), ((b + (((bytesOf s).drop b).takeWhile isD).length : Nat) : Int),
      ((b + (((bytesOf s).drop b).takeWhile isD).length + endL (((bytesOf s).drop b).dropWhile isD) : Nat) : Int)) := by
  obtain ⟨k, rfl⟩ : ∃ m, k = m + 1 := ⟨k - 1, by omega⟩
  rw [dec_span.j3, s_l1 s hs a b (s.size - b) b k (by omega) (by omega)]
theorem s_j1 (s : ByteArray) (hs : s.size ≤ 281474976710656) (a k : Nat) (ha : a ≤ s.size) (hk : 2 * s.size + 12 < k) :
    dec_span.j1 k s (a : Int) = some (spanFrom a ((bytesOf s).drop a)) := by
  obtain ⟨k, rfl⟩ : ∃ m, k = m + 2 := ⟨k - 2, by omega⟩
  rw [dec_span.j1]
  by_cases h : a < s.size
  · rw [if_pos (by omega), if_pos (by omega)]
    have key : ∀ b : Bool, signL ((bytesOf s).drop a) = (if b then 1 else 0) → dec_span.j2 (k + 1) s (a : Int) (a : Int) b = some (spanFrom a ((bytesOf s).drop a)) := by
      intro b hb
      rw [dec_span.j2]
      unfold spanFrom tailL
      rw [hb]
      cases b with
      | true =>
        rw [if_pos rfl, if_pos rfl, wrap_id (by omega) (by omega), show ((a : Int) + 1) = ((a + 1 : Nat) : Int) from rfl, s_j3 s hs a (a + 1) k (by omega) (by omega), List.drop_drop]
      | false =>
        rw [if_neg (by decide), if_neg (by decide), s_j3 s hs a a k (by omega) (by omega)]; rfl
    have hh : ((bytesOf s).drop a).head? = some (bt s a) := by rw [drop_cons s a h]; rfl
    by_cases h1 : bt s a = 45
    · rw [if_pos h1]
      exact key true (by unfold signL; rw [hh, h1]; rfl)
    · rw [if_neg h1]
      apply key
      unfold signL
      rw [hh]
      by_cases h2 : bt s a = 43
      · rw [h2]; rfl
      · simp [h1, h2]
  · rw [if_neg (by omega), dec_span.j2, if_neg (by decide), s_j3 s hs a a k (by omega) (by omega), List.drop_eq_nil_of_le (by rw [bytesOf_length]; omega)]
    rfl
theorem s_l0 (s : ByteArray) (hs : s.size ≤ 281474976710656) : ∀ d (i k : Nat), i + d = s.size → d + 2 * s.size + 13 < k →
    dec_span.l0 k s (i : Int) = some (spanFrom (i + (((bytesOf s).drop i).takeWhile isB).length) (((bytesOf s).drop i).dropWhile isB))
  | 0, i, k, h, hk => by
    obtain ⟨k, rfl⟩ : ∃ m, k = m + 1 := ⟨k - 1, by omega⟩
    rw [dec_span.l0, if_neg (by omega), s_j1 s hs i k (by omega) (by omega), List.drop_eq_nil_of_le (by rw [bytesOf_length]; omega)]; rfl
  | d + 1, i, k, h, hk => by
    obtain ⟨k, rfl⟩ : ∃ m, k = m + 1 := ⟨k - 1, by omega⟩
    rw [dec_span.l0, if_pos (by omega), if_pos (by omega)]
    have hj := s_j1 s hs i k (by omega) (by omega)
    rw [drop_cons s i (by omega)] at hj ⊢
    rw [List.takeWhile_cons, List.dropWhile_cons]
    have go : isB (bt s i) = true → dec_span.l0 k s (wrap64 ((i : Int) + 1)) = some (spanFrom (i + (if isB (bt s i) = true then bt s i :: ((bytesOf s).drop (i + 1)).takeWhile isB else []).length) (if isB (bt s i) = true then ((bytesOf s).drop (i + 1)).dropWhile isB else bt s i :: (bytesOf s).drop (i + 1))) := by
      intro hb
      rw [if_pos hb, if_pos hb, wrap_id (by omega) (by omega), show ((i : Int) + 1) = ((i + 1 : Nat) : Int) from rfl, s_l0 s hs d (i + 1) k (by omega) (by omega), List.length_cons]
      congr 2; omega
    by_cases h1 : bt s i = 32
    · rw [if_pos h1]; exact go ((isB_iff _).2 (Or.inl h1))
    · by_cases h2 : bt s i = 9
      · rw [if_neg h1, if_pos h2]; exact go ((isB_iff _).2 (Or.inr h2))
      · rw [if_neg h1, if_neg h2, hj, show isB (bt s i) = false from by rw [Bool.eq_false_iff, ne_eq, isB_iff]; omega]; rfl
theorem span_f (s : ByteArray) (hs : s.size ≤ 281474976710656) (k : Nat) (hk : 3 * s.size + 13 < k) :
    dec_span.f k s = some (spanFrom ((bytesOf s).takeWhile isB).length ((bytesOf s).dropWhile isB)) := by
  have := s_l0 s hs s.size 0 k (by omega) (by omega)
  rw [List.drop_zero, Nat.zero_add] at this
  exact this
end Go.Proofs.YtgodmbcebpbdiaaDoor.PD
end

/- The plain law of layer 2: what a number's text is, and that it is read as the number. No Go and no memory stands here. -/
section
set_option linter.unusedVariables false
set_option linter.unusedSimpArgs false
namespace Go.Proofs.YtgodmbcebpbdiaaDoor.PD
open Go.RowKit Go.Proofs.YtgodmbcebpbdiaaDoorW.PrintWords Go.Proofs.YtgodmbcebpbdiaaDoorW.PrintLast Go.Proofs.YtgodmbcebpbdiaaDoor.G Go.Proofs.YtgodmbcebpbdiaaDoor.Q1

/-! ### a number's figures -/
def dec (u : Nat) : List Int := (Lib.decDigits u).map fun c => (c.toNat : Int)
theorem dec_lt {u : Nat} (h : u < 10) : dec u = [48 + (u : Int)] := by
  unfold dec; rw [Lib.decDigits, dif_pos h]
  simp only [List.map_cons, List.map_nil, UInt8.toNat_ofNat']
  congr 1; omega
theorem dec_ge {u : Nat} (h : ¬ u < 10) : dec u = dec (u / 10) ++ [48 + ((u % 10 : Nat) : Int)] := by
  unfold dec; rw [Lib.decDigits, dif_neg h, List.map_append]
  simp only [List.map_cons, List.map_nil, UInt8.toNat_ofNat']
  congr 2; omega
theorem dec_facts (u : Nat) : (∀ c ∈ dec u, isD c = true) ∧ val 0 (dec u) = u ∧ dec u ≠ [] := by
  induction u using Nat.strongRecOn with
  | _ u ih =>
    by_cases h : u < 10
    · rw [dec_lt h]
      refine ⟨fun c hc => ?_, ?_, by simp⟩
      · simp only [List.mem_singleton] at hc; subst hc; rw [isD_iff]; omega
      · simp only [val]; omega
    · obtain ⟨i1, i2, i3⟩ := ih (u / 10) (by omega)
      rw [dec_ge h]
      refine ⟨fun c hc => ?_, ?_, by simp⟩
      · rcases List.mem_append.1 hc with hc | hc
        · exact i1 c hc
        · simp only [List.mem_singleton] at hc; subst hc; rw [isD_iff]; omega
      · rw [val_append, i2]; simp only [val]; omega
theorem dec_len : ∀ d u, u < 10 ^ (d + 1) → (dec u).length ≤ d + 1
  | 0, u, h => by rw [dec_lt (by simpa using h)]; simp
  | d + 1, u, h => by
    by_cases q : u < 10
    · rw [dec_lt q]; simp
    · rw [dec_ge q, List.length_append]
      have := dec_len d (u / 10) (by rw [Nat.pow_succ] at h; omega)
      simp; omega
def fig (n : Int) : ByteArray := ⟨(Lib.itoa n).toArray⟩
theorem bytes_fig (u : Nat) : bytesOf (fig (u : Int)) = dec u := by
  unfold fig bytesOf Lib.itoa dec
  rw [if_neg (by omega), Int.toNat_natCast]
theorem p19 : (10 : Nat) ^ 19 = 10000000000000000000 := by decide
theorem dec_len20 (u : Nat) (h : u < 10000000000000000000) : (dec u).length ≤ 19 := dec_len 18 u (by rw [p19]; exact h)
theorem fig_size (u : Nat) : (fig (u : Int)).size = (dec u).length := by rw [← bytesOf_length, bytes_fig]
theorem figures_f (n : Int) (h0 : -9223372036854775808 ≤ n) (h1 : n ≤ 9223372036854775807) : hex_Figures.f n = some (fig n) := by
  unfold hex_Figures.f fig
  rw [if_pos (show in64 n from ⟨h0, h1⟩)]
theorem i64_range {c : Int} (hc : (Lit.int .i64 c).wf = true) : -9223372036854775808 ≤ c ∧ c ≤ 9223372036854775807 := by
  simp [Lit.wf, IntKind.min, IntKind.max, IntKind.signed, IntKind.bits] at hc
  omega
theorem u8_range {c : Int} (hc : (Lit.int .u8 c).wf = true) : 0 ≤ c ∧ c ≤ 255 := by
  simp [Lit.wf, IntKind.min, IntKind.max, IntKind.signed, IntKind.bits] at hc
  omega
/-! ### six figures -/
/-- The six figures of a number below a million. -/
def six (r : Nat) : List Int := [48 + ((r / 100000 % 10 : Nat) : Int), 48 + ((r / 10000 % 10 : Nat) : Int), 48 + ((r / 1000 % 10 : Nat) : Int), 48 + ((r / 100 % 10 : Nat) : Int), 48 + ((r / 10 % 10 : Nat) : Int), 48 + ((r % 10 : Nat) : Int)]
theorem dec_million (r : Nat) (h : r < 1000000) : dec (1000000 + r) = 49 :: six r := by
  rw [dec_ge (by omega), dec_ge (by omega), dec_ge (by omega), dec_ge (by omega), dec_ge (by omega), dec_ge (by omega), dec_lt (by omega)]
  unfold six
  simp only [List.cons_append, List.nil_append, List.cons.injEq, and_true, Nat.div_div_eq_div_mul]
  have e1 : (1000000 + r) / 10 % 10 = r / 10 % 10 := by omega
  have e2 : (1000000 + r) / (10 * 10) % 10 = r / 100 % 10 := by omega
  have e3 : (1000000 + r) / (10 * 10 * 10) % 10 = r / 1000 % 10 := by omega
  have e4 : (1000000 + r) / (10 * 10 * 10 * 10) % 10 = r / 10000 % 10 := by omega
  have e5 : (1000000 + r) / (10 * 10 * 10 * 10 * 10) % 10 = r / 100000 % 10 := by omega
  have e6 : (1000000 + r) / (10 * 10 * 10 * 10 * 10 * 10) = 1 := by omega
  have e0 : (1000000 + r) % 10 = r % 10 := by omega
  rw [e0, e1, e2, e3, e4, e5, e6]
  exact ⟨rfl, rfl, rfl, rfl, rfl, rfl, rfl⟩
theorem six_val (r acc : Nat) (h : r < 1000000) : val acc (six r) = acc * 1000000 + r := by
  have h48 : ∀ m : Nat, ((48 + (m : Int)) - 48).toNat = m := fun m => by omega
  unfold six
  simp only [val, h48]
  have a1 : r = 10 * (r / 10) + r % 10 := by omega
  have a2 : r / 10 = 10 * (r / 100) + r / 10 % 10 := by omega
  have a3 : r / 100 = 10 * (r / 1000) + r / 100 % 10 := by omega
  have a4 : r / 1000 = 10 * (r / 10000) + r / 1000 % 10 := by omega
  have a5 : r / 10000 = 10 * (r / 100000) + r / 10000 % 10 := by omega
  have a6 : r / 100000 = r / 100000 % 10 := by omega
  generalize r % 10 = x0 at *
  generalize r / 10 % 10 = x1 at *
  generalize r / 100 % 10 = x2 at *
  generalize r / 1000 % 10 = x3 at *
  generalize r / 10000 % 10 = x4 at *
  generalize r / 100000 % 10 = x5 at *
  generalize r / 10 = y1 at *
  generalize r / 100 = y2 at *
  generalize r / 1000 = y3 at *
  generalize r / 10000 = y4 at *
  generalize r / 100000 = y5 at *
  subst a6 a5 a4 a3 a2 a1
  omega
theorem six_digits (r : Nat) : ∀ c ∈ six r, isD c = true := by
  intro c hc
  have h : ∀ m : Nat, isD (48 + ((m % 10 : Nat) : Int)) = true := fun m => by rw [isD_iff]; omega
  simp only [six, List.mem_cons, List.not_mem_nil, or_false] at hc
  rcases hc with rfl | rfl | rfl | rfl | rfl | rfl <;> exact h _
/-! ### noughts at the end are cut -/
def strip (l : List Int) : List Int := (l.reverse.dropWhile (fun c => c == 48)).reverse
theorem strip_nil : strip [] = [] := rfl
theorem strip_snoc (l : List Int) (c : Int) : strip (l ++ [c]) = if c = 48 then strip l else l ++ [c] := by
  unfold strip
  rw [List.reverse_append, List.reverse_singleton, List.singleton_append, List.dropWhile_cons]
  by_cases h : c = 48
  · subst h; simp
  · simp [h]
theorem strip_pad : ∀ (n : Nat) (l : List Int), l.length = n → ∃ m, l = strip l ++ List.replicate m 48
  | 0, l, h => ⟨0, by rw [List.eq_nil_of_length_eq_zero h]; rfl⟩
  | n + 1, l, h => by
    have hne : l ≠ [] := by intro z; rw [z] at h; simp at h
    have hl := List.dropLast_concat_getLast hne
    obtain ⟨m, hm⟩ := strip_pad n l.dropLast (by simp [h])
    rw [← hl, strip_snoc]
    by_cases hc : l.getLast hne = 48
    · rw [if_pos hc, hc]
      exact ⟨m + 1, by rw [List.replicate_succ', ← List.append_assoc, ← hm]⟩
    · rw [if_neg hc]; exact ⟨0, by simp⟩
theorem strip_len (l : List Int) : (strip l).length ≤ l.length := by
  obtain ⟨m, hm⟩ := strip_pad _ l rfl
  have := congrArg List.length hm
  simp at this; omega
theorem bytes_extract (s : ByteArray) (a b : Nat) : bytesOf (s.extract a b) = ((bytesOf s).take b).drop a := by
  unfold bytesOf
  rw [ByteArray.data_extract, Array.toList_extract, List.extract_eq_take_drop, List.map_take, List.map_drop, List.drop_take]
theorem trim_f : ∀ (n k : Nat) (s : ByteArray), s.size = n → n ≤ 281474976710656 → n < k → ∃ r, QA.strings_trimRightByte.l0 k s 48 = some r ∧ bytesOf r = strip (bytesOf s)
  | 0, k, s, h, hn, hk => by
    obtain ⟨k, rfl⟩ : ∃ m, k = m + 1 := ⟨k - 1, by omega⟩
    refine ⟨s, by rw [QA.strings_trimRightByte.l0, if_neg (by omega)], ?_⟩
    rw [show bytesOf s = [] from List.eq_nil_of_length_eq_zero (by rw [bytesOf_length]; exact h)]; rfl
  | n + 1, k, s, h, hn, hk => by
    obtain ⟨k, rfl⟩ : ∃ m, k = m + 1 := ⟨k - 1, by omega⟩
    have hw : wrap64 ((s.size : Int) - 1) = (n : Int) := by rw [wrap_id (by omega) (by omega)]; omega
    have hs : bytesOf s = bytesOf (s.extract 0 n) ++ [bt s n] := by
      rw [bytes_extract, List.drop_zero, bt_get s n (by omega)]
      have : bytesOf s = (bytesOf s).take (n + 1) := by rw [List.take_of_length_le (by rw [bytesOf_length]; omega)]
      rw [List.take_succ_eq_append_getElem (by rw [bytesOf_length]; omega)] at this
      exact this
    rw [QA.strings_trimRightByte.l0, if_pos (by omega), hw, if_pos (by omega), if_pos (by omega), hs, strip_snoc]
    by_cases hc : bt s n = 48
    · rw [if_pos hc, if_pos (by omega), if_pos hc, Int.toNat_natCast]
      exact trim_f n k (s.extract 0 n) (by rw [ByteArray.size_extract]; omega) (by omega) (by omega)
    · rw [if_neg hc, if_neg hc]
      exact ⟨s, rfl, hs⟩
/-! ### a number's text -/
def fracL (r : Nat) : List Int := if r = 0 then [] else 46 :: strip (six r)
def textL (n : Int) : List Int := (if n < 0 then [45] else []) ++ (dec (n.natAbs / 1000000) ++ fracL (n.natAbs % 1000000))
theorem split_f (n : Int) (h0 : -9223372036854775808 ≤ n) (h1 : n ≤ 9223372036854775807) : QA.dec_split.f n = some ((n.natAbs : Int), decide (n < 0)) := by
  unfold QA.dec_split.f
  by_cases h : n < 0
  · rw [if_pos h, decide_eq_true h]
    congr 2
    simp [IntKind.wrap, IntKind.bits, IntKind.signed]
    omega
  · rw [if_neg h, decide_eq_false h]
    congr 2
    simp [IntKind.wrap, IntKind.bits, IntKind.signed]
    omega
end Go.Proofs.YtgodmbcebpbdiaaDoor.PD
end

/- The plain law of layer 2: a number's text and a numeral's reading, as rows of bytes. No Go and no memory stands here. -/
section
set_option linter.unusedVariables false
set_option linter.unusedSimpArgs false
namespace Go.Proofs.YtgodmbcebpbdiaaDoor.PD
open Go.RowKit Go.Proofs.YtgodmbcebpbdiaaDoorW.PrintWords Go.Proofs.YtgodmbcebpbdiaaDoorW.PrintLast Go.Proofs.YtgodmbcebpbdiaaDoor.G Go.Proofs.YtgodmbcebpbdiaaDoor.Q1

theorem trimR_f (k : Nat) (s : ByteArray) (hn : s.size ≤ 281474976710656) (hk : s.size + 3 < k) : ∃ r, QA.strings_TrimRight.f k s (⟨#[48]⟩ : ByteArray) = some r ∧ bytesOf r = strip (bytesOf s) := by
  obtain ⟨k, rfl⟩ : ∃ m, k = m + 2 := ⟨k - 2, by omega⟩
  obtain ⟨r, hr, hb⟩ := trim_f s.size (k + 2) s rfl hn (by omega)
  unfold QA.strings_TrimRight.f
  by_cases he : s.toList = []
  · rw [if_pos he, QA.strings_TrimRight.j0, if_pos rfl]
    refine ⟨s, rfl, ?_⟩
    have : bytesOf s = [] := by unfold bytesOf; rw [← ByteArray.toList_eq, he]; rfl
    rw [this]; rfl
  · have hb48 : bt (⟨#[48]⟩ : ByteArray) 0 = 48 := by decide +kernel
    have h1 : (((⟨#[48]⟩ : ByteArray).toList == ([] : List UInt8)) : Bool) = false := by decide +kernel
    rw [if_neg he, h1, QA.strings_TrimRight.j0, if_neg (by decide), if_pos (by decide), if_pos (by decide), hb48, QA.strings_TrimRight.j1, if_pos (by decide), if_pos (by decide), hb48]
    have hk2 : ∀ k, s.size < k → ∃ r, QA.strings_trimRightByte.f k s 48 = some r ∧ bytesOf r = strip (bytesOf s) := fun k hk => trim_f s.size k s rfl hn hk
    obtain ⟨r2, hr2, hb2⟩ := hk2 k (by omega)
    rw [hr2]
    exact ⟨r2, rfl, hb2⟩
theorem bytes_mk1 (c : UInt8) : bytesOf (⟨#[c]⟩ : ByteArray) = [(c.toNat : Int)] := rfl
theorem size_of_bytes {s : ByteArray} {l : List Int} (h : bytesOf s = l) : s.size = l.length := by rw [← bytesOf_length, h]
theorem fracL_len (r : Nat) : (fracL r).length ≤ 7 := by
  unfold fracL
  split
  · simp
  · exact Nat.succ_le_succ (strip_len (six r))
theorem app46 (a z : List Int) : a ++ ([((46 : UInt8).toNat : Int)] ++ z) = a ++ (46 :: z) := rfl
theorem app45 (z : List Int) : [((45 : UInt8).toNat : Int)] ++ z = (if true = true then [45] else []) ++ z := rfl
theorem app0 (z : List Int) : z = (if false = true then [45] else []) ++ z := rfl
theorem text_aux (k m q r u : Nat) (b : Bool) (n : Int) (hk : 20 < k) (hq : q < 10000000000000000000) (hr : r < 1000000) (hu : u = 1000000 + r)
    (hs : QA.dec_split.f n = some ((m : Int), b)) (hw1 : wrap64 (IntKind.u64.wrap (Int.tdiv (m : Int) 1000000)) = (q : Int)) (hq2 : (q : Int) ≤ 9223372036854775807) (hw2 : Int.tmod (m : Int) 1000000 = (r : Int))
    (hw3 : wrap64 (IntKind.u64.wrap (1000000 + (r : Int))) = (u : Int)) : ∃ t, QA.dec_Text.f k n = some t ∧ bytesOf t = (if b = true then [45] else []) ++ (dec q ++ fracL r) ∧ t.size ≤ 30 := by
  have hdl := dec_len20 q hq
  unfold QA.dec_Text.f
  rw [hs]
  rw [Option.bind_some]
  dsimp only
  rw [hw1, figures_f (q : Int) (by omega) hq2, hw2]
  rw [Option.bind_some]
  have hfig := bytes_fig q
  have hfs := fig_size q
  generalize fig (q : Int) = t1 at hfig hfs ⊢
  by_cases hz : r = 0
  · subst hz
    have hfr : fracL 0 = [] := rfl
    rw [if_pos (show ((0 : Nat) : Int) = 0 from rfl), hfr, List.append_nil]
    cases b with
    | true =>
      rw [if_pos rfl, if_pos rfl, if_pos (by omega)]
      refine ⟨_, rfl, by rw [bytesOf_append, bytes_mk1, hfig]; exact app45 _, ?_⟩
      rw [ByteArray.size_append, show (⟨#[45]⟩ : ByteArray).size = 1 from rfl]; omega
    | false =>
      rw [if_neg (by decide), if_neg (by decide)]
      exact ⟨_, rfl, by rw [hfig]; exact app0 _, by omega⟩
  · rw [if_neg (by omega), hw3, figures_f (u : Int) (by omega) (by omega)]
    rw [Option.bind_some]
    have hb2 := bytes_fig u
    have hs2 := fig_size u
    generalize fig (u : Int) = t2 at hb2 hs2 ⊢
    rw [hu, dec_million r hr] at hb2 hs2
    have hs2' : t2.size = 7 := hs2
    rw [if_pos (by omega)]
    have hb3 : bytesOf (t2.extract 1 t2.size) = six r := by
      rw [bytes_extract, List.take_of_length_le (by rw [bytesOf_length]; omega), hb2]; exact List.drop_succ_cons.trans List.drop_zero
    obtain ⟨t3, ht3, hbt3⟩ := trimR_f k (t2.extract 1 t2.size) (by rw [ByteArray.size_extract]; omega) (by rw [ByteArray.size_extract]; omega)
    rw [ht3]
    rw [Option.bind_some]
    rw [hb3] at hbt3
    have hl3 : t3.size ≤ 6 := by
      rw [size_of_bytes hbt3]
      exact strip_len (six r)
    have hfr : fracL r = 46 :: strip (six r) := by unfold fracL; rw [if_neg hz]
    have hap : bytesOf (t1 ++ ((⟨#[46]⟩ : ByteArray) ++ t3)) = dec q ++ fracL r := by
      rw [bytesOf_append, bytesOf_append, bytes_mk1, hfig, hbt3, hfr]; exact app46 _ _
    have hsz : (t1 ++ ((⟨#[46]⟩ : ByteArray) ++ t3)).size ≤ 26 := by
      rw [ByteArray.size_append, ByteArray.size_append, show (⟨#[46]⟩ : ByteArray).size = 1 from rfl]; omega
    rw [if_pos (by omega), if_pos (by rw [ByteArray.size_append, show (⟨#[46]⟩ : ByteArray).size = 1 from rfl]; omega)]
    generalize t1 ++ ((⟨#[46]⟩ : ByteArray) ++ t3) = t4 at hap hsz ⊢
    cases b with
    | true =>
      rw [if_pos rfl, if_pos rfl, if_pos (by omega)]
      refine ⟨_, rfl, by rw [bytesOf_append, bytes_mk1, hap]; exact app45 _, ?_⟩
      rw [ByteArray.size_append, show (⟨#[45]⟩ : ByteArray).size = 1 from rfl]; omega
    | false =>
      rw [if_neg (by decide), if_neg (by decide)]
      exact ⟨_, rfl, by rw [hap]; exact app0 _, by omega⟩
theorem text_f (k : Nat) (n : Int) (h0 : -9223372036854775808 ≤ n) (h1 : n ≤ 9223372036854775807) (hk : 20 < k) : ∃ t, QA.dec_Text.f k n = some t ∧ bytesOf t = textL n ∧ t.size ≤ 30 := by
  have hm : n.natAbs ≤ 9223372036854775808 := by omega
  have hd : Int.tdiv (n.natAbs : Int) 1000000 = ((n.natAbs / 1000000 : Nat) : Int) := Int.tdiv_eq_ediv_of_nonneg (by omega)
  obtain ⟨t, h1, h2, h3⟩ := text_aux k n.natAbs (n.natAbs / 1000000) (n.natAbs % 1000000) (1000000 + n.natAbs % 1000000) (decide (n < 0)) n hk (by omega) (Nat.mod_lt _ (by decide)) rfl
    (split_f n h0 h1) (by rw [hd, wmod, Int.emod_eq_of_lt (by omega) (by omega), wrap_id (by omega) (by omega)]) (by omega) (Int.tmod_eq_emod_of_nonneg (by omega))
    (by rw [wmod, Int.emod_eq_of_lt (by omega) (by omega), wrap_id (by omega) (by omega)]; omega)
  refine ⟨t, h1, ?_, h3⟩
  rw [h2]
  unfold textL
  by_cases hn : n < 0
  · rw [if_pos (decide_eq_true hn), if_pos hn]
  · rw [if_neg (by simp [hn]), if_neg hn]

/-! ### a numeral is read -/
theorem getD_val (T : ByteArray) (i : Nat) (h : i < T.size) : ((T.data.toList.getD i 0).toNat : Int) = (bytesOf T)[i]'(by rw [bytesOf_length]; exact h) := by
  unfold bytesOf
  have hl : i < T.data.toList.length := by simpa using h
  rw [List.getD_eq_getElem?_getD, List.getElem?_eq_getElem hl]
  simp
theorem dig_step (x v d low : Nat) (hge : x ≤ v) (h0 : d = 0 → v = x) :
    (if x < 18446744073709551616 then (if v < 18446744073709551616 then some v else if d = 0 then some x else none) else none) = if v < 18446744073709551616 then some v else if d + 1 = 0 then some low else none := by
  by_cases hx : x < 18446744073709551616
  · rw [if_pos hx]
    by_cases hvl : v < 18446744073709551616
    · rw [if_pos hvl, if_pos hvl]
    · rw [if_neg hvl, if_neg hvl]
      by_cases d0 : d = 0
      · have := h0 d0; omega
      · rw [if_neg (Nat.succ_ne_zero d), if_neg d0]
  · rw [if_neg hx, if_neg (by omega), if_neg (Nat.succ_ne_zero d)]
theorem digV_val (T : ByteArray) (hd : ∀ c ∈ bytesOf T, isD c = true) : ∀ (d i low : Nat), i + d = T.size →
    digV T d i low = if val low ((bytesOf T).drop i) < 18446744073709551616 then some (val low ((bytesOf T).drop i)) else if d = 0 then some low else none
  | 0, i, low, h => by
    rw [digV, List.drop_eq_nil_of_le (by rw [bytesOf_length]; omega)]
    simp only [val]
    split <;> rfl
  | d + 1, i, low, h => by
    have hi : i < T.size := by omega
    have hl : i < (bytesOf T).length := by rw [bytesOf_length]; exact hi
    have hg := getD_val T i hi
    have hD := (isD_iff _).1 (hd _ (List.getElem_mem hl))
    rw [digV, List.drop_eq_getElem_cons hl]
    simp only [val]
    have e : low * 10 + ((T.data.toList.getD i 0).toNat - 48) = 10 * low + ((bytesOf T)[i] - 48).toNat := by omega
    rw [e, digV_val T hd d (i + 1) _ (by omega)]
    refine dig_step _ _ d low (val_ge _ _) (fun d0 => ?_)
    subst d0
    rw [List.drop_eq_nil_of_le (by rw [bytesOf_length]; omega)]; rfl
end Go.Proofs.YtgodmbcebpbdiaaDoor.PD
end

/- The plain law of layer 2: what a numeral comes to. No Go and no memory stands here. -/
section
set_option linter.unusedVariables false
set_option linter.unusedSimpArgs false
namespace Go.Proofs.YtgodmbcebpbdiaaDoor.PD
open Go.RowKit Go.Proofs.YtgodmbcebpbdiaaDoorW.PrintWords Go.Proofs.YtgodmbcebpbdiaaDoorW.PrintLast Go.Proofs.YtgodmbcebpbdiaaDoor.G Go.Proofs.YtgodmbcebpbdiaaDoor.Q1

theorem takeWhile_app {p : Int → Bool} : ∀ (a b : List Int), (∀ x ∈ a, p x = true) → (∀ c, b.head? = some c → p c = false) → (a ++ b).takeWhile p = a ∧ (a ++ b).dropWhile p = b
  | [], b, _, h => by
    cases b with
    | nil => exact ⟨rfl, rfl⟩
    | cons c r =>
      have := h c rfl
      rw [List.nil_append, List.takeWhile_cons, List.dropWhile_cons, this]; exact ⟨rfl, rfl⟩
  | x :: a, b, ha, h => by
    obtain ⟨h1, h2⟩ := takeWhile_app a b (fun y hy => ha y (List.mem_cons_of_mem _ hy)) h
    rw [List.cons_append, List.takeWhile_cons, List.dropWhile_cons, ha x (List.mem_cons_self ..), if_pos rfl, if_pos rfl, h1, h2]; exact ⟨rfl, rfl⟩
/-- A numeral's parts: blanks, a sign, figures, a point with figures (or nothing), what follows. -/
structure Parts (l B S D F M : List Int) : Prop where
  all : l = B ++ (S ++ (D ++ (F ++ M)))
  blanks : ∀ c ∈ B, isB c = true
  sign : S = [] ∨ S = [45] ∨ S = [43]
  figs : ∀ c ∈ D, isD c = true
  some_ : D ≠ []
  frac : (F = [] ∧ M.head? ≠ some 46) ∨ (F.head? = some 46 ∧ ∀ c ∈ F.drop 1, isD c = true)
  rest : ∀ c, M.head? = some c → isD c = false
theorem Parts.end_ {l B S D F M : List Int} (h : Parts l B S D F M) : endL (F ++ M) = F.length ∧ ∀ c, (F ++ M).head? = some c → isD c = false := by
  rcases h.frac with ⟨rfl, h2⟩ | ⟨h1, h2⟩
  · refine ⟨?_, h.rest⟩
    unfold endL
    rw [List.nil_append, if_neg h2]; rfl
  · cases F with
    | nil => cases h1
    | cons x E =>
      obtain rfl : x = 46 := by simpa using h1
      refine ⟨?_, ?_⟩
      · unfold endL
        rw [List.cons_append, List.head?_cons, if_pos rfl, List.drop_succ_cons, List.drop_zero, (takeWhile_app E M h2 h.rest).1, List.length_cons]; omega
      · intro c hc
        rw [List.cons_append, List.head?_cons] at hc
        obtain rfl := Option.some.inj hc; rfl
theorem isB_of_isD {c : Int} (h : isD c = true) : isB c = false := by
  have := (isD_iff c).1 h
  rw [Bool.eq_false_iff, ne_eq, isB_iff]; omega
theorem Parts.span {l B S D F M : List Int} (h : Parts l B S D F M) :
    spanFrom (l.takeWhile isB).length (l.dropWhile isB) = ((B.length : Int), ((B.length + S.length : Nat) : Int), ((B.length + S.length + D.length : Nat) : Int), ((B.length + S.length + D.length + F.length : Nat) : Int)) := by
  obtain ⟨d, D', hD⟩ : ∃ d D', D = d :: D' := by
    cases hD : D with
    | nil => exact absurd hD h.some_
    | cons d D' => exact ⟨d, D', rfl⟩
  have hd : isD d = true := h.figs d (by rw [hD]; exact List.mem_cons_self ..)
  have hd' := (isD_iff d).1 hd
  have hb : ∀ c, (S ++ (D ++ (F ++ M))).head? = some c → isB c = false := by
    intro c hc
    rcases h.sign with rfl | rfl | rfl
    · rw [hD] at hc
      obtain rfl := Option.some.inj hc
      exact isB_of_isD hd
    · obtain rfl := Option.some.inj hc; rfl
    · obtain rfl := Option.some.inj hc; rfl
  obtain ⟨t1, t2⟩ := takeWhile_app B _ h.blanks hb
  rw [h.all, t1, t2]
  have hs : signL (S ++ (D ++ (F ++ M))) = S.length := by
    unfold signL
    rcases h.sign with rfl | rfl | rfl
    · rw [hD]
      simp only [List.nil_append, List.cons_append, List.head?_cons, Option.some.injEq]
      rw [if_neg (by omega)]; rfl
    · rfl
    · rfl
  have ht : tailL (S ++ (D ++ (F ++ M))) = D ++ (F ++ M) := by
    unfold tailL; rw [hs, List.drop_left]
  unfold spanFrom
  rw [ht, hs]
  obtain ⟨t3, t4⟩ := takeWhile_app D _ h.figs h.end_.2
  rw [t3, t4, h.end_.1]
theorem six_bytes : bytesOf (⟨#[48, 48, 48, 48, 48, 48]⟩ : ByteArray) = List.replicate 6 48 := rfl
theorem nil_bytes : bytesOf (⟨#[]⟩ : ByteArray) = [] := rfl
theorem Parts.num {s : ByteArray} {B S D F M : List Int} (h : Parts (bytesOf s) B S D F M) (hs : s.size ≤ 281474976710656) :
    bytesOf (numT s ((B.length + S.length : Nat) : Int) ((B.length + S.length + D.length : Nat) : Int) ((B.length + S.length + D.length + F.length : Nat) : Int)) = D ++ (F.drop 1 ++ List.replicate 6 48).take 6 := by
  have hl : s.size = B.length + (S.length + (D.length + (F.length + M.length))) := by rw [size_of_bytes h.all]; simp
  have e1 : bytesOf (s.extract (B.length + S.length) (B.length + S.length + D.length)) = D := by
    rw [bytes_extract, h.all, ← List.append_assoc, ← List.append_assoc, ← List.append_assoc, List.append_assoc _ F M, show (B ++ S ++ D ++ (F ++ M)).take (B.length + S.length + D.length) = B ++ S ++ D from by rw [show B.length + S.length + D.length = (B ++ S ++ D).length by simp; omega, List.take_left]]
    rw [show B.length + S.length = (B ++ S).length by simp, List.drop_left]
  unfold numT
  rw [bytesOf_append, Int.toNat_natCast, Int.toNat_natCast, e1]
  congr 1
  by_cases hF : F.length = 0
  · have hF' : F = [] := List.eq_nil_of_length_eq_zero hF
    rw [if_neg (by omega), bytes_extract, bytesOf_append, six_bytes, nil_bytes, hF']; rfl
  · rw [if_pos (by omega), bytes_extract, bytesOf_append, six_bytes]
    rw [show (((B.length + S.length + D.length : Nat) : Int) + 1).toNat = B.length + S.length + D.length + 1 by omega]
    rw [bytes_extract, Int.toNat_natCast, h.all, show (B ++ (S ++ (D ++ (F ++ M)))).take (B.length + S.length + D.length + F.length) = B ++ S ++ D ++ F from by rw [show B ++ (S ++ (D ++ (F ++ M))) = (B ++ S ++ D ++ F) ++ M by simp, show B.length + S.length + D.length + F.length = (B ++ S ++ D ++ F).length by simp; omega, List.take_left]]
    rw [List.drop_zero, show (B ++ S ++ D ++ F).drop (B.length + S.length + D.length + 1) = F.drop 1 from by
      rw [← List.drop_drop, show B.length + S.length + D.length = (B ++ S ++ D).length by simp; omega, List.drop_left]]
theorem joinV_lt {V : Nat} {b : Bool} {v : Int} (h : joinV V b = some v) : V < 18446744073709551616 := by
  unfold joinV at h
  cases b with
  | true =>
    by_cases h1 : V ≤ 9223372036854775808
    · omega
    · rw [if_pos rfl, if_neg h1] at h; cases h
  | false =>
    by_cases h1 : V ≤ 9223372036854775807
    · omega
    · rw [if_neg (by decide), if_neg h1] at h; cases h
/-- A numeral is read as its figures say. -/
theorem Parts.read {s : ByteArray} {B S D F M : List Int} (h : Parts (bytesOf s) B S D F M) (hs : s.size ≤ 281474976710656) {V : Nat} {v : Int}
    (hV : val 0 (D ++ (F.drop 1 ++ List.replicate 6 48).take 6) = V) (hj : joinV V (decide (S = [45])) = some v) :
    dec_Read.f s = some (v, ((B.length + S.length + D.length + F.length : Nat) : Int), 0) := by
  have hl : s.size = B.length + (S.length + (D.length + (F.length + M.length))) := by rw [size_of_bytes h.all]; simp
  have hDl : 0 < D.length := List.length_pos_iff.2 h.some_
  have hn := h.num hs
  unfold dec_Read.f
  rw [span_f s hs _ (by omega), h.span, Option.bind_some]
  unfold readV
  dsimp only
  have hT : ∀ c ∈ bytesOf (numT s ((B.length + S.length : Nat) : Int) ((B.length + S.length + D.length : Nat) : Int) ((B.length + S.length + D.length + F.length : Nat) : Int)), isD c = true := by
    rw [hn]
    intro c hc
    rcases List.mem_append.1 hc with hc | hc
    · exact h.figs c hc
    · rcases List.mem_append.1 (List.mem_of_mem_take hc) with hc | hc
      · rcases h.frac with ⟨rfl, _⟩ | ⟨_, h2⟩
        · cases hc
        · exact h2 c hc
      · rw [(List.mem_replicate.1 hc).2]; rfl
  generalize numT s ((B.length + S.length : Nat) : Int) ((B.length + S.length + D.length : Nat) : Int) ((B.length + S.length + D.length + F.length : Nat) : Int) = T at hn hT ⊢
  have hTs : T.size ≤ D.length + 6 := by
    rw [size_of_bytes hn, List.length_append, List.length_take]; omega
  have ha : B.length < s.size := by omega
  rw [if_neg (by omega), if_pos (by
    refine ⟨⟨by omega, by omega, by omega, by omega, by omega, by omega, hs, by omega⟩, fun i hi => ?_⟩
    have h1 := (isD_iff _).1 (hT _ (List.getElem_mem (by rw [bytesOf_length]; exact hi)))
    have h2 := getD_val T i hi
    omega)]
  have hval : val 0 ((bytesOf T).drop 0) = V := by rw [List.drop_zero, hn]; exact hV
  rw [digV_val T hT T.size 0 0 (by omega), hval, if_pos (joinV_lt hj)]
  have hm : minus s (B.length : Int) = decide (S = [45]) := by
    unfold minus
    rw [dif_pos (show ((B.length : Int)).toNat < s.size by omega)]
    have hb : (((s[((B.length : Int)).toNat]'(by omega)).toNat : Int)) = bt s (B.length : Int) := by
      unfold bt
      simp [ha]
    have hg : bt s ((B.length : Nat) : Int) = (S ++ (D ++ (F ++ M))).head (by intro z; have := congrArg List.length z; simp only [List.length_append, List.length_nil] at this; omega) := by
      rw [bt_get s B.length ha]
      simp only [h.all]
      rw [List.getElem_append_right (Nat.le_refl _), List.head_eq_getElem]
      simp
    rw [hb, hg]
    rcases h.sign with rfl | rfl | rfl
    · obtain ⟨d, D', rfl⟩ : ∃ d D', D = d :: D' := by
        cases hD : D with
        | nil => exact absurd hD h.some_
        | cons d D' => exact ⟨d, D', rfl⟩
      have := (isD_iff d).1 (h.figs d (List.mem_cons_self ..))
      simp
      omega
    · rfl
    · rfl
  rw [hm]
  unfold resV
  rw [Option.bind_some, hj]
end Go.Proofs.YtgodmbcebpbdiaaDoor.PD
end

/- The plain laws of layer 2: a number's text is read as it. No Go and no memory stands here. -/
section
set_option linter.unusedVariables false
set_option linter.unusedSimpArgs false
namespace Go.Proofs.YtgodmbcebpbdiaaDoor.PD
open Go.RowKit Go.Proofs.YtgodmbcebpbdiaaDoorW.PrintWords Go.Proofs.YtgodmbcebpbdiaaDoorW.PrintLast Go.Proofs.YtgodmbcebpbdiaaDoor.G Go.Proofs.YtgodmbcebpbdiaaDoor.Q1 Go.Proofs.YtgodmbcebpbdiaaDoor.QA

theorem strip_back (l : List Int) (h : l.length = 6) : (strip l ++ List.replicate 6 48).take 6 = l := by
  obtain ⟨m, hm⟩ := strip_pad _ l rfl
  have hl := strip_len l
  have hm6 : (strip l).length + m = 6 := by
    have := congrArg List.length hm
    rw [List.length_append, List.length_replicate] at this; omega
  rw [show List.replicate 6 (48 : Int) = List.replicate m 48 ++ List.replicate (6 - m) 48 from by rw [List.replicate_append_replicate]; congr 1; omega, ← List.append_assoc, ← hm]
  rw [show 6 = l.length from h.symm, List.take_left]
theorem frac_six (r : Nat) (h : r < 1000000) : ((fracL r).drop 1 ++ List.replicate 6 48).take 6 = six r := by
  unfold fracL
  by_cases hz : r = 0
  · subst hz; rfl
  · rw [if_neg hz, List.drop_succ_cons, List.drop_zero]
    exact strip_back _ rfl
theorem strip_sub (l : List Int) : ∀ c ∈ strip l, c ∈ l := by
  intro c hc
  obtain ⟨m, hm⟩ := strip_pad _ l rfl
  rw [hm]; exact List.mem_append_left _ hc
theorem frac_ok (r : Nat) (M : List Int) (hM : M.head? ≠ some 46) : (fracL r = [] ∧ M.head? ≠ some 46) ∨ ((fracL r).head? = some 46 ∧ ∀ c ∈ (fracL r).drop 1, isD c = true) := by
  unfold fracL
  by_cases hz : r = 0
  · rw [if_pos hz]; exact Or.inl ⟨rfl, hM⟩
  · rw [if_neg hz]
    exact Or.inr ⟨rfl, fun c hc => six_digits r c (strip_sub _ c (by simpa using hc))⟩
theorem text_val (n : Int) : val 0 (dec (n.natAbs / 1000000) ++ ((fracL (n.natAbs % 1000000)).drop 1 ++ List.replicate 6 48).take 6) = n.natAbs := by
  rw [frac_six _ (Nat.mod_lt _ (by decide)), val_append, (dec_facts _).2.1, six_val _ _ (Nat.mod_lt _ (by decide))]
  omega
theorem join_text (n : Int) (h0 : -9223372036854775808 ≤ n) (h1 : n ≤ 9223372036854775807) : joinV n.natAbs (decide (n < 0)) = some n := by
  unfold joinV
  by_cases h : n < 0
  · rw [if_pos (decide_eq_true h), if_pos (by omega)]; congr 1; omega
  · rw [if_neg (by simp [h]), if_pos (by omega)]; congr 1; omega
/-- A number's text, with blanks ahead and what is no figure and no point behind, is read as it. -/
theorem read_back (s : ByteArray) (n : Int) (B M : List Int) (h0 : -9223372036854775808 ≤ n) (h1 : n ≤ 9223372036854775807) (hs : s.size ≤ 281474976710656)
    (hB : ∀ c ∈ B, isB c = true) (hM : M.head? ≠ some 46) (hM2 : ∀ c, M.head? = some c → isD c = false) (h : bytesOf s = B ++ (textL n ++ M)) :
    dec_Read.f s = some (n, ((B.length + (textL n).length : Nat) : Int), 0) := by
  have hp : Parts (bytesOf s) B (if n < 0 then [45] else []) (dec (n.natAbs / 1000000)) (fracL (n.natAbs % 1000000)) M := by
    refine ⟨by rw [h]; unfold textL; simp, hB, ?_, (dec_facts _).1, (dec_facts _).2.2, frac_ok _ M hM, hM2⟩
    by_cases hn : n < 0
    · rw [if_pos hn]; exact Or.inr (Or.inl rfl)
    · rw [if_neg hn]; exact Or.inl rfl
  have hsg : decide ((if n < 0 then [45] else []) = ([45] : List Int)) = decide (n < 0) := by
    by_cases hn : n < 0
    · rw [if_pos hn]; simp [hn]
    · rw [if_neg hn]; simp [hn]
  rw [hp.read hs (text_val n) (by rw [hsg]; exact join_text n h0 h1)]
  unfold textL
  simp only [List.length_append, Nat.add_assoc]
/-! ### the document's examples -/
theorem shown_read : dec_Read.f (⟨#[45, 49, 46, 53, 48, 120]⟩ : ByteArray) = some (-1500000, 5, 0) := by
  have hp : Parts (bytesOf (⟨#[45, 49, 46, 53, 48, 120]⟩ : ByteArray)) [] [45] [49] [46, 53, 48] [120] :=
    ⟨rfl, by simp, Or.inr (Or.inl rfl), by decide, by decide, Or.inr ⟨rfl, by decide⟩, by intro c hc; obtain rfl := Option.some.inj hc; rfl⟩
  have := hp.read (V := 1500000) (v := -1500000) (by decide) (by decide) (by decide +kernel)
  exact this
theorem toList_of {t : ByteArray} {l : List UInt8} (h : bytesOf t = l.map fun c => (c.toNat : Int)) : t.toList = l := by
  have : t = ⟨l.toArray⟩ := ext_bytes (by rw [h]; unfold bytesOf; simp)
  rw [this, ByteArray.toList_eq]
theorem shown_f (k : Nat) (hk : 20 < k) : dragomanlaw02_shown.f k = some true := by
  unfold dragomanlaw02_shown.f
  rw [shown_read, Option.bind_some, show dec_Div.f 1000000 3000000 = some (333333, 0) by decide +kernel, Option.bind_some]
  dsimp only
  obtain ⟨t1, h1, b1, _⟩ := text_f k (-1500000) (by decide) (by decide) hk
  obtain ⟨t2, h2, b2, _⟩ := text_f k 333333 (by decide) (by decide) hk
  have d1 : textL (-1500000) = [45, 49, 46, 53] := by
    unfold textL
    rw [show ((-1500000 : Int).natAbs / 1000000) = 1 from by decide, show ((-1500000 : Int).natAbs % 1000000) = 500000 from by decide, dec_lt (by decide)]
    decide +kernel
  have d2 : textL 333333 = [48, 46, 51, 51, 51, 51, 51, 51] := by
    unfold textL
    rw [show ((333333 : Int).natAbs / 1000000) = 0 from by decide, show ((333333 : Int).natAbs % 1000000) = 333333 from by decide, dec_lt (by decide)]
    decide +kernel
  rw [if_pos rfl, if_pos rfl, if_pos rfl, h1, Option.bind_some, if_pos (toList_of (by rw [b1, d1]; rfl)), h2, Option.bind_some, if_pos (toList_of (by rw [b2, d2]; rfl))]
  rfl
/-! ### a number's text is read back -/
theorem back_loop (n : Int) (x1 : Int) (a2 : ByteArray) (h0 : -9223372036854775808 ≤ n) (h1 : n ≤ 9223372036854775807) (g : Nat) (hg : Int.tmod x1 5 = (g : Int)) (hg5 : g < 5)
    (ha : a2.size ≤ 100) (hM : (bytesOf a2).head? ≠ some 46) (hM2 : ∀ c, (bytesOf a2).head? = some c → isD c = false) :
    ∀ (d i k : Nat) (t : ByteArray), i + d = g → d < k → bytesOf t = List.replicate i 32 ++ textL n → t.size ≤ 30 + i → dragomanlaw02_DecBack.l0 k n x1 a2 true t (i : Int) = some true
  | 0, i, k, t, hi, hk, ht, hts => by
    obtain ⟨k, rfl⟩ : ∃ m, k = m + 1 := ⟨k - 1, by omega⟩
    have hr := read_back (t ++ a2) n (List.replicate i 32) (bytesOf a2) h0 h1 (by rw [ByteArray.size_append]; omega) (by intro c hc; rw [(List.mem_replicate.1 hc).2]; rfl) hM hM2 (by rw [bytesOf_append, ht, List.append_assoc])
    rw [dragomanlaw02_DecBack.l0, hg, if_neg (by rw [wrap_id (by omega) (by omega)]; omega), if_pos (by omega), hr, Option.bind_some]
    dsimp only
    rw [if_pos rfl, if_pos rfl, if_pos (by rw [size_of_bytes ht]; simp)]
    rfl
  | d + 1, i, k, t, hi, hk, ht, hts => by
    obtain ⟨k, rfl⟩ : ∃ m, k = m + 1 := ⟨k - 1, by omega⟩
    rw [dragomanlaw02_DecBack.l0, hg, if_pos (by rw [wrap_id (by omega) (by omega)]; omega), if_pos (by omega), wrap_id (by omega) (by omega), show ((i : Int) + 1) = ((i + 1 : Nat) : Int) from rfl]
    refine back_loop n x1 a2 h0 h1 g hg hg5 ha hM hM2 d (i + 1) k _ (by omega) (by omega) ?_ ?_
    · rw [bytesOf_append, ht, List.replicate_succ]; rfl
    · rw [ByteArray.size_append, show (⟨#[32]⟩ : ByteArray).size = 1 from rfl]; omega
theorem head_bt (s : ByteArray) (h : 0 < s.size) : (bytesOf s).head? = some (bt s 0) := by
  have := drop_cons s 0 h
  rw [List.drop_zero] at this
  rw [this]; rfl
theorem DecBack : dragomanlaw02_DecBack.Pure := by
  intro n x1 a2 w0 w1 w2
  have hn := i64_range w0
  have hx := u8_range w1
  refine ⟨40, ?_⟩
  unfold dragomanlaw02_DecBack.f
  rw [shown_f 40 (by decide), Option.bind_some]
  have jt : dragomanlaw02_DecBack.j0 40 n x1 a2 true true = some true := by rw [dragomanlaw02_DecBack.j0, if_pos rfl]
  have jf : a2.size ≤ 100 → (bytesOf a2).head? ≠ some 46 → (∀ c, (bytesOf a2).head? = some c → isD c = false) → dragomanlaw02_DecBack.j0 40 n x1 a2 true false = some true := by
    intro ha hM hM2
    obtain ⟨t, ht, hb, hts⟩ := text_f 39 n hn.1 hn.2 (by decide)
    rw [dragomanlaw02_DecBack.j0, if_neg (by decide), ht, Option.bind_some]
    have hg : Int.tmod x1 5 = (((x1.toNat % 5 : Nat)) : Int) := by
      rw [Int.tmod_eq_emod_of_nonneg hx.1]; omega
    exact back_loop n x1 a2 hn.1 hn.2 (x1.toNat % 5) hg (Nat.mod_lt _ (by decide)) ha hM hM2 (x1.toNat % 5) 0 39 t (by omega) (by omega) (by rw [hb]; rfl) (by omega)
  by_cases h1 : (a2.size : Int) > 100
  · rw [if_pos h1]; exact jt
  · rw [if_neg h1]
    by_cases h2 : (a2.size : Int) > 0
    · have hh := head_bt a2 (by omega)
      rw [if_pos h2, if_pos (by omega)]
      have fin : isD (bt a2 0) = false → dragomanlaw02_DecBack.j0 40 n x1 a2 true (bt a2 0 == 46) = some true := by
        intro hD
        by_cases h46 : bt a2 0 = 46
        · rw [beq_iff_eq.2 h46]; exact jt
        · rw [beq_eq_false_iff_ne.2 h46]
          refine jf (by omega) (by rw [hh]; intro z; exact h46 (Option.some.inj z)) (fun c hc => ?_)
          rw [hh] at hc
          obtain rfl := Option.some.inj hc
          exact hD
      by_cases h3 : bt a2 0 ≥ 48
      · rw [if_pos h3]
        by_cases h4 : bt a2 0 ≤ 57
        · rw [if_pos h4]; exact jt
        · rw [if_neg h4]; exact fin (by rw [Bool.eq_false_iff, ne_eq, isD_iff]; omega)
      · rw [if_neg h3]; exact fin (by rw [Bool.eq_false_iff, ne_eq, isD_iff]; omega)
    · have he : bytesOf a2 = [] := List.eq_nil_of_length_eq_zero (by rw [bytesOf_length]; omega)
      rw [if_neg h2]
      exact jf (by omega) (by rw [he]; simp) (by rw [he]; simp)
end Go.Proofs.YtgodmbcebpbdiaaDoor.PD
end

/- The plain laws of layer 2: sums, products, quotients, rests. No Go and no memory stands here. -/
section
set_option linter.unusedVariables false
set_option linter.unusedSimpArgs false
namespace Go.Proofs.YtgodmbcebpbdiaaDoor.PD
open Go.RowKit Go.Proofs.YtgodmbcebpbdiaaDoorW.PrintWords Go.Proofs.YtgodmbcebpbdiaaDoorW.PrintLast Go.Proofs.YtgodmbcebpbdiaaDoor.G Go.Proofs.YtgodmbcebpbdiaaDoor.Q1 Go.Proofs.YtgodmbcebpbdiaaDoor.QA

def I64 (n : Int) : Prop := -9223372036854775808 ≤ n ∧ n ≤ 9223372036854775807
theorem add_comm (a b : Int) : addV a b = addV b a := by
  unfold addV
  rw [Int.add_comm a b]
  by_cases h : decide (a < 0) = decide (b < 0)
  · rw [h]
  · have h1 : (decide (a < 0) == decide (b < 0)) = false := beq_eq_false_iff_ne.2 h
    have h2 : (decide (b < 0) == decide (a < 0)) = false := beq_eq_false_iff_ne.2 (Ne.symm h)
    rw [h1, h2, Bool.false_and, Bool.false_and]
theorem mul_comm (a b : Int) : mulV a b = mulV b a := by
  unfold mulV scaledV
  rw [Nat.mul_comm a.natAbs b.natAbs, show (decide (a < 0) != decide (b < 0)) = (decide (b < 0) != decide (a < 0)) from by cases decide (a < 0) <;> cases decide (b < 0) <;> rfl]
theorem million_lt (m : Nat) (h : m < 18446744073709551616) : m * 1000000 / 18446744073709551616 < 1000000 := by
  rw [Nat.div_lt_iff_lt_mul (by decide)]
  omega
theorem scaled_million (a : Int) (h : I64 a) : scaledV a 1000000 1000000 = some a := by
  obtain ⟨h0, h1⟩ := h
  unfold scaledV
  have hm := million_lt a.natAbs (by omega)
  rw [if_neg (show ¬ (1000000 : Int).natAbs ≤ a.natAbs * (1000000 : Int).natAbs / 18446744073709551616 from Nat.not_le.2 hm), show a.natAbs * (1000000 : Int).natAbs / (1000000 : Int).natAbs = a.natAbs from Nat.mul_div_cancel _ (by decide)]
  rw [show ((decide (a < 0) != decide ((1000000 : Int) < 0)) != decide ((1000000 : Int) < 0)) = decide (a < 0) by rw [show decide ((1000000 : Int) < 0) = false from by decide]; simp]
  exact join_text a h0 h1
theorem add_f (a b : Int) : dec_Add.f a b = some (addV a b) := rfl
theorem sub_f (a b : Int) : dec_Sub.f a b = some (subV a b) := rfl
theorem mul_f {a b : Int} (ha : I64 a) (hb : I64 b) : dec_Mul.f a b = some (mulV a b) := by unfold dec_Mul.f; rw [if_pos (show in64 a ∧ in64 b from ⟨ha, hb⟩)]
theorem div_f {a b : Int} (ha : I64 a) (hb : I64 b) : dec_Div.f a b = some (divV a b) := by unfold dec_Div.f; rw [if_pos (show in64 a ∧ in64 b from ⟨ha, hb⟩)]
theorem whole_f {a : Int} (ha : I64 a) : dec_Whole.f a = some (wholeV a) := by unfold dec_Whole.f; rw [if_pos (show in64 a from ha)]
theorem I64_million : I64 1000000 := ⟨by decide, by decide⟩
theorem mul_one (a : Int) (h : I64 a) : mulV a 1000000 = (a, 0) := by unfold mulV; rw [scaled_million a h]; rfl
theorem div_one (a : Int) (h : I64 a) : divV a 1000000 = (a, 0) := by unfold divV; rw [if_neg (by decide), scaled_million a h]; rfl
/-- A sum that goes well. -/
theorem add_ok {a b : Int} (ha : I64 a) (hb : I64 b) : (I64 (a + b) ∧ addV a b = (a + b, 0)) ∨ (¬ I64 (a + b) ∧ addV a b = (0, 3)) := by
  obtain ⟨a0, a1⟩ := ha
  obtain ⟨b0, b1⟩ := hb
  unfold addV I64
  by_cases hr : -9223372036854775808 ≤ a + b ∧ a + b ≤ 9223372036854775807
  · refine Or.inl ⟨hr, ?_⟩
    rw [wrap_id hr.1 hr.2, if_neg]
    rw [Bool.and_eq_true]
    rintro ⟨h1, h2⟩
    have h1 := beq_iff_eq.1 h1
    have h2 := bne_iff_ne.1 h2
    simp only [decide_eq_decide, ne_eq] at h1 h2
    omega
  · refine Or.inr ⟨hr, ?_⟩
    rw [if_pos]
    rw [Bool.and_eq_true]
    refine ⟨beq_iff_eq.2 ?_, bne_iff_ne.2 ?_⟩
    · simp only [decide_eq_decide]; omega
    · simp only [decide_eq_decide, ne_eq]; unfold wrap64; omega
theorem sub_ok {a b : Int} (ha : I64 a) (hb : I64 b) : (I64 (a - b) ∧ subV a b = (a - b, 0)) ∨ (¬ I64 (a - b) ∧ subV a b = (0, 3)) := by
  obtain ⟨a0, a1⟩ := ha
  obtain ⟨b0, b1⟩ := hb
  unfold subV I64
  by_cases hr : -9223372036854775808 ≤ a - b ∧ a - b ≤ 9223372036854775807
  · refine Or.inl ⟨hr, ?_⟩
    rw [wrap_id hr.1 hr.2, if_neg]
    rw [Bool.and_eq_true]
    rintro ⟨h1, h2⟩
    have h1 := bne_iff_ne.1 h1
    have h2 := bne_iff_ne.1 h2
    simp only [decide_eq_decide, ne_eq] at h1 h2
    omega
  · refine Or.inr ⟨hr, ?_⟩
    rw [if_pos]
    rw [Bool.and_eq_true]
    refine ⟨bne_iff_ne.2 ?_, bne_iff_ne.2 ?_⟩
    · simp only [decide_eq_decide, ne_eq]; omega
    · simp only [decide_eq_decide, ne_eq]; unfold wrap64; omega
theorem DecOrders : dragomanlaw02_DecOrders.Pure := by
  intro a b w0 w1
  have ha : I64 a := i64_range w0
  have hb : I64 b := i64_range w1
  refine ⟨30, ?_⟩
  unfold dragomanlaw02_DecOrders.f
  rw [shown_f 30 (by decide), Option.bind_some, add_f, Option.bind_some, add_f, Option.bind_some, mul_f ha hb, Option.bind_some, mul_f hb ha, Option.bind_some, add_comm b a, mul_comm b a, if_pos rfl, if_pos rfl, if_pos rfl, bne_self_eq_false, dragomanlaw02_DecOrders.j0, if_neg (by decide), mul_f ha I64_million, Option.bind_some, div_f ha I64_million, Option.bind_some, mul_one a ha, div_one a ha]
  dsimp only
  rcases add_ok ha hb with ⟨h1, h2⟩ | ⟨h1, h2⟩
  · rw [h2]
    dsimp only
    rw [if_pos rfl, sub_f, Option.bind_some]
    rcases sub_ok h1 hb with ⟨h3, h4⟩ | ⟨h3, h4⟩
    · rw [h4]
      dsimp only
      rw [if_pos rfl, if_pos (by omega), if_pos rfl, if_pos rfl, if_pos rfl, if_pos rfl]; rfl
    · exact absurd (show I64 (a + b - b) by rw [Int.add_sub_cancel]; exact ha) h3
  · rw [h2]
    dsimp only
    rw [if_neg (by decide), if_pos rfl, if_pos rfl, if_pos rfl, if_pos rfl]; rfl
/-! ### signs -/
theorem neg_wrap {a : Int} (h0 : -9223372036854775808 < a) (h1 : a ≤ 9223372036854775807) : wrap64 (-a) = -a := wrap_id (by omega) (by omega)
theorem text_neg (a : Int) (h : 0 < a) : textL (-a) = 45 :: textL a := by
  unfold textL
  rw [if_pos (by omega), if_neg (by omega), Int.natAbs_neg]; rfl
theorem toList_eq_of {s t : ByteArray} (h : bytesOf s = bytesOf t) : s.toList = t.toList := by rw [ext_bytes h]
theorem orOver_cases (v : Option Int) : (∃ x, v = some x ∧ orOver v = (x, 0)) ∨ (v = none ∧ orOver v = (0, 3)) := by
  cases v with
  | none => exact Or.inr ⟨rfl, rfl⟩
  | some x => exact Or.inl ⟨x, rfl, rfl⟩
theorem joinV_some {q : Nat} {b : Bool} {v : Int} (h : joinV q b = some v) : v = if b = true then -(q : Int) else (q : Int) := by
  unfold joinV at h
  cases b with
  | true =>
    by_cases h1 : q ≤ 9223372036854775808
    · rw [if_pos rfl, if_pos h1] at h; rw [if_pos rfl]; exact (Option.some.inj h).symm
    · rw [if_pos rfl, if_neg h1] at h; cases h
  | false =>
    by_cases h1 : q ≤ 9223372036854775807
    · rw [if_neg (by decide), if_pos h1] at h; rw [if_neg (by decide)]; exact (Option.some.inj h).symm
    · rw [if_neg (by decide), if_neg h1] at h; cases h
theorem scaled_val {a b c v : Int} (h : scaledV a b c = some v) : v = if ((decide (a < 0) != decide (b < 0)) != decide (c < 0)) = true then -((a.natAbs * b.natAbs / c.natAbs : Nat) : Int) else ((a.natAbs * b.natAbs / c.natAbs : Nat) : Int) := by
  unfold scaledV at h
  by_cases hz : c.natAbs ≤ a.natAbs * b.natAbs / 18446744073709551616
  · rw [if_pos hz] at h; cases h
  · rw [if_neg hz] at h
    exact joinV_some h
theorem mul_neg {a b x y : Int} (h0 : a ≠ 0) (h : scaledV a b 1000000 = some x) (h' : scaledV (-a) b 1000000 = some y) : y = -x := by
  have e1 := scaled_val h
  have e2 := scaled_val h'
  rw [Int.natAbs_neg] at e2
  generalize ((a.natAbs * b.natAbs / (1000000 : Int).natAbs : Nat) : Int) = q at e1 e2
  have hd : decide (-a < 0) = !decide (a < 0) := by
    by_cases h : a < 0
    · rw [decide_eq_true h, decide_eq_false (by omega)]; rfl
    · rw [decide_eq_false h, decide_eq_true (by omega)]; rfl
  rw [hd] at e2
  cases decide (a < 0) <;> cases decide (b < 0) <;> cases decide ((1000000 : Int) < 0) <;> simp at e1 e2 <;> omega
theorem div_neg {a b x y : Int} (h0 : a ≠ 0) (hb : b ≠ 0) (h : scaledV a 1000000 b = some x) (h' : scaledV (-a) 1000000 (-b) = some y) : y = x := by
  have e1 := scaled_val h
  have e2 := scaled_val h'
  rw [Int.natAbs_neg, Int.natAbs_neg] at e2
  generalize ((a.natAbs * (1000000 : Int).natAbs / b.natAbs : Nat) : Int) = q at e1 e2
  have hd : ∀ a : Int, a ≠ 0 → decide (-a < 0) = !decide (a < 0) := by
    intro a h0
    by_cases h : a < 0
    · rw [decide_eq_true h, decide_eq_false (by omega)]; rfl
    · rw [decide_eq_false h, decide_eq_true (by omega)]; rfl
  rw [hd a h0, hd b hb] at e2
  cases decide (a < 0) <;> cases decide (b < 0) <;> cases decide ((1000000 : Int) < 0) <;> simp at e1 e2 <;> omega
theorem scaled_zero (b c : Int) {x : Int} (h : scaledV 0 b c = some x) : x = 0 := by
  have := scaled_val h
  rw [Int.natAbs_zero, Nat.zero_mul, Nat.zero_div] at this
  rw [this]; split <;> rfl
theorem signs_last (a b : Int) (ha : I64 a) (hb : I64 b) (ha' : a ≠ -9223372036854775808) (hb' : b ≠ -9223372036854775808) (k : Nat) : dragomanlaw02_DecSigns.j1 (k + 1) a b true true = some true := by
  have na : I64 (-a) := ⟨by have := ha.2; omega, by have := ha.1; omega⟩
  have nb : I64 (-b) := ⟨by have := hb.2; omega, by have := hb.1; omega⟩
  rw [dragomanlaw02_DecSigns.j1, wrap_id na.1 na.2, wrap_id nb.1 nb.2, mul_f ha hb, Option.bind_some, mul_f na hb, Option.bind_some, div_f ha hb, Option.bind_some, div_f na nb, Option.bind_some, if_pos rfl, if_pos rfl]
  have hlast : ((divV a b).2 = 4 ↔ b = 0) := by
    unfold divV
    by_cases h : b = 0
    · rw [if_pos h]; exact ⟨fun _ => h, fun _ => rfl⟩
    · rw [if_neg h]
      refine ⟨fun z => ?_, fun z => absurd z h⟩
      rcases orOver_cases (scaledV a 1000000 b) with ⟨x, _, e⟩ | ⟨_, e⟩ <;> rw [e] at z <;> cases z
  have hl : (((divV a b).2 == 4) == (b == 0)) = true := by
    rw [beq_iff_eq]
    by_cases h : b = 0
    · rw [beq_iff_eq.2 h, beq_iff_eq.2 (hlast.2 h)]
    · rw [beq_eq_false_iff_ne.2 h, beq_eq_false_iff_ne.2 (fun z => h (hlast.1 z))]
  have hd : (divV a b).2 = 0 → (divV (-a) (-b)).2 = 0 → (divV a b).1 = (divV (-a) (-b)).1 := by
    unfold divV
    intro h1 h2
    by_cases h : b = 0
    · rw [if_pos h] at h1; cases h1
    · rw [if_neg h] at h1
      rw [if_neg (by omega)] at h2
      rw [if_neg h, if_neg (by omega)]
      rcases orOver_cases (scaledV a 1000000 b) with ⟨x, e1, e2⟩ | ⟨_, e2⟩
      · rcases orOver_cases (scaledV (-a) 1000000 (-b)) with ⟨y, f1, f2⟩ | ⟨_, f2⟩
        · rw [e2, f2]
          show x = y
          by_cases h0 : a = 0
          · subst h0
            rw [Int.neg_zero] at f1
            rw [scaled_zero _ _ e1, scaled_zero _ _ f1]
          · exact (div_neg h0 h e1 f1).symm
        · rw [f2] at h2; cases h2
      · rw [e2] at h1; cases h1
  have hm : (mulV a b).2 = 0 → (mulV (-a) b).2 = 0 → (mulV (-a) b).1 = wrap64 (-(mulV a b).1) := by
    unfold mulV
    intro h1 h2
    rcases orOver_cases (scaledV a b 1000000) with ⟨x, e1, e2⟩ | ⟨_, e2⟩
    · rcases orOver_cases (scaledV (-a) b 1000000) with ⟨y, f1, f2⟩ | ⟨_, f2⟩
      · rw [e2, f2]
        show y = wrap64 (-x)
        by_cases h0 : a = 0
        · subst h0
          rw [Int.neg_zero] at f1
          rw [scaled_zero _ _ e1, scaled_zero _ _ f1]; decide +kernel
        · have hyx := mul_neg h0 e1 f1
          have hx : ∀ a x, scaledV a b 1000000 = some x → I64 x := by
            intro a x h
            unfold scaledV at h
            by_cases hz : (1000000 : Int).natAbs ≤ a.natAbs * b.natAbs / 18446744073709551616
            · rw [if_pos hz] at h; cases h
            · rw [if_neg hz] at h
              have hv := joinV_some h
              unfold joinV at h
              generalize a.natAbs * b.natAbs / (1000000 : Int).natAbs = q at h hv
              generalize (((decide (a < 0) != decide (b < 0)) != decide ((1000000 : Int) < 0))) = s at h hv
              unfold I64
              cases s with
              | true =>
                rw [if_pos rfl] at hv h
                by_cases hq : q ≤ 9223372036854775808
                · omega
                · rw [if_neg hq] at h; cases h
              | false =>
                rw [if_neg (by decide)] at hv h
                by_cases hq : q ≤ 9223372036854775807
                · omega
                · rw [if_neg hq] at h; cases h
          have i2 := hx _ _ f1
          rw [hyx] at i2 ⊢
          rw [wrap_id i2.1 i2.2]
      · rw [f2] at h2; cases h2
    · rw [e2] at h1; cases h1
  have tail : (if (divV a b).2 = 0 then (if (divV (-a) (-b)).2 = 0 then (if (divV a b).1 = (divV (-a) (-b)).1 then (some (((divV a b).2 == 4) == (b == 0))) else (some false)) else (some (((divV a b).2 == 4) == (b == 0)))) else (some (((divV a b).2 == 4) == (b == 0)))) = some true := by
    rw [hl]
    by_cases h1 : (divV a b).2 = 0
    · by_cases h2 : (divV (-a) (-b)).2 = 0
      · rw [if_pos h1, if_pos h2, if_pos (hd h1 h2)]
      · rw [if_pos h1, if_neg h2]
    · rw [if_neg h1]
  by_cases h1 : (mulV a b).2 = 0
  · by_cases h2 : (mulV (-a) b).2 = 0
    · rw [if_pos h1, if_pos h2, if_pos (hm h1 h2)]; exact tail
    · rw [if_pos h1, if_neg h2]; exact tail
  · rw [if_neg h1]; exact tail
theorem DecSigns : dragomanlaw02_DecSigns.Pure := by
  intro a b w0 w1
  have ha : I64 a := i64_range w0
  have hb : I64 b := i64_range w1
  refine ⟨30, ?_⟩
  unfold dragomanlaw02_DecSigns.f
  rw [shown_f 30 (by decide), Option.bind_some]
  have jt : dragomanlaw02_DecSigns.j0 30 a b true true = some true := by rw [dragomanlaw02_DecSigns.j0, if_pos rfl]
  by_cases ha' : a = -9223372036854775808
  · rw [if_pos ha']; exact jt
  rw [if_neg ha']
  by_cases hb' : b = -9223372036854775808
  · rw [beq_iff_eq.2 hb']; exact jt
  rw [beq_eq_false_iff_ne.2 hb']
  have na : I64 (-a) := ⟨by have := ha.2; omega, by have := ha.1; omega⟩
  have L := signs_last a b ha hb ha' hb' 28
  obtain ⟨t, ht, bt_, hts⟩ := text_f 29 a ha.1 ha.2 (by decide)
  obtain ⟨u, hu, bu, hus⟩ := text_f 29 (-a) na.1 na.2 (by decide)
  rw [dragomanlaw02_DecSigns.j0, if_neg (by decide), wrap_id na.1 na.2, ht, Option.bind_some, hu, Option.bind_some]
  by_cases h1 : a > 0
  · rw [if_pos h1, if_pos (by omega), if_pos (toList_eq_of (by rw [bytesOf_append, bu, bt_, text_neg a h1]; rfl))]
    exact L
  · rw [if_neg h1]
    by_cases h2 : a < 0
    · rw [if_pos h2, if_pos (by omega), if_pos (toList_eq_of (by
        have := text_neg (-a) (by omega)
        rw [Int.neg_neg] at this
        rw [bytesOf_append, bu, bt_, this]; rfl))]
      exact L
    · rw [if_neg h2, if_pos (by omega)]
      have h0 : a = 0 := by omega
      have : t.toList == u.toList := by
        rw [beq_iff_eq]
        exact toList_eq_of (by rw [bt_, bu, h0]; rfl)
      rw [this]; exact L
end Go.Proofs.YtgodmbcebpbdiaaDoor.PD
end

/- The plain laws of layer 2: what is left, whole numbers, numerals with noughts. No Go and no memory stands here. -/
section
set_option linter.unusedVariables false
set_option linter.unusedSimpArgs false
namespace Go.Proofs.YtgodmbcebpbdiaaDoor.PD
open Go.RowKit Go.Proofs.YtgodmbcebpbdiaaDoorW.PrintWords Go.Proofs.YtgodmbcebpbdiaaDoorW.PrintLast Go.Proofs.YtgodmbcebpbdiaaDoor.G Go.Proofs.YtgodmbcebpbdiaaDoor.Q1 Go.Proofs.YtgodmbcebpbdiaaDoor.QA

/-! ### what is left -/
theorem tmod_facts (a b : Int) (hb : b ≠ 0) : (b > 0 → -b < Int.tmod a b ∧ Int.tmod a b < b) ∧ (b < 0 → b < Int.tmod a b ∧ Int.tmod a b < -b) ∧ (0 ≤ a → 0 ≤ Int.tmod a b ∧ Int.tmod a b ≤ a) ∧ (a ≤ 0 → Int.tmod a b ≤ 0 ∧ a ≤ Int.tmod a b) ∧ Int.tmod (a - Int.tmod a b) b = 0 := by
  have h1 := Int.natAbs_tmod a b
  have h2 : a.natAbs % b.natAbs < b.natAbs := Nat.mod_lt _ (by omega)
  have h3 : a.natAbs % b.natAbs ≤ a.natAbs := Nat.mod_le _ _
  have h4 : 0 ≤ a → 0 ≤ Int.tmod a b := Int.tmod_nonneg b
  have h5 : a ≤ 0 → Int.tmod a b ≤ 0 := by
    intro h
    have := Int.tmod_nonneg (a := -a) b (by omega)
    rw [Int.neg_tmod] at this; omega
  have h6 : Int.tmod (a - Int.tmod a b) b = 0 := by
    have h := Int.mul_tdiv_add_tmod a b
    rw [show a - Int.tmod a b = b * Int.tdiv a b by omega, Int.mul_tmod_right]
  generalize Int.tmod a b = r at *
  generalize a.natAbs % b.natAbs = m at *
  refine ⟨fun h => by omega, fun h => by omega, fun h => by have := h4 h; omega, fun h => by have := h5 h; omega, h6⟩
theorem DecRests : dragomanlaw02_DecRests.Pure := by
  intro a b w0 w1
  have ha : I64 a := i64_range w0
  have hb : I64 b := i64_range w1
  refine ⟨30, ?_⟩
  unfold dragomanlaw02_DecRests.f dec_Mod.f
  rw [shown_f 30 (by decide), Option.bind_some, div_f ha hb]
  by_cases h0 : b = 0
  · rw [if_pos h0, Option.bind_some, Option.bind_some, if_pos h0]
    subst h0
    rfl
  · rw [if_neg h0, Option.bind_some, Option.bind_some, if_neg h0]
    obtain ⟨f1, f2, f3, f4, f5⟩ := tmod_facts a b h0
    dsimp only
    generalize Int.tmod a b = r at *
    have hw : wrap64 (a - r) = a - r := by
      obtain ⟨a0, a1⟩ := ha
      rcases Int.le_total 0 a with h | h
      · have := f3 h; exact wrap_id (by omega) (by omega)
      · have := f4 h; exact wrap_id (by omega) (by omega)
    rw [hw, f5]
    have fin : (if true = true then (some ((0 : Int) == 0)) else (some false)) = some true := rfl
    have hmin : ¬ b < 0 ∨ r < wrap64 (-b) ∨ b = wrap64 (-b) := by
      by_cases hn : b < 0
      · by_cases hm : b = -9223372036854775808
        · exact Or.inr (Or.inr (by rw [hm]; decide +kernel))
        · right; left
          rw [wrap_id (by have := hb.1; omega) (by have := hb.1; omega)]
          exact (f2 hn).2
      · exact Or.inl hn
    have hpos : 0 < b → wrap64 (-b) = -b := fun h => wrap_id (by have := hb.2; omega) (by have := hb.2; omega)
    have small : (if b < 0 then (if r > b then (if r < wrap64 (-b) then (if true = true then (some ((0 : Int) == 0)) else (some false)) else (if b = wrap64 (-b) then (if true = true then (some ((0 : Int) == 0)) else (some false)) else (if b > 0 then (if r < b then (if true = true then (if r > wrap64 (-b) then (some ((0 : Int) == 0)) else (some false)) else (some false)) else (if true = true then (some false) else (some false))) else (if true = true then (some false) else (some false))))) else (if b = wrap64 (-b) then (if true = true then (some ((0 : Int) == 0)) else (some false)) else (if b > 0 then (if r < b then (if true = true then (if r > wrap64 (-b) then (some ((0 : Int) == 0)) else (some false)) else (some false)) else (if true = true then (some false) else (some false))) else (if true = true then (some false) else (some false))))) else (if b > 0 then (if r < b then (if true = true then (if r > wrap64 (-b) then (some ((0 : Int) == 0)) else (some false)) else (some false)) else (if true = true then (some false) else (some false))) else (if true = true then (some false) else (some false)))) = some true := by
      by_cases hn : b < 0
      · rw [if_pos hn, if_pos (f2 hn).1]
        rcases hmin with h | h | h
        · exact absurd hn h
        · rw [if_pos h]; exact fin
        · by_cases hlt : r < wrap64 (-b)
          · rw [if_pos hlt]; exact fin
          · rw [if_neg hlt, if_pos h]; exact fin
      · have hp : b > 0 := by omega
        rw [if_neg hn, if_pos hp, if_pos (f1 hp).2, if_pos rfl, if_pos (by rw [hpos hp]; exact (f1 hp).1)]; rfl
    by_cases hr : r = 0
    · rw [if_pos rfl, if_pos hr]; exact small
    · rw [if_pos rfl, if_neg hr, if_neg (by
        rw [bne_iff_ne, ne_eq, decide_eq_decide, Decidable.not_not]
        rcases Int.le_total 0 a with h | h
        · have := f3 h; omega
        · have := f4 h; omega)]
      exact small
/-! ### whole numbers -/
theorem whole_ok {n : Int} (h : I64 n) : (I64 (n * 1000000) ∧ wholeV n = (n * 1000000, 0)) ∨ (¬ I64 (n * 1000000) ∧ wholeV n = (0, 3)) := by
  obtain ⟨h0, h1⟩ := h
  unfold wholeV scaledV
  have e1 : n.natAbs * (1000000 : Int).natAbs / (1 : Int).natAbs = n.natAbs * 1000000 := Nat.div_one _
  have e2 : ((decide (n < 0) != decide ((1000000 : Int) < 0)) != decide ((1 : Int) < 0)) = decide (n < 0) := by
    rw [show decide ((1000000 : Int) < 0) = false from by decide, show decide ((1 : Int) < 0) = false from by decide]; simp
  have e3 : ((1 : Int).natAbs ≤ n.natAbs * (1000000 : Int).natAbs / 18446744073709551616) ↔ 1 ≤ n.natAbs * 1000000 / 18446744073709551616 := Iff.rfl
  rw [e1, e2]
  have hm : n * 1000000 = if n < 0 then -((n.natAbs * 1000000 : Nat) : Int) else ((n.natAbs * 1000000 : Nat) : Int) := by split <;> omega
  by_cases hr : I64 (n * 1000000)
  · refine Or.inl ⟨hr, ?_⟩
    have hlt : n.natAbs * 1000000 < 18446744073709551616 := by unfold I64 at hr; omega
    rw [if_neg (by rw [e3, Nat.div_eq_of_lt hlt]; decide)]
    have hj := join_text (n * 1000000) hr.1 hr.2
    rw [show (n * 1000000).natAbs = n.natAbs * 1000000 by omega, show decide (n * 1000000 < 0) = decide (n < 0) by rw [decide_eq_decide]; omega] at hj
    rw [hj]; rfl
  · refine Or.inr ⟨hr, ?_⟩
    have : (if (1 : Int).natAbs ≤ n.natAbs * (1000000 : Int).natAbs / 18446744073709551616 then none else joinV (n.natAbs * 1000000) (decide (n < 0))) = none := by
      split
      · rfl
      · unfold joinV
        by_cases hn : n < 0
        · rw [if_pos (decide_eq_true hn), if_neg]
          intro h; apply hr; unfold I64; omega
        · rw [if_neg (by simp [hn]), if_neg]
          intro h; apply hr; unfold I64; omega
    rw [this]; rfl
theorem no46_dec (u : Nat) : ∀ c ∈ dec u, c ≠ 46 := fun c hc h => by
  have := (isD_iff c).1 ((dec_facts u).1 c hc); omega
theorem wholes_loop (n m : Int) (s : ByteArray) (hs : s.size ≤ 1000) (hno : ∀ c ∈ bytesOf s, c ≠ 46) (hm : dec_Trunc.f m = some n) : ∀ (d i k : Nat), i + d = s.size → d < k → dragomanlaw02_DecWholes.l0 k n true m s (i : Int) = some true
  | 0, i, k, h, hk => by
    obtain ⟨k, rfl⟩ : ∃ m, k = m + 1 := ⟨k - 1, by omega⟩
    rw [dragomanlaw02_DecWholes.l0, if_neg (by omega), if_pos rfl, hm, Option.bind_some, beq_self_eq_true]
  | d + 1, i, k, h, hk => by
    obtain ⟨k, rfl⟩ : ∃ m, k = m + 1 := ⟨k - 1, by omega⟩
    have hi : i < s.size := by omega
    rw [dragomanlaw02_DecWholes.l0, if_pos (by omega), if_pos (by omega), if_neg (by rw [bt_get s i hi]; exact hno _ (List.getElem_mem _)), wrap_id (by omega) (by omega), show ((i : Int) + 1) = ((i + 1 : Nat) : Int) from rfl]
    exact wholes_loop n m s hs hno hm d (i + 1) k (by omega) (by omega)
theorem tdiv_facts (a : Int) : Int.tdiv a 1000000 * 1000000 + Int.tmod a 1000000 = a ∧ (0 ≤ a → 0 ≤ Int.tmod a 1000000 ∧ Int.tmod a 1000000 < 1000000) ∧ (a ≤ 0 → Int.tmod a 1000000 ≤ 0 ∧ -1000000 < Int.tmod a 1000000) := by
  have h := Int.mul_tdiv_add_tmod a 1000000
  obtain ⟨f1, f2, f3, f4, f5⟩ := tmod_facts a 1000000 (by decide)
  have f1 := f1 (by decide)
  generalize Int.tmod a 1000000 = r at *
  generalize Int.tdiv a 1000000 = q at *
  exact ⟨by omega, fun h => ⟨(f3 h).1, f1.2⟩, fun h => ⟨(f4 h).1, f1.1⟩⟩
theorem trunc_f (a : Int) (h : I64 a) : dec_Trunc.f a = some (Int.tdiv a 1000000) := by
  unfold dec_Trunc.f
  obtain ⟨h0, h1⟩ := h
  obtain ⟨f1, f2, f3⟩ := tdiv_facts a
  rw [wrap_id]
  · rcases Int.le_total 0 a with h | h
    · have := f2 h; omega
    · have := f3 h; omega
  · rcases Int.le_total 0 a with h | h
    · have := f2 h; omega
    · have := f3 h; omega
theorem wholes_last (n : Int) (hn : I64 n) (k : Nat) (hk : 60 < k) : dragomanlaw02_DecWholes.j0 k n true (wholeV n).1 (wholeV n).2 false = some true := by
  obtain ⟨k, rfl⟩ : ∃ m, k = m + 1 := ⟨k - 1, by omega⟩
  rw [dragomanlaw02_DecWholes.j0, if_neg (by decide)]
  rcases whole_ok hn with ⟨h1, h2⟩ | ⟨h1, h2⟩
  · rw [h2]
    dsimp only
    obtain ⟨t, ht, bt_, hts⟩ := text_f k (n * 1000000) h1.1 h1.2 (by omega)
    rw [if_pos rfl, ht, Option.bind_some]
    refine wholes_loop n _ t (by omega) ?_ ?_ t.size 0 k (by omega) (by omega)
    · rw [bt_]
      unfold textL
      rw [show (n * 1000000).natAbs % 1000000 = 0 by omega]
      intro c hc
      rcases List.mem_append.1 hc with hc | hc
      · by_cases hn : n * 1000000 < 0
        · rw [if_pos hn] at hc
          rw [List.mem_singleton.1 hc]; decide
        · rw [if_neg hn] at hc; cases hc
      · rw [show fracL 0 = [] from rfl, List.append_nil] at hc
        exact no46_dec _ c hc
    · rw [trunc_f _ h1, Int.mul_tdiv_cancel _ (by decide)]
  · rw [h2]
    dsimp only
    rw [if_neg (by decide), if_pos rfl, if_pos rfl]
    by_cases h : n > 9223372036854
    · rw [if_pos h]
    · rw [if_neg h, decide_eq_true]
      unfold I64 at h1; omega
theorem DecWholes : dragomanlaw02_DecWholes.Pure := by
  intro n a w0 w1
  have hn : I64 n := i64_range w0
  have ha : I64 a := i64_range w1
  obtain ⟨f1, f2, f3⟩ := tdiv_facts a
  have hk : I64 (Int.tdiv a 1000000) := by
    obtain ⟨a0, a1⟩ := ha
    unfold I64
    rcases Int.le_total 0 a with h | h
    · have := f2 h; omega
    · have := f3 h; omega
  refine ⟨80, ?_⟩
  unfold dragomanlaw02_DecWholes.f
  rw [shown_f 80 (by decide), Option.bind_some, whole_f hn, Option.bind_some, trunc_f a ha, Option.bind_some, whole_f hk, Option.bind_some, sub_f, Option.bind_some]
  have L := wholes_last n hn 80 (by decide)
  rcases whole_ok hk with ⟨h1, h2⟩ | ⟨h1, h2⟩
  · rw [h2]
    dsimp only
    have hr : a - Int.tdiv a 1000000 * 1000000 = Int.tmod a 1000000 := by omega
    rcases sub_ok ha h1 with ⟨h3, h4⟩ | ⟨h3, h4⟩
    · rw [h4, hr]
      dsimp only
      generalize Int.tmod a 1000000 = r at *
      have hb : -1000000 < r ∧ r < 1000000 := by
        rcases Int.le_total 0 a with h | h
        · have := f2 h; omega
        · have := f3 h; omega
      rw [if_pos rfl, if_pos rfl, if_neg (by omega), if_neg (by omega)]
      by_cases h0 : r = 0
      · rw [if_pos h0]; exact L
      · rw [if_neg h0, show (decide (r < 0) != decide (a < 0)) = false from by
          rw [bne_eq_false_iff_eq, decide_eq_decide]
          rcases Int.le_total 0 a with h | h
          · have := f2 h; omega
          · have := f3 h; omega]
        exact L
    · exfalso
      apply h3
      rw [hr]
      unfold I64
      rcases Int.le_total 0 a with h | h
      · have := f2 h; omega
      · have := f3 h; omega
  · exfalso
    apply h1
    obtain ⟨a0, a1⟩ := ha
    unfold I64
    rcases Int.le_total 0 a with h | h
    · have := f2 h; omega
    · have := f3 h; omega
end Go.Proofs.YtgodmbcebpbdiaaDoor.PD
end

/- The plain law of layer 2: numerals with needless noughts. No Go and no memory stands here. -/
section
set_option linter.unusedVariables false
set_option linter.unusedSimpArgs false
namespace Go.Proofs.YtgodmbcebpbdiaaDoor.PD
open Go.RowKit Go.Proofs.YtgodmbcebpbdiaaDoorW.PrintWords Go.Proofs.YtgodmbcebpbdiaaDoorW.PrintLast Go.Proofs.YtgodmbcebpbdiaaDoor.G Go.Proofs.YtgodmbcebpbdiaaDoor.Q1 Go.Proofs.YtgodmbcebpbdiaaDoor.QA

/-- Whether a point was met, and how many bytes came behind it. -/
def fin (p : Bool) (b : Nat) : List Int → Bool × Nat
  | [] => (p, b)
  | c :: r => if p = true then fin true (b + 1) r else fin (c == 46) b r
theorem fin_true : ∀ (l : List Int) (b : Nat), fin true b l = (true, b + l.length)
  | [], b => rfl
  | c :: r, b => by rw [fin, if_pos rfl, fin_true r]; simp; omega
theorem fin_no46 : ∀ (l m : List Int) (b : Nat), (∀ c ∈ l, c ≠ 46) → fin false b (l ++ m) = fin false b m
  | [], m, b, _ => rfl
  | c :: r, m, b, h => by
    rw [List.cons_append, fin, if_neg (by decide), beq_eq_false_iff_ne.2 (h c (List.mem_cons_self ..))]
    exact fin_no46 r m b fun x hx => h x (List.mem_cons_of_mem _ hx)
def next (k : Nat) (n x1 : Int) (s : ByteArray) (q : Bool × Nat) : Option Bool :=
  if q.1 = true then dragomanlaw02_DecReads.j1 k n x1 true s (q.2 : Int) s else dragomanlaw02_DecReads.j1 k n x1 true s (q.2 : Int) (s ++ (⟨#[46]⟩ : ByteArray))
theorem reads_loop (n x1 : Int) (s : ByteArray) (hs : s.size ≤ 1000) (K : Nat) (r : Bool) : ∀ (d i b k : Nat) (p : Bool), i + d = s.size → d < k → b ≤ i →
    (∀ k', k ≤ k' + d + 1 → next k' n x1 s (fin p b ((bytesOf s).drop i)) = some true) → dragomanlaw02_DecReads.l0 k n x1 true s p (b : Int) (i : Int) = some true
  | 0, i, b, k, p, h, hk, hb, hE => by
    obtain ⟨k, rfl⟩ : ∃ m, k = m + 1 := ⟨k - 1, by omega⟩
    have hE := hE k (by omega)
    rw [List.drop_eq_nil_of_le (by rw [bytesOf_length]; omega), fin] at hE
    unfold next at hE
    rw [dragomanlaw02_DecReads.l0, if_neg (by omega)]
    cases p with
    | true => rw [if_pos rfl]; exact hE
    | false => rw [if_neg (by decide), if_pos (by omega)]; exact hE
  | d + 1, i, b, k, p, h, hk, hb, hE => by
    obtain ⟨k, rfl⟩ : ∃ m, k = m + 1 := ⟨k - 1, by omega⟩
    have hi : i < s.size := by omega
    rw [drop_cons s i hi, fin] at hE
    rw [dragomanlaw02_DecReads.l0, if_pos (by omega)]
    cases p with
    | true =>
      rw [if_pos rfl, wrap_id (by omega) (by omega), wrap_id (by omega) (by omega), show ((i : Int) + 1) = ((i + 1 : Nat) : Int) from rfl, show ((b : Int) + 1) = ((b + 1 : Nat) : Int) from rfl]
      rw [if_pos rfl] at hE
      exact reads_loop n x1 s hs K r d (i + 1) (b + 1) k true (by omega) (by omega) (by omega) fun k' hk' => hE k' (by omega)
    | false =>
      rw [if_neg (by decide), if_pos (by omega), wrap_id (by omega) (by omega), show ((i : Int) + 1) = ((i + 1 : Nat) : Int) from rfl]
      rw [if_neg (by decide)] at hE
      exact reads_loop n x1 s hs K r d (i + 1) b k _ (by omega) (by omega) (by omega) fun k' hk' => hE k' (by omega)
theorem val_noughts (l : List Int) : val 0 ([48, 48] ++ l) = val 0 l := rfl
/-- What stands at the end: the numeral of seven figures, and the one with noughts ahead. -/
theorem reads_end (n x1 : Int) (s t : ByteArray) (E : List Int) (h0 : -9223372036854775808 ≤ n) (h1 : n ≤ 9223372036854775807) (hx : 0 ≤ x1 ∧ x1 ≤ 255) (hs : bytesOf s = textL n) (hss : s.size ≤ 30)
    (hE : E = six (n.natAbs % 1000000)) (ht : bytesOf t = (if n < 0 then [45] else []) ++ (dec (n.natAbs / 1000000) ++ 46 :: E)) (hts : t.size ≤ 40) (k : Nat) :
    dragomanlaw02_DecReads.l1 (k + 1) n x1 true s 6 t = some true := by
  rw [dragomanlaw02_DecReads.l1, if_neg (by decide), Option.bind_some]
  have hm : 0 ≤ Int.tmod x1 10 ∧ Int.tmod x1 10 < 10 := by rw [Int.tmod_eq_emod_of_nonneg hx.1]; omega
  generalize Int.tmod x1 10 = f at hm ⊢
  have hf : (48 + f) % 256 = 48 + f := by omega
  rw [hf]
  have hb : bytesOf (strOfNums [48 + f]) = [48 + f] := bytesOf_strOfNums _ (by intro c hc; rw [List.mem_singleton.1 hc]; omega)
  have hz : (strOfNums [48 + f]).size = 1 := by rw [size_of_bytes hb]; rfl
  have hp : Parts (bytesOf (t ++ strOfNums [48 + f])) [] (if n < 0 then [45] else []) (dec (n.natAbs / 1000000)) (46 :: (E ++ [48 + f])) [] := by
    refine ⟨by rw [bytesOf_append, ht, hb]; simp, by simp, ?_, (dec_facts _).1, (dec_facts _).2.2, Or.inr ⟨rfl, ?_⟩, by simp⟩
    · by_cases hn : n < 0
      · rw [if_pos hn]; exact Or.inr (Or.inl rfl)
      · rw [if_neg hn]; exact Or.inl rfl
    · intro c hc
      rw [List.drop_succ_cons, List.drop_zero] at hc
      rcases List.mem_append.1 hc with hc | hc
      · rw [hE] at hc; exact six_digits _ c hc
      · rw [List.mem_singleton.1 hc, isD_iff]; omega
  have hsg : decide ((if n < 0 then [45] else []) = ([45] : List Int)) = decide (n < 0) := by
    by_cases hn : n < 0
    · rw [if_pos hn]; simp [hn]
    · rw [if_neg hn]; simp [hn]
  have hv : val 0 (dec (n.natAbs / 1000000) ++ (((46 :: (E ++ [48 + f])) : List Int).drop 1 ++ List.replicate 6 48).take 6) = n.natAbs := by
    rw [List.drop_succ_cons, List.drop_zero, List.append_assoc, show 6 = E.length from by rw [hE]; rfl, List.take_left, hE, val_append, (dec_facts _).2.1, six_val _ _ (Nat.mod_lt _ (by decide))]
    omega
  have hr := hp.read (by rw [ByteArray.size_append]; omega) hv (by rw [hsg]; exact join_text n h0 h1)
  have hlen : ((0 + (if n < 0 then [45] else [] : List Int).length + (dec (n.natAbs / 1000000)).length + (46 :: (E ++ [48 + f])).length : Nat) : Int) = ((t ++ strOfNums [48 + f]).size : Int) := by
    rw [ByteArray.size_append, size_of_bytes ht, hz]
    simp only [List.length_append, List.length_cons, List.length_nil]
    congr 1; omega
  rw [show ([] : List Int).length = 0 from rfl, hlen] at hr
  rw [if_pos (by omega), hr, Option.bind_some]
  dsimp only
  by_cases hn : n < 0
  · rw [if_pos hn, if_pos rfl, if_pos rfl, if_pos rfl]; rfl
  · rw [if_neg hn, if_pos (by omega)]
    have hp2 : Parts (bytesOf ((⟨#[43, 48, 48]⟩ : ByteArray) ++ s)) [] [43] ([48, 48] ++ dec (n.natAbs / 1000000)) (fracL (n.natAbs % 1000000)) [] := by
      refine ⟨?_, by simp, Or.inr (Or.inr rfl), ?_, by simp, frac_ok _ _ (by simp), by simp⟩
      · rw [bytesOf_append, hs]
        unfold textL
        rw [if_neg hn, show bytesOf (⟨#[43, 48, 48]⟩ : ByteArray) = [43, 48, 48] from rfl]
        simp
      · intro c hc
        rcases List.mem_append.1 hc with hc | hc
        · rw [show c = 48 by simpa using hc]; rfl
        · exact (dec_facts _).1 c hc
    have hr2 := hp2.read (V := n.natAbs) (v := n) (by rw [ByteArray.size_append, show (⟨#[43, 48, 48]⟩ : ByteArray).size = 3 from rfl]; omega) (by rw [List.append_assoc, val_noughts]; exact text_val n)
      (by have := join_text n h0 h1; rw [decide_eq_false hn] at this; exact this)
    have hlen2 : ((([] : List Int).length + ([43] : List Int).length + ([48, 48] ++ dec (n.natAbs / 1000000)).length + (fracL (n.natAbs % 1000000)).length : Nat) : Int) = wrap64 ((s.size : Int) + 3) := by
      rw [wrap_id (by omega) (by omega), size_of_bytes hs]
      unfold textL
      rw [if_neg hn]
      simp only [List.length_append, List.length_cons, List.length_nil]
      omega
    rw [hlen2] at hr2
    rw [hr2, Option.bind_some]
    dsimp only
    rw [if_pos rfl, if_pos rfl, if_pos rfl, if_pos rfl, if_pos rfl, if_pos rfl]; rfl
theorem pad_loop (n x1 : Int) (s : ByteArray) (h0 : -9223372036854775808 ≤ n) (h1 : n ≤ 9223372036854775807) (hx : 0 ≤ x1 ∧ x1 ≤ 255) (hs : bytesOf s = textL n) (hss : s.size ≤ 30) :
    ∀ (d b k : Nat) (t : ByteArray) (E : List Int), b + d = 6 → d < k → E ++ List.replicate d 48 = six (n.natAbs % 1000000) → bytesOf t = (if n < 0 then [45] else []) ++ (dec (n.natAbs / 1000000) ++ 46 :: E) → t.size ≤ 34 + b →
      dragomanlaw02_DecReads.l1 k n x1 true s (b : Int) t = some true
  | 0, b, k, t, E, hb, hk, hE, ht, hts => by
    obtain ⟨k, rfl⟩ : ∃ m, k = m + 1 := ⟨k - 1, by omega⟩
    rw [show (b : Int) = 6 by omega]
    exact reads_end n x1 s t E h0 h1 hx hs hss (by rw [← hE]; simp) ht (by omega) k
  | d + 1, b, k, t, E, hb, hk, hE, ht, hts => by
    obtain ⟨k, rfl⟩ : ∃ m, k = m + 1 := ⟨k - 1, by omega⟩
    rw [dragomanlaw02_DecReads.l1, if_pos (by omega), if_pos (by omega), wrap_id (by omega) (by omega), show ((b : Int) + 1) = ((b + 1 : Nat) : Int) from rfl]
    refine pad_loop n x1 s h0 h1 hx hs hss d (b + 1) k _ (E ++ [48]) (by omega) (by omega) (by rw [← hE, List.replicate_succ, List.append_assoc]; rfl) ?_ ?_
    · rw [bytesOf_append, ht, show bytesOf (⟨#[48]⟩ : ByteArray) = [48] from rfl]; simp
    · rw [ByteArray.size_append, show (⟨#[48]⟩ : ByteArray).size = 1 from rfl]; omega
theorem DecReads : dragomanlaw02_DecReads.Pure := by
  intro n x1 w0 w1
  have hn := i64_range w0
  have hx := u8_range w1
  refine ⟨100, ?_⟩
  obtain ⟨t, ht, hb, hts⟩ := text_f 100 n hn.1 hn.2 (by decide)
  unfold dragomanlaw02_DecReads.f
  rw [shown_f 100 (by decide), Option.bind_some, ht, Option.bind_some]
  refine reads_loop n x1 t (by omega) 0 true t.size 0 0 100 false (by omega) (by omega) (by omega) ?_
  intro k' hk'
  rw [List.drop_zero, hb]
  have hno : ∀ c ∈ (if n < 0 then [45] else []) ++ dec (n.natAbs / 1000000), c ≠ (46 : Int) := by
    intro c hc
    rcases List.mem_append.1 hc with hc | hc
    · by_cases hn : n < 0
      · rw [if_pos hn] at hc
        rw [List.mem_singleton.1 hc]; decide
      · rw [if_neg hn] at hc; cases hc
    · exact no46_dec _ c hc
  have hk2 : 60 < k' := by omega
  obtain ⟨k', rfl⟩ : ∃ m, k' = m + 1 := ⟨k' - 1, by omega⟩
  unfold textL at hb ⊢
  rw [← List.append_assoc, fin_no46 _ _ _ hno]
  unfold fracL at hb ⊢
  have hlt : n.natAbs % 1000000 < 1000000 := Nat.mod_lt _ (by decide)
  by_cases hz : n.natAbs % 1000000 = 0
  · rw [if_pos hz] at hb ⊢
    rw [fin]
    unfold next
    rw [if_neg (by decide), dragomanlaw02_DecReads.j1]
    refine pad_loop n x1 t hn.1 hn.2 hx (by rw [hb]; unfold textL fracL; rw [if_pos hz]) hts 6 0 k' _ [] (by omega) (by omega) (by rw [hz]; rfl) ?_ ?_
    · rw [bytesOf_append, hb, show bytesOf (⟨#[46]⟩ : ByteArray) = [46] from rfl]; simp
    · rw [ByteArray.size_append, show (⟨#[46]⟩ : ByteArray).size = 1 from rfl]; omega
  · rw [if_neg hz] at hb ⊢
    rw [fin, if_neg (by decide), show ((46 : Int) == 46) = true from rfl, fin_true]
    unfold next
    rw [if_pos rfl, dragomanlaw02_DecReads.j1]
    have hl : (strip (six (n.natAbs % 1000000))).length ≤ 6 := strip_len (six (n.natAbs % 1000000))
    obtain ⟨m, hm⟩ := strip_pad _ (six (n.natAbs % 1000000)) rfl
    have hlm : (strip (six (n.natAbs % 1000000))).length + m = 6 := by
      have h6 : (six (n.natAbs % 1000000)).length = 6 := rfl
      have := congrArg List.length hm
      rw [List.length_append, List.length_replicate] at this
      omega
    dsimp only
    refine pad_loop n x1 t hn.1 hn.2 hx (by rw [hb]; unfold textL fracL; rw [if_neg hz]) hts m _ k' t (strip (six (n.natAbs % 1000000))) (by omega) (by omega) hm.symm hb (by omega)
end Go.Proofs.YtgodmbcebpbdiaaDoor.PD
end

/- The plain laws of layer 2, under their names. -/
section
namespace Go.Proofs.YtgodmbcebpbdiaaDoor.Pure
theorem DecBack : QA.dragomanlaw02_DecBack.Pure := PD.DecBack
theorem DecOrders : QA.dragomanlaw02_DecOrders.Pure := PD.DecOrders
theorem DecReads : QA.dragomanlaw02_DecReads.Pure := PD.DecReads
theorem DecRests : QA.dragomanlaw02_DecRests.Pure := PD.DecRests
theorem DecSigns : QA.dragomanlaw02_DecSigns.Pure := PD.DecSigns
theorem DecWholes : QA.dragomanlaw02_DecWholes.Pure := PD.DecWholes
end Go.Proofs.YtgodmbcebpbdiaaDoor.Pure
end
