/- Texts of this seat, put together: each part tells above it what it proves and on what conditions. -/
import Derived.Test.YtgodmbcebpbdiaaDoorXPDA
import Derived.Test.YtgodmbcebpbdiaaDoorXQTx1
/- The plain law of layer 2: what a number's text is, and that it is read as the number. No Go and no memory stands here. -/
section
set_option linter.unusedVariables false
set_option linter.unusedSimpArgs false
namespace Go.Proofs.YtgodmbcebpbdiaaDoor.PT
open Go.Proofs.YtgodmbcebpbdiaaDoor.PD
open Go.RowKit Go.Proofs.YtgodmbcebpbdiaaDoorW.PrintWords Go.Proofs.YtgodmbcebpbdiaaDoorW.PrintLast Go.Proofs.YtgodmbcebpbdiaaDoor.G Go.Proofs.YtgodmbcebpbdiaaDoor.Q1

/-! ### a number's figures -/
def dec (u : Nat) : List Int := (Lib.decDigits u).map fun c => (c.toNat : Int)
theorem dec_lt {u : Nat} (h : u < 10) : dec u = [48 + (u : Int)] := by
  unfold dec; rw [Lib.decDigits, dif_pos h]
  simp only [List.map_cons, List.map_nil, UInt8.toNat_ofNat']
  congr 1; omega
theorem dec_ge {u : Nat} (h : ¬ u < 10) : dec u = dec (u / 10) ++ [48 + ((u % 10 : Nat) : Int)] := by
  unfold dec; rw [Lib.decDigits, dif_neg h, List.map_append]
  simp only [List.map_cons, List.map_nil, UInt8.toNat_ofNat']
  congr 2; omega
theorem dec_len : ∀ d u, u < 10 ^ (d + 1) → (dec u).length ≤ d + 1
  | 0, u, h => by rw [dec_lt (by simpa using h)]; simp
  | d + 1, u, h => by
    by_cases q : u < 10
    · rw [dec_lt q]; simp
    · rw [dec_ge q, List.length_append]
      have := dec_len d (u / 10) (by rw [Nat.pow_succ] at h; omega)
      simp; omega
def fig (n : Int) : ByteArray := ⟨(Lib.itoa n).toArray⟩
theorem bytes_fig (u : Nat) : bytesOf (fig (u : Int)) = dec u := by
  unfold fig bytesOf Lib.itoa dec
  rw [if_neg (by omega), Int.toNat_natCast]
theorem p19 : (10 : Nat) ^ 19 = 10000000000000000000 := by decide
theorem dec_len20 (u : Nat) (h : u < 10000000000000000000) : (dec u).length ≤ 19 := dec_len 18 u (by rw [p19]; exact h)
theorem fig_size (u : Nat) : (fig (u : Int)).size = (dec u).length := by rw [← bytesOf_length, bytes_fig]
theorem figures_f (n : Int) (h0 : -9223372036854775808 ≤ n) (h1 : n ≤ 9223372036854775807) : hex_Figures.f n = some (fig n) := by
  unfold hex_Figures.f fig
  rw [if_pos (show in64 n from ⟨h0, h1⟩)]
/-! ### six figures -/
/-- The six figures of a number below a million. -/
def six (r : Nat) : List Int := [48 + ((r / 100000 % 10 : Nat) : Int), 48 + ((r / 10000 % 10 : Nat) : Int), 48 + ((r / 1000 % 10 : Nat) : Int), 48 + ((r / 100 % 10 : Nat) : Int), 48 + ((r / 10 % 10 : Nat) : Int), 48 + ((r % 10 : Nat) : Int)]
theorem dec_million (r : Nat) (h : r < 1000000) : dec (1000000 + r) = 49 :: six r := by
  rw [dec_ge (by omega), dec_ge (by omega), dec_ge (by omega), dec_ge (by omega), dec_ge (by omega), dec_ge (by omega), dec_lt (by omega)]
  unfold six
  simp only [List.cons_append, List.nil_append, List.cons.injEq, and_true, Nat.div_div_eq_div_mul]
  have e1 : (1000000 + r) / 10 % 10 = r / 10 % 10 := by omega
  have e2 : (1000000 + r) / (10 * 10) % 10 = r / 100 % 10 := by omega
  have e3 : (1000000 + r) / (10 * 10 * 10) % 10 = r / 1000 % 10 := by omega
  have e4 : (1000000 + r) / (10 * 10 * 10 * 10) % 10 = r / 10000 % 10 := by omega
  have e5 : (1000000 + r) / (10 * 10 * 10 * 10 * 10) % 10 = r / 100000 % 10 := by omega
  have e6 : (1000000 + r) / (10 * 10 * 10 * 10 * 10 * 10) = 1 := by omega
  have e0 : (1000000 + r) % 10 = r % 10 := by omega
  rw [e0, e1, e2, e3, e4, e5, e6]
  exact ⟨rfl, rfl, rfl, rfl, rfl, rfl, rfl⟩
/-! ### noughts at the end are cut -/
def strip (l : List Int) : List Int := (l.reverse.dropWhile (fun c => c == 48)).reverse
theorem strip_snoc (l : List Int) (c : Int) : strip (l ++ [c]) = if c = 48 then strip l else l ++ [c] := by
  unfold strip
  rw [List.reverse_append, List.reverse_singleton, List.singleton_append, List.dropWhile_cons]
  by_cases h : c = 48
  · subst h; simp
  · simp [h]
theorem strip_pad : ∀ (n : Nat) (l : List Int), l.length = n → ∃ m, l = strip l ++ List.replicate m 48
  | 0, l, h => ⟨0, by rw [List.eq_nil_of_length_eq_zero h]; rfl⟩
  | n + 1, l, h => by
    have hne : l ≠ [] := by intro z; rw [z] at h; simp at h
    have hl := List.dropLast_concat_getLast hne
    obtain ⟨m, hm⟩ := strip_pad n l.dropLast (by simp [h])
    rw [← hl, strip_snoc]
    by_cases hc : l.getLast hne = 48
    · rw [if_pos hc, hc]
      exact ⟨m + 1, by rw [List.replicate_succ', ← List.append_assoc, ← hm]⟩
    · rw [if_neg hc]; exact ⟨0, by simp⟩
theorem strip_len (l : List Int) : (strip l).length ≤ l.length := by
  obtain ⟨m, hm⟩ := strip_pad _ l rfl
  have := congrArg List.length hm
  simp at this; omega
theorem bytes_extract (s : ByteArray) (a b : Nat) : bytesOf (s.extract a b) = ((bytesOf s).take b).drop a := by
  unfold bytesOf
  rw [ByteArray.data_extract, Array.toList_extract, List.extract_eq_take_drop, List.map_take, List.map_drop, List.drop_take]
theorem trim_f : ∀ (n k : Nat) (s : ByteArray), s.size = n → n ≤ 281474976710656 → n < k → ∃ r, QT.strings_trimRightByte.l0 k s 48 = some r ∧ bytesOf r = strip (bytesOf s)
  | 0, k, s, h, hn, hk => by
    obtain ⟨k, rfl⟩ : ∃ m, k = m + 1 := ⟨k - 1, by omega⟩
    refine ⟨s, by rw [QT.strings_trimRightByte.l0, if_neg (by omega)], ?_⟩
    rw [show bytesOf s = [] from List.eq_nil_of_length_eq_zero (by rw [bytesOf_length]; exact h)]; rfl
  | n + 1, k, s, h, hn, hk => by
    obtain ⟨k, rfl⟩ : ∃ m, k = m + 1 := ⟨k - 1, by omega⟩
    have hw : wrap64 ((s.size : Int) - 1) = (n : Int) := by rw [wrap_id (by omega) (by omega)]; omega
    have hs : bytesOf s = bytesOf (s.extract 0 n) ++ [bt s n] := by
      rw [bytes_extract, List.drop_zero, bt_get s n (by omega)]
      have : bytesOf s = (bytesOf s).take (n + 1) := by rw [List.take_of_length_le (by rw [bytesOf_length]; omega)]
      rw [List.take_succ_eq_append_getElem (by rw [bytesOf_length]; omega)] at this
      exact this
    rw [QT.strings_trimRightByte.l0, if_pos (by omega), hw, if_pos (by omega), if_pos (by omega), hs, strip_snoc]
    by_cases hc : bt s n = 48
    · rw [if_pos hc, if_pos (by omega), if_pos hc, Int.toNat_natCast]
      exact trim_f n k (s.extract 0 n) (by rw [ByteArray.size_extract]; omega) (by omega) (by omega)
    · rw [if_neg hc, if_neg hc]
      exact ⟨s, rfl, hs⟩
/-! ### a number's text -/
def fracL (r : Nat) : List Int := if r = 0 then [] else 46 :: strip (six r)
def textL (n : Int) : List Int := (if n < 0 then [45] else []) ++ (dec (n.natAbs / 1000000) ++ fracL (n.natAbs % 1000000))
theorem split_f (n : Int) (h0 : -9223372036854775808 ≤ n) (h1 : n ≤ 9223372036854775807) : QT.dec_split.f n = some ((n.natAbs : Int), decide (n < 0)) := by
  unfold QT.dec_split.f
  by_cases h : n < 0
  · rw [if_pos h, decide_eq_true h]
    congr 2
    simp [IntKind.wrap, IntKind.bits, IntKind.signed]
    omega
  · rw [if_neg h, decide_eq_false h]
    congr 2
    simp [IntKind.wrap, IntKind.bits, IntKind.signed]
    omega
end Go.Proofs.YtgodmbcebpbdiaaDoor.PT
end

/- The plain law of layer 2: a number's text and a numeral's reading, as rows of bytes. No Go and no memory stands here. -/
section
set_option linter.unusedVariables false
set_option linter.unusedSimpArgs false
namespace Go.Proofs.YtgodmbcebpbdiaaDoor.PT
open Go.Proofs.YtgodmbcebpbdiaaDoor.PD
open Go.RowKit Go.Proofs.YtgodmbcebpbdiaaDoorW.PrintWords Go.Proofs.YtgodmbcebpbdiaaDoorW.PrintLast Go.Proofs.YtgodmbcebpbdiaaDoor.G Go.Proofs.YtgodmbcebpbdiaaDoor.Q1

theorem trimR_f (k : Nat) (s : ByteArray) (hn : s.size ≤ 281474976710656) (hk : s.size + 3 < k) : ∃ r, QT.strings_TrimRight.f k s (⟨#[48]⟩ : ByteArray) = some r ∧ bytesOf r = strip (bytesOf s) := by
  obtain ⟨k, rfl⟩ : ∃ m, k = m + 2 := ⟨k - 2, by omega⟩
  obtain ⟨r, hr, hb⟩ := trim_f s.size (k + 2) s rfl hn (by omega)
  unfold QT.strings_TrimRight.f
  by_cases he : s.toList = []
  · rw [if_pos he, QT.strings_TrimRight.j0, if_pos rfl]
    refine ⟨s, rfl, ?_⟩
    have : bytesOf s = [] := by unfold bytesOf; rw [← ByteArray.toList_eq, he]; rfl
    rw [this]; rfl
  · have hb48 : bt (⟨#[48]⟩ : ByteArray) 0 = 48 := by decide +kernel
    have h1 : (((⟨#[48]⟩ : ByteArray).toList == ([] : List UInt8)) : Bool) = false := by decide +kernel
    rw [if_neg he, h1, QT.strings_TrimRight.j0, if_neg (by decide), if_pos (by decide), if_pos (by decide), hb48, QT.strings_TrimRight.j1, if_pos (by decide), if_pos (by decide), hb48]
    have hk2 : ∀ k, s.size < k → ∃ r, QT.strings_trimRightByte.f k s 48 = some r ∧ bytesOf r = strip (bytesOf s) := fun k hk => trim_f s.size k s rfl hn hk
    obtain ⟨r2, hr2, hb2⟩ := hk2 k (by omega)
    rw [hr2]
    exact ⟨r2, rfl, hb2⟩
theorem bytes_mk1 (c : UInt8) : bytesOf (⟨#[c]⟩ : ByteArray) = [(c.toNat : Int)] := rfl
theorem size_of_bytes {s : ByteArray} {l : List Int} (h : bytesOf s = l) : s.size = l.length := by rw [← bytesOf_length, h]
theorem app46 (a z : List Int) : a ++ ([((46 : UInt8).toNat : Int)] ++ z) = a ++ (46 :: z) := rfl
theorem app45 (z : List Int) : [((45 : UInt8).toNat : Int)] ++ z = (if true = true then [45] else []) ++ z := rfl
theorem app0 (z : List Int) : z = (if false = true then [45] else []) ++ z := rfl
theorem text_aux (k m q r u : Nat) (b : Bool) (n : Int) (hk : 20 < k) (hq : q < 10000000000000000000) (hr : r < 1000000) (hu : u = 1000000 + r)
    (hs : QT.dec_split.f n = some ((m : Int), b)) (hw1 : wrap64 (IntKind.u64.wrap (Int.tdiv (m : Int) 1000000)) = (q : Int)) (hq2 : (q : Int) ≤ 9223372036854775807) (hw2 : Int.tmod (m : Int) 1000000 = (r : Int))
    (hw3 : wrap64 (IntKind.u64.wrap (1000000 + (r : Int))) = (u : Int)) : ∃ t, QT.dec_Text.f k n = some t ∧ bytesOf t = (if b = true then [45] else []) ++ (dec q ++ fracL r) ∧ t.size ≤ 30 := by
  have hdl := dec_len20 q hq
  unfold QT.dec_Text.f
  rw [hs]
  rw [Option.bind_some]
  dsimp only
  rw [hw1, figures_f (q : Int) (by omega) hq2, hw2]
  rw [Option.bind_some]
  have hfig := bytes_fig q
  have hfs := fig_size q
  generalize fig (q : Int) = t1 at hfig hfs ⊢
  by_cases hz : r = 0
  · subst hz
    have hfr : fracL 0 = [] := rfl
    rw [if_pos (show ((0 : Nat) : Int) = 0 from rfl), hfr, List.append_nil]
    cases b with
    | true =>
      rw [if_pos rfl, if_pos rfl, if_pos (by omega)]
      refine ⟨_, rfl, by rw [bytesOf_append, bytes_mk1, hfig]; exact app45 _, ?_⟩
      rw [ByteArray.size_append, show (⟨#[45]⟩ : ByteArray).size = 1 from rfl]; omega
    | false =>
      rw [if_neg (by decide), if_neg (by decide)]
      exact ⟨_, rfl, by rw [hfig]; exact app0 _, by omega⟩
  · rw [if_neg (by omega), hw3, figures_f (u : Int) (by omega) (by omega)]
    rw [Option.bind_some]
    have hb2 := bytes_fig u
    have hs2 := fig_size u
    generalize fig (u : Int) = t2 at hb2 hs2 ⊢
    rw [hu, dec_million r hr] at hb2 hs2
    have hs2' : t2.size = 7 := hs2
    rw [if_pos (by omega)]
    have hb3 : bytesOf (t2.extract 1 t2.size) = six r := by
      rw [bytes_extract, List.take_of_length_le (by rw [bytesOf_length]; omega), hb2]; exact List.drop_succ_cons.trans List.drop_zero
    obtain ⟨t3, ht3, hbt3⟩ := trimR_f k (t2.extract 1 t2.size) (by rw [ByteArray.size_extract]; omega) (by rw [ByteArray.size_extract]; omega)
    rw [ht3]
    rw [Option.bind_some]
    rw [hb3] at hbt3
    have hl3 : t3.size ≤ 6 := by
      rw [size_of_bytes hbt3]
      exact strip_len (six r)
    have hfr : fracL r = 46 :: strip (six r) := by unfold fracL; rw [if_neg hz]
    have hap : bytesOf (t1 ++ ((⟨#[46]⟩ : ByteArray) ++ t3)) = dec q ++ fracL r := by
      rw [bytesOf_append, bytesOf_append, bytes_mk1, hfig, hbt3, hfr]; exact app46 _ _
    have hsz : (t1 ++ ((⟨#[46]⟩ : ByteArray) ++ t3)).size ≤ 26 := by
      rw [ByteArray.size_append, ByteArray.size_append, show (⟨#[46]⟩ : ByteArray).size = 1 from rfl]; omega
    rw [if_pos (by omega), if_pos (by rw [ByteArray.size_append, show (⟨#[46]⟩ : ByteArray).size = 1 from rfl]; omega)]
    generalize t1 ++ ((⟨#[46]⟩ : ByteArray) ++ t3) = t4 at hap hsz ⊢
    cases b with
    | true =>
      rw [if_pos rfl, if_pos rfl, if_pos (by omega)]
      refine ⟨_, rfl, by rw [bytesOf_append, bytes_mk1, hap]; exact app45 _, ?_⟩
      rw [ByteArray.size_append, show (⟨#[45]⟩ : ByteArray).size = 1 from rfl]; omega
    | false =>
      rw [if_neg (by decide), if_neg (by decide)]
      exact ⟨_, rfl, by rw [hap]; exact app0 _, by omega⟩
theorem text_f (k : Nat) (n : Int) (h0 : -9223372036854775808 ≤ n) (h1 : n ≤ 9223372036854775807) (hk : 20 < k) : ∃ t, QT.dec_Text.f k n = some t ∧ bytesOf t = textL n ∧ t.size ≤ 30 := by
  have hm : n.natAbs ≤ 9223372036854775808 := by omega
  have hd : Int.tdiv (n.natAbs : Int) 1000000 = ((n.natAbs / 1000000 : Nat) : Int) := Int.tdiv_eq_ediv_of_nonneg (by omega)
  obtain ⟨t, h1, h2, h3⟩ := text_aux k n.natAbs (n.natAbs / 1000000) (n.natAbs % 1000000) (1000000 + n.natAbs % 1000000) (decide (n < 0)) n hk (by omega) (Nat.mod_lt _ (by decide)) rfl
    (split_f n h0 h1) (by rw [hd, wmod, Int.emod_eq_of_lt (by omega) (by omega), wrap_id (by omega) (by omega)]) (by omega) (Int.tmod_eq_emod_of_nonneg (by omega))
    (by rw [wmod, Int.emod_eq_of_lt (by omega) (by omega), wrap_id (by omega) (by omega)]; omega)
  refine ⟨t, h1, ?_, h3⟩
  rw [h2]
  unfold textL
  by_cases hn : n < 0
  · rw [if_pos (decide_eq_true hn), if_pos hn]
  · rw [if_neg (by simp [hn]), if_neg hn]

/-! ### a numeral is read -/
theorem getD_val (T : ByteArray) (i : Nat) (h : i < T.size) : ((T.data.toList.getD i 0).toNat : Int) = (bytesOf T)[i]'(by rw [bytesOf_length]; exact h) := by
  unfold bytesOf
  have hl : i < T.data.toList.length := by simpa using h
  rw [List.getD_eq_getElem?_getD, List.getElem?_eq_getElem hl]
  simp
theorem dig_step (x v d low : Nat) (hge : x ≤ v) (h0 : d = 0 → v = x) :
    (if x < 18446744073709551616 then (if v < 18446744073709551616 then some v else if d = 0 then some x else none) else none) = if v < 18446744073709551616 then some v else if d + 1 = 0 then some low else none := by
  by_cases hx : x < 18446744073709551616
  · rw [if_pos hx]
    by_cases hvl : v < 18446744073709551616
    · rw [if_pos hvl, if_pos hvl]
    · rw [if_neg hvl, if_neg hvl]
      by_cases d0 : d = 0
      · have := h0 d0; omega
      · rw [if_neg (Nat.succ_ne_zero d), if_neg d0]
  · rw [if_neg hx, if_neg (by omega), if_neg (Nat.succ_ne_zero d)]
theorem digV_val (T : ByteArray) (hd : ∀ c ∈ bytesOf T, isD c = true) : ∀ (d i low : Nat), i + d = T.size →
    digV T d i low = if val low ((bytesOf T).drop i) < 18446744073709551616 then some (val low ((bytesOf T).drop i)) else if d = 0 then some low else none
  | 0, i, low, h => by
    rw [digV, List.drop_eq_nil_of_le (by rw [bytesOf_length]; omega)]
    simp only [val]
    split <;> rfl
  | d + 1, i, low, h => by
    have hi : i < T.size := by omega
    have hl : i < (bytesOf T).length := by rw [bytesOf_length]; exact hi
    have hg := getD_val T i hi
    have hD := (isD_iff _).1 (hd _ (List.getElem_mem hl))
    rw [digV, List.drop_eq_getElem_cons hl]
    simp only [val]
    have e : low * 10 + ((T.data.toList.getD i 0).toNat - 48) = 10 * low + ((bytesOf T)[i] - 48).toNat := by omega
    rw [e, digV_val T hd d (i + 1) _ (by omega)]
    refine dig_step _ _ d low (val_ge _ _) (fun d0 => ?_)
    subst d0
    rw [List.drop_eq_nil_of_le (by rw [bytesOf_length]; omega)]; rfl
end Go.Proofs.YtgodmbcebpbdiaaDoor.PT
end

/- The plain law of layer 2: what a numeral comes to. No Go and no memory stands here. -/
section
set_option linter.unusedVariables false
set_option linter.unusedSimpArgs false
namespace Go.Proofs.YtgodmbcebpbdiaaDoor.PT
open Go.Proofs.YtgodmbcebpbdiaaDoor.PD
open Go.RowKit Go.Proofs.YtgodmbcebpbdiaaDoorW.PrintWords Go.Proofs.YtgodmbcebpbdiaaDoorW.PrintLast Go.Proofs.YtgodmbcebpbdiaaDoor.G Go.Proofs.YtgodmbcebpbdiaaDoor.Q1

theorem takeWhile_app {p : Int → Bool} : ∀ (a b : List Int), (∀ x ∈ a, p x = true) → (∀ c, b.head? = some c → p c = false) → (a ++ b).takeWhile p = a ∧ (a ++ b).dropWhile p = b
  | [], b, _, h => by
    cases b with
    | nil => exact ⟨rfl, rfl⟩
    | cons c r =>
      have := h c rfl
      rw [List.nil_append, List.takeWhile_cons, List.dropWhile_cons, this]; exact ⟨rfl, rfl⟩
  | x :: a, b, ha, h => by
    obtain ⟨h1, h2⟩ := takeWhile_app a b (fun y hy => ha y (List.mem_cons_of_mem _ hy)) h
    rw [List.cons_append, List.takeWhile_cons, List.dropWhile_cons, ha x (List.mem_cons_self ..), if_pos rfl, if_pos rfl, h1, h2]; exact ⟨rfl, rfl⟩
/-- A numeral's parts: blanks, a sign, figures, a point with figures (or nothing), what follows. -/
structure Parts (l B S D F M : List Int) : Prop where
  all : l = B ++ (S ++ (D ++ (F ++ M)))
  blanks : ∀ c ∈ B, isB c = true
  sign : S = [] ∨ S = [45] ∨ S = [43]
  figs : ∀ c ∈ D, isD c = true
  some_ : D ≠ []
  frac : (F = [] ∧ M.head? ≠ some 46) ∨ (F.head? = some 46 ∧ ∀ c ∈ F.drop 1, isD c = true)
  rest : ∀ c, M.head? = some c → isD c = false
theorem Parts.end_ {l B S D F M : List Int} (h : Parts l B S D F M) : endL (F ++ M) = F.length ∧ ∀ c, (F ++ M).head? = some c → isD c = false := by
  rcases h.frac with ⟨rfl, h2⟩ | ⟨h1, h2⟩
  · refine ⟨?_, h.rest⟩
    unfold endL
    rw [List.nil_append, if_neg h2]; rfl
  · cases F with
    | nil => cases h1
    | cons x E =>
      obtain rfl : x = 46 := by simpa using h1
      refine ⟨?_, ?_⟩
      · unfold endL
        rw [List.cons_append, List.head?_cons, if_pos rfl, List.drop_succ_cons, List.drop_zero, (takeWhile_app E M h2 h.rest).1, List.length_cons]; omega
      · intro c hc
        rw [List.cons_append, List.head?_cons] at hc
        obtain rfl := Option.some.inj hc; rfl
theorem isB_of_isD {c : Int} (h : isD c = true) : isB c = false := by
  have := (isD_iff c).1 h
  rw [Bool.eq_false_iff, ne_eq, isB_iff]; omega
theorem Parts.span {l B S D F M : List Int} (h : Parts l B S D F M) :
    spanFrom (l.takeWhile isB).length (l.dropWhile isB) = ((B.length : Int), ((B.length + S.length : Nat) : Int), ((B.length + S.length + D.length : Nat) : Int), ((B.length + S.length + D.length + F.length : Nat) : Int)) := by
  obtain ⟨d, D', hD⟩ : ∃ d D', D = d :: D' := by
    cases hD : D with
    | nil => exact absurd hD h.some_
    | cons d D' => exact ⟨d, D', rfl⟩
  have hd : isD d = true := h.figs d (by rw [hD]; exact List.mem_cons_self ..)
  have hd' := (isD_iff d).1 hd
  have hb : ∀ c, (S ++ (D ++ (F ++ M))).head? = some c → isB c = false := by
    intro c hc
    rcases h.sign with rfl | rfl | rfl
    · rw [hD] at hc
      obtain rfl := Option.some.inj hc
      exact isB_of_isD hd
    · obtain rfl := Option.some.inj hc; rfl
    · obtain rfl := Option.some.inj hc; rfl
  obtain ⟨t1, t2⟩ := takeWhile_app B _ h.blanks hb
  rw [h.all, t1, t2]
  have hs : signL (S ++ (D ++ (F ++ M))) = S.length := by
    unfold signL
    rcases h.sign with rfl | rfl | rfl
    · rw [hD]
      simp only [List.nil_append, List.cons_append, List.head?_cons, Option.some.injEq]
      rw [if_neg (by omega)]; rfl
    · rfl
    · rfl
  have ht : tailL (S ++ (D ++ (F ++ M))) = D ++ (F ++ M) := by
    unfold tailL; rw [hs, List.drop_left]
  unfold spanFrom
  rw [ht, hs]
  obtain ⟨t3, t4⟩ := takeWhile_app D _ h.figs h.end_.2
  rw [t3, t4, h.end_.1]
theorem six_bytes : bytesOf (⟨#[48, 48, 48, 48, 48, 48]⟩ : ByteArray) = List.replicate 6 48 := rfl
theorem nil_bytes : bytesOf (⟨#[]⟩ : ByteArray) = [] := rfl
theorem Parts.num {s : ByteArray} {B S D F M : List Int} (h : Parts (bytesOf s) B S D F M) (hs : s.size ≤ 281474976710656) :
    bytesOf (numT s ((B.length + S.length : Nat) : Int) ((B.length + S.length + D.length : Nat) : Int) ((B.length + S.length + D.length + F.length : Nat) : Int)) = D ++ (F.drop 1 ++ List.replicate 6 48).take 6 := by
  have hl : s.size = B.length + (S.length + (D.length + (F.length + M.length))) := by rw [size_of_bytes h.all]; simp
  have e1 : bytesOf (s.extract (B.length + S.length) (B.length + S.length + D.length)) = D := by
    rw [bytes_extract, h.all, ← List.append_assoc, ← List.append_assoc, ← List.append_assoc, List.append_assoc _ F M, show (B ++ S ++ D ++ (F ++ M)).take (B.length + S.length + D.length) = B ++ S ++ D from by rw [show B.length + S.length + D.length = (B ++ S ++ D).length by simp; omega, List.take_left]]
    rw [show B.length + S.length = (B ++ S).length by simp, List.drop_left]
  unfold numT
  rw [bytesOf_append, Int.toNat_natCast, Int.toNat_natCast, e1]
  congr 1
  by_cases hF : F.length = 0
  · have hF' : F = [] := List.eq_nil_of_length_eq_zero hF
    rw [if_neg (by omega), bytes_extract, bytesOf_append, six_bytes, nil_bytes, hF']; rfl
  · rw [if_pos (by omega), bytes_extract, bytesOf_append, six_bytes]
    rw [show (((B.length + S.length + D.length : Nat) : Int) + 1).toNat = B.length + S.length + D.length + 1 by omega]
    rw [bytes_extract, Int.toNat_natCast, h.all, show (B ++ (S ++ (D ++ (F ++ M)))).take (B.length + S.length + D.length + F.length) = B ++ S ++ D ++ F from by rw [show B ++ (S ++ (D ++ (F ++ M))) = (B ++ S ++ D ++ F) ++ M by simp, show B.length + S.length + D.length + F.length = (B ++ S ++ D ++ F).length by simp; omega, List.take_left]]
    rw [List.drop_zero, show (B ++ S ++ D ++ F).drop (B.length + S.length + D.length + 1) = F.drop 1 from by
      rw [← List.drop_drop, show B.length + S.length + D.length = (B ++ S ++ D).length by simp; omega, List.drop_left]]
theorem joinV_lt {V : Nat} {b : Bool} {v : Int} (h : joinV V b = some v) : V < 18446744073709551616 := by
  unfold joinV at h
  cases b with
  | true =>
    by_cases h1 : V ≤ 9223372036854775808
    · omega
    · rw [if_pos rfl, if_neg h1] at h; cases h
  | false =>
    by_cases h1 : V ≤ 9223372036854775807
    · omega
    · rw [if_neg (by decide), if_neg h1] at h; cases h
/-- A numeral is read as its figures say. -/
theorem Parts.read {s : ByteArray} {B S D F M : List Int} (h : Parts (bytesOf s) B S D F M) (hs : s.size ≤ 281474976710656) {V : Nat} {v : Int}
    (hV : val 0 (D ++ (F.drop 1 ++ List.replicate 6 48).take 6) = V) (hj : joinV V (decide (S = [45])) = some v) :
    dec_Read.f s = some (v, ((B.length + S.length + D.length + F.length : Nat) : Int), 0) := by
  have hl : s.size = B.length + (S.length + (D.length + (F.length + M.length))) := by rw [size_of_bytes h.all]; simp
  have hDl : 0 < D.length := List.length_pos_iff.2 h.some_
  have hn := h.num hs
  unfold dec_Read.f
  rw [span_f s hs _ (by omega), h.span, Option.bind_some]
  unfold readV
  dsimp only
  have hT : ∀ c ∈ bytesOf (numT s ((B.length + S.length : Nat) : Int) ((B.length + S.length + D.length : Nat) : Int) ((B.length + S.length + D.length + F.length : Nat) : Int)), isD c = true := by
    rw [hn]
    intro c hc
    rcases List.mem_append.1 hc with hc | hc
    · exact h.figs c hc
    · rcases List.mem_append.1 (List.mem_of_mem_take hc) with hc | hc
      · rcases h.frac with ⟨rfl, _⟩ | ⟨_, h2⟩
        · cases hc
        · exact h2 c hc
      · rw [(List.mem_replicate.1 hc).2]; rfl
  generalize numT s ((B.length + S.length : Nat) : Int) ((B.length + S.length + D.length : Nat) : Int) ((B.length + S.length + D.length + F.length : Nat) : Int) = T at hn hT ⊢
  have hTs : T.size ≤ D.length + 6 := by
    rw [size_of_bytes hn, List.length_append, List.length_take]; omega
  have ha : B.length < s.size := by omega
  rw [if_neg (by omega), if_pos (by
    refine ⟨⟨by omega, by omega, by omega, by omega, by omega, by omega, hs, by omega⟩, fun i hi => ?_⟩
    have h1 := (isD_iff _).1 (hT _ (List.getElem_mem (by rw [bytesOf_length]; exact hi)))
    have h2 := getD_val T i hi
    omega)]
  have hval : val 0 ((bytesOf T).drop 0) = V := by rw [List.drop_zero, hn]; exact hV
  rw [digV_val T hT T.size 0 0 (by omega), hval, if_pos (joinV_lt hj)]
  have hm : minus s (B.length : Int) = decide (S = [45]) := by
    unfold minus
    rw [dif_pos (show ((B.length : Int)).toNat < s.size by omega)]
    have hb : (((s[((B.length : Int)).toNat]'(by omega)).toNat : Int)) = bt s (B.length : Int) := by
      unfold bt
      simp [ha]
    have hg : bt s ((B.length : Nat) : Int) = (S ++ (D ++ (F ++ M))).head (by intro z; have := congrArg List.length z; simp only [List.length_append, List.length_nil] at this; omega) := by
      rw [bt_get s B.length ha]
      simp only [h.all]
      rw [List.getElem_append_right (Nat.le_refl _), List.head_eq_getElem]
      simp
    rw [hb, hg]
    rcases h.sign with rfl | rfl | rfl
    · obtain ⟨d, D', rfl⟩ : ∃ d D', D = d :: D' := by
        cases hD : D with
        | nil => exact absurd hD h.some_
        | cons d D' => exact ⟨d, D', rfl⟩
      have := (isD_iff d).1 (h.figs d (List.mem_cons_self ..))
      simp
      omega
    · rfl
    · rfl
  rw [hm]
  unfold resV
  rw [Option.bind_some, hj]
end Go.Proofs.YtgodmbcebpbdiaaDoor.PT
end

/- The plain laws of layer 2: a number's text is read as it. No Go and no memory stands here. -/
section
set_option linter.unusedVariables false
set_option linter.unusedSimpArgs false
namespace Go.Proofs.YtgodmbcebpbdiaaDoor.PT
open Go.Proofs.YtgodmbcebpbdiaaDoor.PD
open Go.RowKit Go.Proofs.YtgodmbcebpbdiaaDoorW.PrintWords Go.Proofs.YtgodmbcebpbdiaaDoorW.PrintLast Go.Proofs.YtgodmbcebpbdiaaDoor.G Go.Proofs.YtgodmbcebpbdiaaDoor.Q1 Go.Proofs.YtgodmbcebpbdiaaDoor.QT

/-! ### the document's examples -/
theorem shown_read : dec_Read.f (⟨#[45, 49, 46, 53, 48, 120]⟩ : ByteArray) = some (-1500000, 5, 0) := by
  have hp : Parts (bytesOf (⟨#[45, 49, 46, 53, 48, 120]⟩ : ByteArray)) [] [45] [49] [46, 53, 48] [120] :=
    ⟨rfl, by simp, Or.inr (Or.inl rfl), by decide, by decide, Or.inr ⟨rfl, by decide⟩, by intro c hc; obtain rfl := Option.some.inj hc; rfl⟩
  have := hp.read (V := 1500000) (v := -1500000) (by decide) (by decide) (by decide +kernel)
  exact this
theorem toList_of {t : ByteArray} {l : List UInt8} (h : bytesOf t = l.map fun c => (c.toNat : Int)) : t.toList = l := by
  have : t = ⟨l.toArray⟩ := ext_bytes (by rw [h]; unfold bytesOf; simp)
  rw [this, ByteArray.toList_eq]
theorem shown_f (k : Nat) (hk : 20 < k) : dragomanlaw02_shown.f k = some true := by
  unfold dragomanlaw02_shown.f
  rw [shown_read, Option.bind_some, show dec_Div.f 1000000 3000000 = some (333333, 0) by decide +kernel, Option.bind_some]
  dsimp only
  obtain ⟨t1, h1, b1, _⟩ := text_f k (-1500000) (by decide) (by decide) hk
  obtain ⟨t2, h2, b2, _⟩ := text_f k 333333 (by decide) (by decide) hk
  have d1 : textL (-1500000) = [45, 49, 46, 53] := by
    unfold textL
    rw [show ((-1500000 : Int).natAbs / 1000000) = 1 from by decide, show ((-1500000 : Int).natAbs % 1000000) = 500000 from by decide, dec_lt (by decide)]
    decide +kernel
  have d2 : textL 333333 = [48, 46, 51, 51, 51, 51, 51, 51] := by
    unfold textL
    rw [show ((333333 : Int).natAbs / 1000000) = 0 from by decide, show ((333333 : Int).natAbs % 1000000) = 333333 from by decide, dec_lt (by decide)]
    decide +kernel
  rw [if_pos rfl, if_pos rfl, if_pos rfl, h1, Option.bind_some, if_pos (toList_of (by rw [b1, d1]; rfl)), h2, Option.bind_some, if_pos (toList_of (by rw [b2, d2]; rfl))]
  rfl
end Go.Proofs.YtgodmbcebpbdiaaDoor.PT
end
