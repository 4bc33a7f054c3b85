/- The plain law of layer 2: a number's text and a numeral's reading, as rows of bytes. No Go and no memory stands here. -/
import Derived.Test.YtpdihjedcplmnaaDoorPDB
set_option linter.unusedVariables false
set_option linter.unusedSimpArgs false
namespace Go.Proofs.YtpdihjedcplmnaaDoor.PD
open Go.RowKit Go.Proofs.YtpdihjedcplmnaaDoorW.PrintWords Go.Proofs.YtpdihjedcplmnaaDoorW.PrintLast Go.Proofs.YtpdihjedcplmnaaDoor.G Go.Proofs.YtpdihjedcplmnaaDoor.Q1

theorem trimR_f (k : Nat) (s : ByteArray) (hn : s.size ≤ 281474976710656) (hk : s.size + 3 < k) : ∃ r, QA.strings_TrimRight.f k s (⟨#[48]⟩ : ByteArray) = some r ∧ bytesOf r = strip (bytesOf s) := by
  obtain ⟨k, rfl⟩ : ∃ m, k = m + 2 := ⟨k - 2, by omega⟩
  obtain ⟨r, hr, hb⟩ := trim_f s.size (k + 2) s rfl hn (by omega)
  unfold QA.strings_TrimRight.f
  by_cases he : s.toList = []
  · rw [if_pos he, QA.strings_TrimRight.j0, if_pos rfl]
    refine ⟨s, rfl, ?_⟩
    have : bytesOf s = [] := by unfold bytesOf; rw [← ByteArray.toList_eq, he]; rfl
    rw [this]; rfl
  · have hb48 : bt (⟨#[48]⟩ : ByteArray) 0 = 48 := by decide +kernel
    have h1 : (((⟨#[48]⟩ : ByteArray).toList == ([] : List UInt8)) : Bool) = false := by decide +kernel
    rw [if_neg he, h1, QA.strings_TrimRight.j0, if_neg (by decide), if_pos (by decide), if_pos (by decide), hb48, QA.strings_TrimRight.j1, if_pos (by decide), if_pos (by decide), hb48]
    have hk2 : ∀ k, s.size < k → ∃ r, QA.strings_trimRightByte.f k s 48 = some r ∧ bytesOf r = strip (bytesOf s) := fun k hk => trim_f s.size k s rfl hn hk
    obtain ⟨r2, hr2, hb2⟩ := hk2 k (by omega)
    rw [hr2]
    exact ⟨r2, rfl, hb2⟩
theorem bytes_mk1 (c : UInt8) : bytesOf (⟨#[c]⟩ : ByteArray) = [(c.toNat : Int)] := rfl
theorem size_of_bytes {s : ByteArray} {l : List Int} (h : bytesOf s = l) : s.size = l.length := by rw [← bytesOf_length, h]
theorem fracL_len (r : Nat) : (fracL r).length ≤ 7 := by
  unfold fracL
  split
  · simp
  · exact Nat.succ_le_succ (strip_len (six r))
theorem app46 (a z : List Int) : a ++ ([((46 : UInt8).toNat : Int)] ++ z) = a ++ (46 :: z) := rfl
theorem app45 (z : List Int) : [((45 : UInt8).toNat : Int)] ++ z = (if true = true then [45] else []) ++ z := rfl
theorem app0 (z : List Int) : z = (if false = true then [45] else []) ++ z := rfl
theorem text_aux (k m q r u : Nat) (b : Bool) (n : Int) (hk : 20 < k) (hq : q < 10000000000000000000) (hr : r < 1000000) (hu : u = 1000000 + r)
    (hs : QA.dec_split.f n = some ((m : Int), b)) (hw1 : wrap64 (IntKind.u64.wrap (Int.tdiv (m : Int) 1000000)) = (q : Int)) (hq2 : (q : Int) ≤ 9223372036854775807) (hw2 : Int.tmod (m : Int) 1000000 = (r : Int))
    (hw3 : wrap64 (IntKind.u64.wrap (1000000 + (r : Int))) = (u : Int)) : ∃ t, QA.dec_Text.f k n = some t ∧ bytesOf t = (if b = true then [45] else []) ++ (dec q ++ fracL r) ∧ t.size ≤ 30 := by
  have hdl := dec_len20 q hq
  unfold QA.dec_Text.f
  rw [hs]
  rw [Option.bind_some]
  dsimp only
  rw [hw1, figures_f (q : Int) (by omega) hq2, hw2]
  rw [Option.bind_some]
  have hfig := bytes_fig q
  have hfs := fig_size q
  generalize fig (q : Int) = t1 at hfig hfs ⊢
  by_cases hz : r = 0
  · subst hz
    have hfr : fracL 0 = [] := rfl
    rw [if_pos (show ((0 : Nat) : Int) = 0 from rfl), hfr, List.append_nil]
    cases b with
    | true =>
      rw [if_pos rfl, if_pos rfl, if_pos (by omega)]
      refine ⟨_, rfl, by rw [bytesOf_append, bytes_mk1, hfig]; exact app45 _, ?_⟩
      rw [ByteArray.size_append, show (⟨#[45]⟩ : ByteArray).size = 1 from rfl]; omega
    | false =>
      rw [if_neg (by decide), if_neg (by decide)]
      exact ⟨_, rfl, by rw [hfig]; exact app0 _, by omega⟩
  · rw [if_neg (by omega), hw3, figures_f (u : Int) (by omega) (by omega)]
    rw [Option.bind_some]
    have hb2 := bytes_fig u
    have hs2 := fig_size u
    generalize fig (u : Int) = t2 at hb2 hs2 ⊢
    rw [hu, dec_million r hr] at hb2 hs2
    have hs2' : t2.size = 7 := hs2
    rw [if_pos (by omega)]
    have hb3 : bytesOf (t2.extract 1 t2.size) = six r := by
      rw [bytes_extract, List.take_of_length_le (by rw [bytesOf_length]; omega), hb2]; exact List.drop_succ_cons.trans List.drop_zero
    obtain ⟨t3, ht3, hbt3⟩ := trimR_f k (t2.extract 1 t2.size) (by rw [ByteArray.size_extract]; omega) (by rw [ByteArray.size_extract]; omega)
    rw [ht3]
    rw [Option.bind_some]
    rw [hb3] at hbt3
    have hl3 : t3.size ≤ 6 := by
      rw [size_of_bytes hbt3]
      exact strip_len (six r)
    have hfr : fracL r = 46 :: strip (six r) := by unfold fracL; rw [if_neg hz]
    have hap : bytesOf (t1 ++ ((⟨#[46]⟩ : ByteArray) ++ t3)) = dec q ++ fracL r := by
      rw [bytesOf_append, bytesOf_append, bytes_mk1, hfig, hbt3, hfr]; exact app46 _ _
    have hsz : (t1 ++ ((⟨#[46]⟩ : ByteArray) ++ t3)).size ≤ 26 := by
      rw [ByteArray.size_append, ByteArray.size_append, show (⟨#[46]⟩ : ByteArray).size = 1 from rfl]; omega
    rw [if_pos (by omega), if_pos (by rw [ByteArray.size_append, show (⟨#[46]⟩ : ByteArray).size = 1 from rfl]; omega)]
    generalize t1 ++ ((⟨#[46]⟩ : ByteArray) ++ t3) = t4 at hap hsz ⊢
    cases b with
    | true =>
      rw [if_pos rfl, if_pos rfl, if_pos (by omega)]
      refine ⟨_, rfl, by rw [bytesOf_append, bytes_mk1, hap]; exact app45 _, ?_⟩
      rw [ByteArray.size_append, show (⟨#[45]⟩ : ByteArray).size = 1 from rfl]; omega
    | false =>
      rw [if_neg (by decide), if_neg (by decide)]
      exact ⟨_, rfl, by rw [hap]; exact app0 _, by omega⟩
theorem text_f (k : Nat) (n : Int) (h0 : -9223372036854775808 ≤ n) (h1 : n ≤ 9223372036854775807) (hk : 20 < k) : ∃ t, QA.dec_Text.f k n = some t ∧ bytesOf t = textL n ∧ t.size ≤ 30 := by
  have hm : n.natAbs ≤ 9223372036854775808 := by omega
  have hd : Int.tdiv (n.natAbs : Int) 1000000 = ((n.natAbs / 1000000 : Nat) : Int) := Int.tdiv_eq_ediv_of_nonneg (by omega)
  obtain ⟨t, h1, h2, h3⟩ := text_aux k n.natAbs (n.natAbs / 1000000) (n.natAbs % 1000000) (1000000 + n.natAbs % 1000000) (decide (n < 0)) n hk (by omega) (Nat.mod_lt _ (by decide)) rfl
    (split_f n h0 h1) (by rw [hd, wmod, Int.emod_eq_of_lt (by omega) (by omega), wrap_id (by omega) (by omega)]) (by omega) (Int.tmod_eq_emod_of_nonneg (by omega))
    (by rw [wmod, Int.emod_eq_of_lt (by omega) (by omega), wrap_id (by omega) (by omega)]; omega)
  refine ⟨t, h1, ?_, h3⟩
  rw [h2]
  unfold textL
  by_cases hn : n < 0
  · rw [if_pos (decide_eq_true hn), if_pos hn]
  · rw [if_neg (by simp [hn]), if_neg hn]

/-! ### a numeral is read -/
theorem getD_val (T : ByteArray) (i : Nat) (h : i < T.size) : ((T.data.toList.getD i 0).toNat : Int) = (bytesOf T)[i]'(by rw [bytesOf_length]; exact h) := by
  unfold bytesOf
  have hl : i < T.data.toList.length := by simpa using h
  rw [List.getD_eq_getElem?_getD, List.getElem?_eq_getElem hl]
  simp
theorem dig_step (x v d low : Nat) (hge : x ≤ v) (h0 : d = 0 → v = x) :
    (if x < 18446744073709551616 then (if v < 18446744073709551616 then some v else if d = 0 then some x else none) else none) = if v < 18446744073709551616 then some v else if d + 1 = 0 then some low else none := by
  by_cases hx : x < 18446744073709551616
  · rw [if_pos hx]
    by_cases hvl : v < 18446744073709551616
    · rw [if_pos hvl, if_pos hvl]
    · rw [if_neg hvl, if_neg hvl]
      by_cases d0 : d = 0
      · have := h0 d0; omega
      · rw [if_neg (Nat.succ_ne_zero d), if_neg d0]
  · rw [if_neg hx, if_neg (by omega), if_neg (Nat.succ_ne_zero d)]
theorem digV_val (T : ByteArray) (hd : ∀ c ∈ bytesOf T, isD c = true) : ∀ (d i low : Nat), i + d = T.size →
    digV T d i low = if val low ((bytesOf T).drop i) < 18446744073709551616 then some (val low ((bytesOf T).drop i)) else if d = 0 then some low else none
  | 0, i, low, h => by
    rw [digV, List.drop_eq_nil_of_le (by rw [bytesOf_length]; omega)]
    simp only [val]
    split <;> rfl
  | d + 1, i, low, h => by
    have hi : i < T.size := by omega
    have hl : i < (bytesOf T).length := by rw [bytesOf_length]; exact hi
    have hg := getD_val T i hi
    have hD := (isD_iff _).1 (hd _ (List.getElem_mem hl))
    rw [digV, List.drop_eq_getElem_cons hl]
    simp only [val]
    have e : low * 10 + ((T.data.toList.getD i 0).toNat - 48) = 10 * low + ((bytesOf T)[i] - 48).toNat := by omega
    rw [e, digV_val T hd d (i + 1) _ (by omega)]
    refine dig_step _ _ d low (val_ge _ _) (fun d0 => ?_)
    subst d0
    rw [List.drop_eq_nil_of_le (by rw [bytesOf_length]; omega)]; rfl
end Go.Proofs.YtpdihjedcplmnaaDoor.PD
