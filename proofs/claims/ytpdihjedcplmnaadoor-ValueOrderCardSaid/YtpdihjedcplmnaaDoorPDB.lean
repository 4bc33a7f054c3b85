/- The plain law of layer 2: what a number's text is, and that it is read as the number. No Go and no memory stands here. -/
import Derived.Test.YtpdihjedcplmnaaDoorPDA
import Derived.Test.YtpdihjedcplmnaaDoorQAx
set_option linter.unusedVariables false
set_option linter.unusedSimpArgs false
namespace Go.Proofs.YtpdihjedcplmnaaDoor.PD
open Go.RowKit Go.Proofs.YtpdihjedcplmnaaDoorW.PrintWords Go.Proofs.YtpdihjedcplmnaaDoorW.PrintLast Go.Proofs.YtpdihjedcplmnaaDoor.G Go.Proofs.YtpdihjedcplmnaaDoor.Q1

/-! ### a number's figures -/
def dec (u : Nat) : List Int := (Lib.decDigits u).map fun c => (c.toNat : Int)
theorem dec_lt {u : Nat} (h : u < 10) : dec u = [48 + (u : Int)] := by
  unfold dec; rw [Lib.decDigits, dif_pos h]
  simp only [List.map_cons, List.map_nil, UInt8.toNat_ofNat']
  congr 1; omega
theorem dec_ge {u : Nat} (h : ¬ u < 10) : dec u = dec (u / 10) ++ [48 + ((u % 10 : Nat) : Int)] := by
  unfold dec; rw [Lib.decDigits, dif_neg h, List.map_append]
  simp only [List.map_cons, List.map_nil, UInt8.toNat_ofNat']
  congr 2; omega
theorem dec_facts (u : Nat) : (∀ c ∈ dec u, isD c = true) ∧ val 0 (dec u) = u ∧ dec u ≠ [] := by
  induction u using Nat.strongRecOn with
  | _ u ih =>
    by_cases h : u < 10
    · rw [dec_lt h]
      refine ⟨fun c hc => ?_, ?_, by simp⟩
      · simp only [List.mem_singleton] at hc; subst hc; rw [isD_iff]; omega
      · simp only [val]; omega
    · obtain ⟨i1, i2, i3⟩ := ih (u / 10) (by omega)
      rw [dec_ge h]
      refine ⟨fun c hc => ?_, ?_, by simp⟩
      · rcases List.mem_append.1 hc with hc | hc
        · exact i1 c hc
        · simp only [List.mem_singleton] at hc; subst hc; rw [isD_iff]; omega
      · rw [val_append, i2]; simp only [val]; omega
theorem dec_len : ∀ d u, u < 10 ^ (d + 1) → (dec u).length ≤ d + 1
  | 0, u, h => by rw [dec_lt (by simpa using h)]; simp
  | d + 1, u, h => by
    by_cases q : u < 10
    · rw [dec_lt q]; simp
    · rw [dec_ge q, List.length_append]
      have := dec_len d (u / 10) (by rw [Nat.pow_succ] at h; omega)
      simp; omega
def fig (n : Int) : ByteArray := ⟨(Lib.itoa n).toArray⟩
theorem bytes_fig (u : Nat) : bytesOf (fig (u : Int)) = dec u := by
  unfold fig bytesOf Lib.itoa dec
  rw [if_neg (by omega), Int.toNat_natCast]
theorem p19 : (10 : Nat) ^ 19 = 10000000000000000000 := by decide
theorem dec_len20 (u : Nat) (h : u < 10000000000000000000) : (dec u).length ≤ 19 := dec_len 18 u (by rw [p19]; exact h)
theorem fig_size (u : Nat) : (fig (u : Int)).size = (dec u).length := by rw [← bytesOf_length, bytes_fig]
theorem figures_f (n : Int) (h0 : -9223372036854775808 ≤ n) (h1 : n ≤ 9223372036854775807) : hex_Figures.f n = some (fig n) := by
  unfold hex_Figures.f fig
  rw [if_pos (show in64 n from ⟨h0, h1⟩)]
theorem i64_range {c : Int} (hc : (Lit.int .i64 c).wf = true) : -9223372036854775808 ≤ c ∧ c ≤ 9223372036854775807 := by
  simp [Lit.wf, IntKind.min, IntKind.max, IntKind.signed, IntKind.bits] at hc
  omega
theorem u8_range {c : Int} (hc : (Lit.int .u8 c).wf = true) : 0 ≤ c ∧ c ≤ 255 := by
  simp [Lit.wf, IntKind.min, IntKind.max, IntKind.signed, IntKind.bits] at hc
  omega
/-! ### six figures -/
/-- The six figures of a number below a million. -/
def six (r : Nat) : List Int := [48 + ((r / 100000 % 10 : Nat) : Int), 48 + ((r / 10000 % 10 : Nat) : Int), 48 + ((r / 1000 % 10 : Nat) : Int), 48 + ((r / 100 % 10 : Nat) : Int), 48 + ((r / 10 % 10 : Nat) : Int), 48 + ((r % 10 : Nat) : Int)]
theorem dec_million (r : Nat) (h : r < 1000000) : dec (1000000 + r) = 49 :: six r := by
  rw [dec_ge (by omega), dec_ge (by omega), dec_ge (by omega), dec_ge (by omega), dec_ge (by omega), dec_ge (by omega), dec_lt (by omega)]
  unfold six
  simp only [List.cons_append, List.nil_append, List.cons.injEq, and_true, Nat.div_div_eq_div_mul]
  have e1 : (1000000 + r) / 10 % 10 = r / 10 % 10 := by omega
  have e2 : (1000000 + r) / (10 * 10) % 10 = r / 100 % 10 := by omega
  have e3 : (1000000 + r) / (10 * 10 * 10) % 10 = r / 1000 % 10 := by omega
  have e4 : (1000000 + r) / (10 * 10 * 10 * 10) % 10 = r / 10000 % 10 := by omega
  have e5 : (1000000 + r) / (10 * 10 * 10 * 10 * 10) % 10 = r / 100000 % 10 := by omega
  have e6 : (1000000 + r) / (10 * 10 * 10 * 10 * 10 * 10) = 1 := by omega
  have e0 : (1000000 + r) % 10 = r % 10 := by omega
  rw [e0, e1, e2, e3, e4, e5, e6]
  exact ⟨rfl, rfl, rfl, rfl, rfl, rfl, rfl⟩
theorem six_val (r acc : Nat) (h : r < 1000000) : val acc (six r) = acc * 1000000 + r := by
  have h48 : ∀ m : Nat, ((48 + (m : Int)) - 48).toNat = m := fun m => by omega
  unfold six
  simp only [val, h48]
  have a1 : r = 10 * (r / 10) + r % 10 := by omega
  have a2 : r / 10 = 10 * (r / 100) + r / 10 % 10 := by omega
  have a3 : r / 100 = 10 * (r / 1000) + r / 100 % 10 := by omega
  have a4 : r / 1000 = 10 * (r / 10000) + r / 1000 % 10 := by omega
  have a5 : r / 10000 = 10 * (r / 100000) + r / 10000 % 10 := by omega
  have a6 : r / 100000 = r / 100000 % 10 := by omega
  generalize r % 10 = x0 at *
  generalize r / 10 % 10 = x1 at *
  generalize r / 100 % 10 = x2 at *
  generalize r / 1000 % 10 = x3 at *
  generalize r / 10000 % 10 = x4 at *
  generalize r / 100000 % 10 = x5 at *
  generalize r / 10 = y1 at *
  generalize r / 100 = y2 at *
  generalize r / 1000 = y3 at *
  generalize r / 10000 = y4 at *
  generalize r / 100000 = y5 at *
  subst a6 a5 a4 a3 a2 a1
  omega
theorem six_digits (r : Nat) : ∀ c ∈ six r, isD c = true := by
  intro c hc
  have h : ∀ m : Nat, isD (48 + ((m % 10 : Nat) : Int)) = true := fun m => by rw [isD_iff]; omega
  simp only [six, List.mem_cons, List.not_mem_nil, or_false] at hc
  rcases hc with rfl | rfl | rfl | rfl | rfl | rfl <;> exact h _
/-! ### noughts at the end are cut -/
def strip (l : List Int) : List Int := (l.reverse.dropWhile (fun c => c == 48)).reverse
theorem strip_nil : strip [] = [] := rfl
theorem strip_snoc (l : List Int) (c : Int) : strip (l ++ [c]) = if c = 48 then strip l else l ++ [c] := by
  unfold strip
  rw [List.reverse_append, List.reverse_singleton, List.singleton_append, List.dropWhile_cons]
  by_cases h : c = 48
  · subst h; simp
  · simp [h]
theorem strip_pad : ∀ (n : Nat) (l : List Int), l.length = n → ∃ m, l = strip l ++ List.replicate m 48
  | 0, l, h => ⟨0, by rw [List.eq_nil_of_length_eq_zero h]; rfl⟩
  | n + 1, l, h => by
    have hne : l ≠ [] := by intro z; rw [z] at h; simp at h
    have hl := List.dropLast_concat_getLast hne
    obtain ⟨m, hm⟩ := strip_pad n l.dropLast (by simp [h])
    rw [← hl, strip_snoc]
    by_cases hc : l.getLast hne = 48
    · rw [if_pos hc, hc]
      exact ⟨m + 1, by rw [List.replicate_succ', ← List.append_assoc, ← hm]⟩
    · rw [if_neg hc]; exact ⟨0, by simp⟩
theorem strip_len (l : List Int) : (strip l).length ≤ l.length := by
  obtain ⟨m, hm⟩ := strip_pad _ l rfl
  have := congrArg List.length hm
  simp at this; omega
theorem bytes_extract (s : ByteArray) (a b : Nat) : bytesOf (s.extract a b) = ((bytesOf s).take b).drop a := by
  unfold bytesOf
  rw [ByteArray.data_extract, Array.toList_extract, List.extract_eq_take_drop, List.map_take, List.map_drop, List.drop_take]
theorem trim_f : ∀ (n k : Nat) (s : ByteArray), s.size = n → n ≤ 281474976710656 → n < k → ∃ r, QA.strings_trimRightByte.l0 k s 48 = some r ∧ bytesOf r = strip (bytesOf s)
  | 0, k, s, h, hn, hk => by
    obtain ⟨k, rfl⟩ : ∃ m, k = m + 1 := ⟨k - 1, by omega⟩
    refine ⟨s, by rw [QA.strings_trimRightByte.l0, if_neg (by omega)], ?_⟩
    rw [show bytesOf s = [] from List.eq_nil_of_length_eq_zero (by rw [bytesOf_length]; exact h)]; rfl
  | n + 1, k, s, h, hn, hk => by
    obtain ⟨k, rfl⟩ : ∃ m, k = m + 1 := ⟨k - 1, by omega⟩
    have hw : wrap64 ((s.size : Int) - 1) = (n : Int) := by rw [wrap_id (by omega) (by omega)]; omega
    have hs : bytesOf s = bytesOf (s.extract 0 n) ++ [bt s n] := by
      rw [bytes_extract, List.drop_zero, bt_get s n (by omega)]
      have : bytesOf s = (bytesOf s).take (n + 1) := by rw [List.take_of_length_le (by rw [bytesOf_length]; omega)]
      rw [List.take_succ_eq_append_getElem (by rw [bytesOf_length]; omega)] at this
      exact this
    rw [QA.strings_trimRightByte.l0, if_pos (by omega), hw, if_pos (by omega), if_pos (by omega), hs, strip_snoc]
    by_cases hc : bt s n = 48
    · rw [if_pos hc, if_pos (by omega), if_pos hc, Int.toNat_natCast]
      exact trim_f n k (s.extract 0 n) (by rw [ByteArray.size_extract]; omega) (by omega) (by omega)
    · rw [if_neg hc, if_neg hc]
      exact ⟨s, rfl, hs⟩
/-! ### a number's text -/
def fracL (r : Nat) : List Int := if r = 0 then [] else 46 :: strip (six r)
def textL (n : Int) : List Int := (if n < 0 then [45] else []) ++ (dec (n.natAbs / 1000000) ++ fracL (n.natAbs % 1000000))
theorem split_f (n : Int) (h0 : -9223372036854775808 ≤ n) (h1 : n ≤ 9223372036854775807) : QA.dec_split.f n = some ((n.natAbs : Int), decide (n < 0)) := by
  unfold QA.dec_split.f
  by_cases h : n < 0
  · rw [if_pos h, decide_eq_true h]
    congr 2
    simp [IntKind.wrap, IntKind.bits, IntKind.signed]
    omega
  · rw [if_neg h, decide_eq_false h]
    congr 2
    simp [IntKind.wrap, IntKind.bits, IntKind.signed]
    omega
end Go.Proofs.YtpdihjedcplmnaaDoor.PD
