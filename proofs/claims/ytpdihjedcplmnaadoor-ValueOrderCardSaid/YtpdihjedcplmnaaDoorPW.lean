/- The law Order of Value, in plain words. -/
import Derived.Test.YtpdihjedcplmnaaDoorPV
set_option linter.unusedVariables false
set_option linter.unusedSimpArgs false
namespace Go.Proofs.YtpdihjedcplmnaaDoor.P
open Go.RowKit Go.Proofs.YtpdihjedcplmnaaDoorW.PrintWords Go.Proofs.YtpdihjedcplmnaaDoor.G Go.Proofs.YtpdihjedcplmnaaDoor.Q1 Go.Proofs.YtpdihjedcplmnaaDoor.QA Go.Proofs.YtpdihjedcplmnaaDoor.PD
/-- A number's text looks like it. -/
theorem Looks_text (t : ByteArray) (n : Int) (h0 : -9223372036854775808 ≤ n) (h1 : n ≤ 9223372036854775807) (hs : t.size ≤ 100000) (h : bytesOf t = textL n) : value_Looks.f t = some (n, true) := by
  have hr := read_back t n [] [] h0 h1 (by omega) (by simp) (by simp) (by simp) (by rw [h]; simp)
  have hl : (textL n).length = t.size := by rw [← h, bytesOf_length]
  unfold value_Looks.f
  rw [hr, Option.bind_some, hl]
  dsimp only
  rw [if_pos rfl, List.length_nil, Nat.zero_add, if_pos ⟨by omega, by omega, by omega⟩]
  unfold looksT
  rw [Int.toNat_natCast, Nat.sub_self]
  rw [if_neg (show ¬ 0 ≤ idxOdd (bytesOf (t.extract t.size t.size)) 0 0 from by simp [idxOdd])]
/-- What begins with a letter doesn't look like a number. -/
theorem Looks_x (s : ByteArray) (l : List Int) (c : Int) (hs : s.size ≤ 100000) (h : bytesOf s = c :: l) (hc : c = 120 ∨ c = 121) : value_Looks.f s = some (0, false) := by
  have hsp := span_f s (by omega) (3 * s.size + 20) (by omega)
  have e1 : isB c = false := by rw [Bool.eq_false_iff, ne_eq, isB_iff]; omega
  have e2 : isD c = false := by rw [Bool.eq_false_iff, ne_eq, isD_iff]; omega
  have e3 : signL (c :: l) = 0 := by unfold signL; rw [List.head?_cons, if_neg (by simp; omega)]
  have e4 : endL (c :: l) = 0 := by unfold endL; rw [List.head?_cons, if_neg (by simp; omega)]
  have hR : dec_Read.f s = some (0, 0, 2) := by
    unfold dec_Read.f
    rw [hsp, Option.bind_some, h, List.takeWhile_cons, List.dropWhile_cons, e1]
    simp only [Bool.false_eq_true, if_false, List.length_nil]
    unfold spanFrom tailL
    rw [e3, List.drop_zero, List.takeWhile_cons, List.dropWhile_cons, e2]
    simp only [Bool.false_eq_true, if_false, List.length_nil, e4, Nat.add_zero]
    unfold readV
    rw [if_pos ⟨rfl, by unfold wrap64; omega⟩]
  unfold value_Looks.f
  rw [hR, Option.bind_some, if_neg (by decide)]
theorem cmp_more : ∀ (a b : List UInt8), b ≠ [] → Lib.compareBytes a (a ++ b) = -1
  | [], [], h => absurd rfl h
  | [], _ :: _, _ => rfl
  | x :: a, b, h => by rw [List.cons_append, Lib.compareBytes, if_neg (UInt8.lt_irrefl x), if_neg (UInt8.lt_irrefl x), cmp_more a b h]
theorem shown_at : dragomanlaw03_shown.f 50 = some true := by decide +kernel
theorem ValueOrder : dragomanlaw03_ValueOrder.Pure := by
  intro a0 a1 a2 w0 w1 h2
  obtain ⟨p0, p1⟩ := i64_range w0
  obtain ⟨q0, q1⟩ := i64_range w1
  refine ⟨50, ?_⟩
  unfold dragomanlaw03_ValueOrder.f
  rw [shown_at, Option.bind_some]
  by_cases c : (a2.size : Int) > 200
  · rw [if_pos c]
  rw [if_neg c]
  obtain ⟨t, ht, hb, hz⟩ := text_f 50 a0 p0 p1 (by decide)
  obtain ⟨u, hu, hb', hz'⟩ := text_f 50 a1 q0 q1 (by decide)
  have lt := Looks_text t a0 p0 p1 (by omega) hb
  have lu := Looks_text u a1 q0 q1 (by omega) hb'
  have s1 : (⟨#[120]⟩ : ByteArray).size = 1 := rfl
  have s2 : (⟨#[97]⟩ : ByteArray).size = 1 := rfl
  have lx := Looks_x ((⟨#[120]⟩ : ByteArray) ++ a2) (bytesOf a2) 120 (by rw [ByteArray.size_append]; omega) (by rw [bytesOf_append]; rfl) (.inl rfl)
  have ly := Looks_x (((⟨#[120]⟩ : ByteArray) ++ a2) ++ (⟨#[97]⟩ : ByteArray)) (bytesOf a2 ++ [97]) 120 (by rw [ByteArray.size_append, ByteArray.size_append]; omega) (by rw [bytesOf_append, bytesOf_append]; rfl) (.inl rfl)
  have lz := Looks_x (⟨#[121]⟩ : ByteArray) [] 121 (by decide) rfl (.inr rfl)
  rw [ht, Option.bind_some, hu, Option.bind_some, Compare_f t u lt lu 50 (by decide), Option.bind_some, if_pos (by omega), if_pos rfl]
  have k1 : cmpV t u (a0, true) (a1, true) = cmpI a0 a1 := by unfold cmpV; rw [if_pos ⟨rfl, rfl⟩]
  have g1 : ((decide (cmpI a0 a1 > 0)) == (decide (a0 > a1))) = true := by
    unfold cmpI
    by_cases h : a0 < a1
    · rw [if_pos h]; simp; omega
    · rw [if_neg h]; by_cases h' : a0 > a1
      · rw [if_pos h']; simp; omega
      · rw [if_neg h']; simp; omega
  have g2 : ((decide (cmpI a0 a1 < 0)) == (decide (a0 < a1))) = true := by
    unfold cmpI
    by_cases h : a0 < a1
    · rw [if_pos h]; simp; omega
    · rw [if_neg h]; by_cases h' : a0 > a1
      · rw [if_pos h']; simp; omega
      · rw [if_neg h']; simp; omega
  rw [k1, if_pos g1, if_pos g2, if_pos (by rw [ByteArray.size_append]; omega), Compare_f _ _ lx ly 50 (by decide), Option.bind_some]
  have k2 : cmpV ((⟨#[120]⟩ : ByteArray) ++ a2) (((⟨#[120]⟩ : ByteArray) ++ a2) ++ (⟨#[97]⟩ : ByteArray)) (0, false) (0, false) = -1 := by
    unfold cmpV
    rw [if_neg (by simp), show (((⟨#[120]⟩ : ByteArray) ++ a2) ++ (⟨#[97]⟩ : ByteArray)).data.toList = ((⟨#[120]⟩ : ByteArray) ++ a2).data.toList ++ [97] by simp [ByteArray.data_append], cmp_more _ _ (by simp)]
  have k3 : cmpV (⟨#[121]⟩ : ByteArray) ((⟨#[120]⟩ : ByteArray) ++ a2) (0, false) (0, false) = 1 := by
    unfold cmpV
    rw [if_neg (by simp), show ((⟨#[120]⟩ : ByteArray) ++ a2).data.toList = 120 :: a2.data.toList by simp [ByteArray.data_append]]
    rfl
  rw [k2, if_pos rfl, Compare_f _ _ lz lx 50 (by decide), Option.bind_some, k3]
  rfl
end Go.Proofs.YtpdihjedcplmnaaDoor.P
namespace Go.Proofs.YtpdihjedcplmnaaDoor.Pure
theorem ValueOrder : QA.dragomanlaw03_ValueOrder.Pure := P.ValueOrder
end Go.Proofs.YtpdihjedcplmnaaDoor.Pure
