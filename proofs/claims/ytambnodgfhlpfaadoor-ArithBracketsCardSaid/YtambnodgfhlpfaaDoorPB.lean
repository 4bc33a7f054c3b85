/- The plain law of the statements' own figures, and of what a text that is written out comes to. No Go and no memory stands here. -/
import Derived.Test.YtambnodgfhlpfaaDoorPA
import Derived.Test.YtambnodgfhlpfaaDoorQAx5
import Derived.Test.YtambnodgfhlpfaaDoorRM
set_option linter.unusedVariables false
set_option linter.unusedSimpArgs false
namespace Go.Proofs.YtambnodgfhlpfaaDoor.P
open Go.RowKit Go.Proofs.YtambnodgfhlpfaaDoorW.PrintWords Go.Proofs.YtambnodgfhlpfaaDoorW.PrintLast Go.Proofs.YtambnodgfhlpfaaDoor.G Go.Proofs.YtambnodgfhlpfaaDoor.QA Go.Proofs.YtambnodgfhlpfaaDoor.A

theorem wu64 (x : Int) : IntKind.u64.wrap x = x % 18446744073709551616 := by simp [IntKind.wrap, IntKind.bits, IntKind.signed]
theorem one_size (c : Int) : (strOfNums [c]).size = 1 := rfl
theorem bytes_one (c : Int) (h0 : 0 ≤ c) (h1 : c ≤ 255) : bytesOf (strOfNums [c]) = [c] := bytesOf_strOfNums _ (by intro b hb; simp at hb; omega)
theorem toList_iff (s : ByteArray) : s.toList = ([] : List UInt8) ↔ s.size = 0 := by
  rw [ByteArray.toList_eq]
  constructor
  · intro h; have : s.data.toList.length = 0 := by rw [h]; rfl
    simpa using this
  · intro h; apply List.eq_nil_of_length_eq_zero; simpa using h
/-- The figures of u, ahead of what stands. -/
theorem fig_loop (n : Int) : ∀ (d : Nat) (u : Nat) (x3 : ByteArray) (k : Nat), u < 10 ^ d → d ≤ 20 → d + 4 ≤ k → x3.size + d ≤ 40 → (∀ c ∈ bytesOf x3, isD c = true) →
    ∃ t, dragomanlaw10_figures.l0 k n x3 (u : Int) = some t ∧ ∃ L : List Int, (∀ c ∈ L, isD c = true) ∧ val 0 L = u ∧ (0 < x3.size ∨ 0 < L.length) ∧ bytesOf t = (if n < 0 then [45] else []) ++ (L ++ bytesOf x3) ∧ L.length ≤ d + 1
  | d, 0, x3, k, hu, hd, hk, hx, hD => by
    obtain ⟨k, rfl⟩ : ∃ m, k = m + 2 := ⟨k - 2, by omega⟩
    by_cases h0 : x3.size = 0
    · have hw : (IntKind.u64.wrap (48 + Int.tmod ((0 : Nat) : Int) 10)) % 256 = 48 := by rw [wu64]; decide
      have hw2 : IntKind.u64.wrap (Int.tdiv ((0 : Nat) : Int) 10) = 0 := by rw [wu64]; decide
      simp only [dragomanlaw10_figures.l0, hw, hw2, Option.bind_some]
      rw [if_neg (by decide), if_pos ((toList_iff _).2 h0), if_pos (by rw [one_size]; omega), if_neg (by decide)]
      have hs1 : (strOfNums [48] ++ x3).size = 1 := by rw [ByteArray.size_append, one_size]; omega
      have hb : bytesOf x3 = [] := by apply List.eq_nil_of_length_eq_zero; rw [bytesOf_length]; exact h0
      rw [if_neg (by rw [toList_iff]; omega)]
      by_cases hn : n < 0
      · rw [if_pos hn, if_pos (by omega)]
        refine ⟨_, rfl, [48], by simp [isD], rfl, .inr (by decide), ?_, by simp⟩
        rw [if_pos hn, bytesOf_append, bytesOf_append, bytes_one 48 (by decide) (by decide)]; rfl
      · rw [if_neg hn]
        refine ⟨_, rfl, [48], by simp [isD], rfl, .inr (by decide), ?_, by simp⟩
        rw [if_neg hn, bytesOf_append, bytes_one 48 (by decide) (by decide)]; rfl
    · simp only [dragomanlaw10_figures.l0]
      rw [if_neg (by decide), if_neg (by rw [toList_iff]; exact h0)]
      by_cases hn : n < 0
      · rw [if_pos hn, if_pos (by omega)]
        refine ⟨_, rfl, [], by simp, rfl, .inl (by omega), ?_, by simp⟩
        rw [if_pos hn, bytesOf_append]; rfl
      · rw [if_neg hn]
        refine ⟨_, rfl, [], by simp, rfl, .inl (by omega), ?_, by simp⟩
        rw [if_neg hn]; rfl
  | 0, u + 1, x3, k, hu, hd, hk, hx, hD => by simp at hu
  | d + 1, u + 1, x3, k, hu, hd, hk, hx, hD => by
    obtain ⟨k, rfl⟩ : ∃ m, k = m + 1 := ⟨k - 1, by omega⟩
    have hp : 10 ^ (d + 1) ≤ 10 ^ 20 := Nat.pow_le_pow_right (by decide) hd
    have hp2 : 10 ^ (d + 1) = 10 ^ d * 10 := Nat.pow_succ 10 d
    have e20 : (10 : Nat) ^ 20 = 100000000000000000000 := by decide
    have hm : Int.tmod ((u + 1 : Nat) : Int) 10 = (((u + 1) % 10 : Nat) : Int) := by rw [Int.tmod_eq_emod_of_nonneg (by omega)]; omega
    have hw : (IntKind.u64.wrap (48 + Int.tmod ((u + 1 : Nat) : Int) 10)) % 256 = ((48 + (u + 1) % 10 : Nat) : Int) := by rw [wu64, hm]; omega
    have hw2 : IntKind.u64.wrap (Int.tdiv ((u + 1 : Nat) : Int) 10) = (((u + 1) / 10 : Nat) : Int) := by rw [wu64, Int.tdiv_eq_ediv_of_nonneg (by omega)]; omega
    simp only [dragomanlaw10_figures.l0, hw, hw2, Option.bind_some]
    rw [if_pos (by omega), if_pos (by rw [one_size]; omega)]
    have hb1 : bytesOf (strOfNums [((48 + (u + 1) % 10 : Nat) : Int)] ++ x3) = ((48 + (u + 1) % 10 : Nat) : Int) :: bytesOf x3 := by rw [bytesOf_append, bytes_one _ (by omega) (by omega)]; rfl
    have hd1 : isD ((48 + (u + 1) % 10 : Nat) : Int) = true := by rw [isD_iff]; omega
    obtain ⟨t, ht, L, h1, h2, h3, h4, h5⟩ := fig_loop n d ((u + 1) / 10) (strOfNums [((48 + (u + 1) % 10 : Nat) : Int)] ++ x3) k (by omega) (by omega) (by omega) (by rw [ByteArray.size_append, one_size]; omega)
      (by rw [hb1]; intro c hc; rcases List.mem_cons.1 hc with rfl | hc; exact hd1; exact hD c hc)
    refine ⟨t, ht, L ++ [((48 + (u + 1) % 10 : Nat) : Int)], ?_, ?_, .inr (by simp), ?_, by simp; omega⟩
    · intro c hc; rcases List.mem_append.1 hc with hc | hc
      · exact h1 c hc
      · rw [List.mem_singleton.1 hc]; exact hd1
    · rw [val_append, h2]; simp only [val]; omega
    · rw [h4, hb1]; simp
theorem takeWhile_id {p : Int → Bool} : ∀ {l : List Int}, (∀ c ∈ l, p c = true) → l.takeWhile p = l
  | [], _ => rfl
  | a :: l, h => by rw [List.takeWhile_cons, if_pos (h a (by simp)), takeWhile_id fun c hc => h c (by simp [hc])]
theorem whole_digits {L : List Int} (h : ∀ c ∈ L, isD c = true) (hl : 0 < L.length) (hv : val 0 L < 9223372036854775808) : wholeL L = (((val 0 L : Nat) : Int), (L.length : Int), 0) := by
  have hs : sgn L = 0 := by
    unfold sgn
    rw [if_neg]
    intro e
    cases L with
    | nil => simp at hl
    | cons a l =>
      have := h a (by simp)
      simp at e
      rw [e] at this
      simp [isD] at this
  unfold wholeL figs outc
  rw [hs, List.drop_zero, takeWhile_id h, if_neg (by omega), if_pos rfl, if_pos hv]
  simp
theorem whole_minus {L : List Int} (h : ∀ c ∈ L, isD c = true) (hl : 0 < L.length) (hv : val 0 L ≤ 9223372036854775808) : wholeL (45 :: L) = (-((val 0 L : Nat) : Int), ((L.length + 1 : Nat) : Int), 0) := by
  have hs : sgn (45 :: L) = 1 := by unfold sgn; simp
  unfold wholeL figs outc
  rw [hs, show (45 :: L).drop 1 = L from rfl, takeWhile_id h, if_neg (by omega), if_neg (by decide), if_pos hv]
  simp only [Prod.mk.injEq, true_and, and_true]
  omega
/-- A number's figures are read as it. -/
theorem fig_f (n : Int) (hn : I64 n) (k : Nat) (hk : 30 ≤ k) :
    ∃ t, dragomanlaw10_figures.f k n = some t ∧ wholeV t = (n, (t.size : Int), 0) ∧ 0 < t.size ∧ t.size ≤ 22 := by
  obtain ⟨n0, n1⟩ := hn
  obtain ⟨k, rfl⟩ : ∃ m, k = m + 1 := ⟨k - 1, by omega⟩
  have e20 : (10 : Nat) ^ 20 = 100000000000000000000 := by decide
  have key : ∀ u : Nat, u = n.natAbs → ∃ t, dragomanlaw10_figures.l0 k n ⟨#[]⟩ (u : Int) = some t ∧ wholeV t = (n, (t.size : Int), 0) ∧ 0 < t.size ∧ t.size ≤ 22 := by
    intro u hu
    obtain ⟨t, ht, L, h1, h2, h3, h4, h5⟩ := fig_loop n 20 u ⟨#[]⟩ k (by omega) (by omega) (by omega) (by decide) (by intro c hc; cases hc)
    have hL : 0 < L.length := by rcases h3 with h | h; exact absurd h (by decide); exact h
    have hts : t.size = (bytesOf t).length := (bytesOf_length t).symm
    refine ⟨t, ht, ?_, ?_, ?_⟩
    · rw [wholeV_eq, hts, h4]
      by_cases hneg : n < 0
      · rw [if_pos hneg]
        have e : [45] ++ (L ++ bytesOf (⟨#[]⟩ : ByteArray)) = 45 :: L := by rw [show bytesOf (⟨#[]⟩ : ByteArray) = [] from rfl]; simp
        rw [e, whole_minus h1 hL (by omega), h2]
        simp only [List.length_cons, Prod.mk.injEq, and_true]
        omega
      · rw [if_neg hneg]
        have e : [] ++ (L ++ bytesOf (⟨#[]⟩ : ByteArray)) = L := by rw [show bytesOf (⟨#[]⟩ : ByteArray) = [] from rfl]; simp
        rw [e, whole_digits h1 hL (by omega), h2]
        simp only [Prod.mk.injEq, and_true]
        omega
    · rw [hts, h4]; simp; omega
    · rw [hts, h4, show bytesOf (⟨#[]⟩ : ByteArray) = [] from rfl]; split <;> simp <;> omega
  unfold dragomanlaw10_figures.f
  by_cases hneg : n < 0
  · rw [if_pos hneg, wu64, wu64]
    simp only [dragomanlaw10_figures.j0]
    rw [show -(n % 18446744073709551616) % 18446744073709551616 = ((n.natAbs : Nat) : Int) by omega]
    exact key _ rfl
  · rw [if_neg hneg, wu64]
    simp only [dragomanlaw10_figures.j0]
    rw [show n % 18446744073709551616 = ((n.natAbs : Nat) : Int) by omega]
    exact key _ rfl
end Go.Proofs.YtambnodgfhlpfaaDoor.P
