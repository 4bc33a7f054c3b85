/- The plain laws of layer 2: a number's text is read as it. No Go and no memory stands here. -/
import Derived.Test.YtpdihjedcplmnaaDoorPDD
set_option linter.unusedVariables false
set_option linter.unusedSimpArgs false
namespace Go.Proofs.YtpdihjedcplmnaaDoor.PD
open Go.RowKit Go.Proofs.YtpdihjedcplmnaaDoorW.PrintWords Go.Proofs.YtpdihjedcplmnaaDoorW.PrintLast Go.Proofs.YtpdihjedcplmnaaDoor.G Go.Proofs.YtpdihjedcplmnaaDoor.Q1 Go.Proofs.YtpdihjedcplmnaaDoor.QA

theorem strip_back (l : List Int) (h : l.length = 6) : (strip l ++ List.replicate 6 48).take 6 = l := by
  obtain ⟨m, hm⟩ := strip_pad _ l rfl
  have hl := strip_len l
  have hm6 : (strip l).length + m = 6 := by
    have := congrArg List.length hm
    rw [List.length_append, List.length_replicate] at this; omega
  rw [show List.replicate 6 (48 : Int) = List.replicate m 48 ++ List.replicate (6 - m) 48 from by rw [List.replicate_append_replicate]; congr 1; omega, ← List.append_assoc, ← hm]
  rw [show 6 = l.length from h.symm, List.take_left]
theorem frac_six (r : Nat) (h : r < 1000000) : ((fracL r).drop 1 ++ List.replicate 6 48).take 6 = six r := by
  unfold fracL
  by_cases hz : r = 0
  · subst hz; rfl
  · rw [if_neg hz, List.drop_succ_cons, List.drop_zero]
    exact strip_back _ rfl
theorem strip_sub (l : List Int) : ∀ c ∈ strip l, c ∈ l := by
  intro c hc
  obtain ⟨m, hm⟩ := strip_pad _ l rfl
  rw [hm]; exact List.mem_append_left _ hc
theorem frac_ok (r : Nat) (M : List Int) (hM : M.head? ≠ some 46) : (fracL r = [] ∧ M.head? ≠ some 46) ∨ ((fracL r).head? = some 46 ∧ ∀ c ∈ (fracL r).drop 1, isD c = true) := by
  unfold fracL
  by_cases hz : r = 0
  · rw [if_pos hz]; exact Or.inl ⟨rfl, hM⟩
  · rw [if_neg hz]
    exact Or.inr ⟨rfl, fun c hc => six_digits r c (strip_sub _ c (by simpa using hc))⟩
theorem text_val (n : Int) : val 0 (dec (n.natAbs / 1000000) ++ ((fracL (n.natAbs % 1000000)).drop 1 ++ List.replicate 6 48).take 6) = n.natAbs := by
  rw [frac_six _ (Nat.mod_lt _ (by decide)), val_append, (dec_facts _).2.1, six_val _ _ (Nat.mod_lt _ (by decide))]
  omega
theorem join_text (n : Int) (h0 : -9223372036854775808 ≤ n) (h1 : n ≤ 9223372036854775807) : joinV n.natAbs (decide (n < 0)) = some n := by
  unfold joinV
  by_cases h : n < 0
  · rw [if_pos (decide_eq_true h), if_pos (by omega)]; congr 1; omega
  · rw [if_neg (by simp [h]), if_pos (by omega)]; congr 1; omega
/-- A number's text, with blanks ahead and what is no figure and no point behind, is read as it. -/
theorem read_back (s : ByteArray) (n : Int) (B M : List Int) (h0 : -9223372036854775808 ≤ n) (h1 : n ≤ 9223372036854775807) (hs : s.size ≤ 281474976710656)
    (hB : ∀ c ∈ B, isB c = true) (hM : M.head? ≠ some 46) (hM2 : ∀ c, M.head? = some c → isD c = false) (h : bytesOf s = B ++ (textL n ++ M)) :
    dec_Read.f s = some (n, ((B.length + (textL n).length : Nat) : Int), 0) := by
  have hp : Parts (bytesOf s) B (if n < 0 then [45] else []) (dec (n.natAbs / 1000000)) (fracL (n.natAbs % 1000000)) M := by
    refine ⟨by rw [h]; unfold textL; simp, hB, ?_, (dec_facts _).1, (dec_facts _).2.2, frac_ok _ M hM, hM2⟩
    by_cases hn : n < 0
    · rw [if_pos hn]; exact Or.inr (Or.inl rfl)
    · rw [if_neg hn]; exact Or.inl rfl
  have hsg : decide ((if n < 0 then [45] else []) = ([45] : List Int)) = decide (n < 0) := by
    by_cases hn : n < 0
    · rw [if_pos hn]; simp [hn]
    · rw [if_neg hn]; simp [hn]
  rw [hp.read hs (text_val n) (by rw [hsg]; exact join_text n h0 h1)]
  unfold textL
  simp only [List.length_append, Nat.add_assoc]
end Go.Proofs.YtpdihjedcplmnaaDoor.PD
