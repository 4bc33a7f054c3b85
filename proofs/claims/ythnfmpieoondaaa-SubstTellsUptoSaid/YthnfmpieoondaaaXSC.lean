/- The laws Tells, Stays, Lengths and Puts of Subst, in plain words. -/
import Derived.Test.YthnfmpieoondaaaXPC
set_option linter.unusedVariables false
set_option linter.unusedSimpArgs false
set_option linter.unusedSectionVars false
namespace Go.Proofs.Ythnfmpieoondaaa.P
open Go.RowKit Go.Proofs.YthnfmpieoondaaaW.PrintWords Go.Proofs.Ythnfmpieoondaaa.QA Go.Proofs.Ythnfmpieoondaaa.QB Go.Proofs.Ythnfmpieoondaaa.QC Go.Proofs.Ythnfmpieoondaaa.G Go.Proofs.Ythnfmpieoondaaa.Mt
/-- The spans of a tree, and which is the first. -/
theorem head_is {l : List S55} {s : ByteArray} (h : Rt l s) (hs : s.size ≤ 76) : ∃ ys : List S28, ys.length ≤ 100000 ∧ Chain l s 0 true ys ∧ (∀ k, 400000 ≤ k → match_Spans.f k l s = some ys ∧ dragomanref06_Spans.f k l s = some ys) ∧
    ((ys = [] ∧ ∀ k, 400000 ≤ k → match_Span.f k l s 0 = some (0, 0, false)) ∨ ∃ (a b : Nat) (rest : List S28), ys = ⟨(a : Int), (b : Int)⟩ :: rest ∧ ∀ k, 400000 ≤ k → match_Span.f k l s 0 = some ((a : Int), (b : Int), true)) := by
  obtain ⟨ys, hy, hk⟩ := Spans_both h
  obtain ⟨r, hr, hR⟩ := Span_both h 0
  have hks : KS s ≤ 300000 := by
    unfold KS
    have : (s.size + 1) * (s.size + 4) ≤ 77 * 80 := Nat.mul_le_mul (by omega) (by omega)
    omega
  have hr' : ∀ k, 400000 ≤ k → match_Span.f k l s 0 = some r := fun k hk' => by
    have := (hr k (by omega)).1
    rwa [show ((0 : Nat) : Int) = 0 from rfl] at this
  have g1 := (hk 400001 (by omega)).1
  unfold match_Spans.f at g1
  obtain ⟨zs, hzs, g1'⟩ := Option.bind_eq_some_iff.mp g1
  by_cases hzl : zs.length ≤ 1000000
  · rw [if_pos hzl] at g1'
    obtain rfl := Option.some.inj g1'
    refine ⟨zs, hy, Spans_chain h 400001 (-1) 0 0 true zs hzs (.inr ⟨rfl, .inl ⟨rfl, Nat.le_refl _⟩⟩), fun k hk' => hk k (by omega), ?_⟩
    have hs0 := hr' 400000 (Nat.le_refl _)
    obtain ⟨K, hK⟩ : ∃ K, K = 400000 := ⟨_, rfl⟩
    rw [show 400001 = K + 1 by rw [hK]] at hzs
    rw [← hK] at hs0
    unfold spansL at hzs
    rw [if_pos (by omega), hs0, Option.bind_some] at hzs
    rcases hR with ⟨a, b, rfl, -⟩ | ⟨rfl, -⟩
    · rw [if_pos rfl] at hzs
      dsimp only at hzs
      rw [if_neg (by omega)] at hzs
      obtain ⟨ws, -, rfl⟩ := Option.map_eq_some_iff.mp hzs
      exact .inr ⟨a, b, ws, rfl, hr'⟩
    · rw [if_neg (by decide)] at hzs
      obtain rfl := Option.some.inj hzs
      exact .inl ⟨rfl, hr'⟩
  · rw [if_neg hzl] at g1'; cases g1'
section
variable {l : List S55} {s : ByteArray} {l2 : List ByteArray} {ys : List S28} (hs : s.size ≤ 76) (h2 : l2.length + tot l2 ≤ 1000) (hy : ys.length ≤ 100000) (ho : Ord s.size 0 ys)
include hs h2 hy ho
theorem rep_replaced (k : Nat) (hk : 200000 ≤ k) : subst_replaced.f k s ys l2 = some (⟨(rep s l2 0 ys).toArray⟩, (ys.length : Int)) := by
  have hm : l2.length * s.size ≤ 1000 * 76 := Nat.mul_le_mul (by omega) hs
  have hd : ys.length * (77000 + s.size) ≤ 100000 * (77000 + 76) := Nat.mul_le_mul hy (by omega)
  have := replaced_loop s l2 ys (by omega) (by omega) (by omega) 77000 (by omega) ys.length 0 k 0 [] (by omega) (by omega) (Nat.zero_le _) ho (by simp only [List.length_nil]; omega)
  unfold subst_replaced.f
  rw [show ((0 : Nat) : Int) = 0 from rfl, List.drop_zero, List.nil_append] at this
  rw [this, Option.bind_some]
theorem rep_RAll (k : Nat) (hk : 200000 ≤ k) : ∃ X, dragomanref07_All.l0 k s l2 ys ⟨#[]⟩ 0 0 = some (X, (ys.length : Int)) ∧ X.data.toList = rep s l2 0 ys := by
  have hm : l2.length * s.size ≤ 1000 * 76 := Nat.mul_le_mul (by omega) hs
  have hd : ys.length * (77000 + s.size) ≤ 100000 * (77000 + 76) := Nat.mul_le_mul hy (by omega)
  have z0 : (⟨#[]⟩ : ByteArray).size = 0 := rfl
  obtain ⟨X, h1, h3⟩ := RAll_loop s l2 ys (by omega) (by omega) (by omega) 77000 (by omega) ys.length 0 k 0 ⟨#[]⟩ (by omega) (by omega) (Nat.zero_le _) ho (by rw [z0]; omega)
  exact ⟨X, h1, by rw [h3, List.drop_zero]; rfl⟩
end
theorem All_both {l : List S55} {s : ByteArray} {l2 : List ByteArray} {ys : List S28} (hs : s.size ≤ 76) (h2 : l2.length + tot l2 ≤ 1000) (hy : ys.length ≤ 100000) (hc : Chain l s 0 true ys)
    (hk : ∀ k, 400000 ≤ k → match_Spans.f k l s = some ys ∧ dragomanref06_Spans.f k l s = some ys) (k : Nat) (hk' : 400000 ≤ k) :
    subst_All.f k l s l2 = some (⟨(rep s l2 0 ys).toArray⟩, (ys.length : Int)) ∧ ∃ X, dragomanref07_All.f k l s l2 = some (X, (ys.length : Int)) ∧ X.data.toList = rep s l2 0 ys := by
  obtain ⟨g1, g2⟩ := hk k hk'
  constructor
  · unfold subst_All.f
    rw [g1, Option.bind_some, rep_replaced hs h2 hy hc.ord k (by omega), Option.bind_some]
  · obtain ⟨X, h3, h4⟩ := rep_RAll hs h2 hy hc.ord k (by omega)
    refine ⟨X, ?_, h4⟩
    unfold dragomanref07_All.f
    rw [g2, Option.bind_some]
    exact h3
theorem First_none {l : List S55} {s : ByteArray} {l2 : List ByteArray} (hn : ∀ k, 400000 ≤ k → match_Span.f k l s 0 = some (0, 0, false)) (k : Nat) (hk' : 400000 ≤ k) : subst_First.f k l s l2 = some (s, 0) := by
  unfold subst_First.f
  rw [hn k hk', Option.bind_some, if_neg (by decide)]
theorem First_some {l : List S55} {s : ByteArray} {l2 : List ByteArray} {a b : Nat} (hs : s.size ≤ 76) (h2 : l2.length + tot l2 ≤ 1000) (hab : a ≤ b) (hb : b ≤ s.size) (hn : ∀ k, 400000 ≤ k → match_Span.f k l s 0 = some ((a : Int), (b : Int), true)) (k : Nat) (hk' : 400000 ≤ k) :
    subst_First.f k l s l2 = some (⟨(rep s l2 0 [⟨(a : Int), (b : Int)⟩]).toArray⟩, 1) := by
  unfold subst_First.f
  rw [hn k hk', Option.bind_some, if_pos rfl]
  dsimp only
  rw [rep_replaced hs h2 (by simp) (ys := [⟨(a : Int), (b : Int)⟩]) ⟨a, b, rfl, Nat.zero_le _, hab, hb, trivial⟩ k (by omega), Option.bind_some]
  rfl
theorem RFirst_none {l : List S55} {s : ByteArray} {l2 : List ByteArray} (hk : ∀ k, 400000 ≤ k → dragomanref06_Spans.f k l s = some []) (k : Nat) (hk' : 400000 ≤ k) : dragomanref07_First.f k l s l2 = some (s, 0) := by
  unfold dragomanref07_First.f
  rw [hk k hk', Option.bind_some, if_pos (show (([] : List S28).length : Int) = 0 from rfl)]
theorem RFirst_some {l : List S55} {s : ByteArray} {l2 : List ByteArray} {a b : Nat} {rest : List S28} (hs : s.size ≤ 76) (h2 : l2.length + tot l2 ≤ 1000) (hab : a ≤ b) (hb : b ≤ s.size) (hk : ∀ k, 400000 ≤ k → dragomanref06_Spans.f k l s = some (⟨(a : Int), (b : Int)⟩ :: rest)) (k : Nat) (hk' : 400000 ≤ k) :
    ∃ X, dragomanref07_First.f k l s l2 = some (X, 1) ∧ X.data.toList = rep s l2 0 [⟨(a : Int), (b : Int)⟩] := by
  have hm : l2.length * (b - a) ≤ 1000 * 76 := Nat.mul_le_mul (by omega) (by omega)
  have hj := joinL_le l2 (s.extract a b)
  rw [ext_size s a b hb] at hj
  obtain ⟨Y, hY, hY2⟩ := RPut_is l2 (s.extract a b) (by omega) (by omega) k (by omega)
  have hYs : Y.size = (joinL l2 (s.extract a b)).length := by rw [← data_length, hY2]
  have z1 : (s.extract 0 a).size = a := by rw [ext_size s 0 a (by omega), Nat.sub_zero]
  have z2 : (s.extract 0 a ++ Y).size = a + Y.size := by rw [ByteArray.size_append, z1]
  have z3 : (s.extract b s.size).size = s.size - b := ext_size s b s.size (Nat.le_refl _)
  refine ⟨s.extract 0 a ++ Y ++ s.extract b s.size, ?_, ?_⟩
  · have q1 : (s.extract 0 a).size + Y.size ≤ 9223372036854775807 := Nat.le_trans (by omega : _ ≤ 1000000) (by decide)
    have q2 : (s.extract 0 a ++ Y).size + (s.extract b s.size).size ≤ 9223372036854775807 := Nat.le_trans (by omega : _ ≤ 1000000) (by decide)
    have hrd : rd_T28 (⟨(a : Int), (b : Int)⟩ :: rest) 0 = ⟨(a : Int), (b : Int)⟩ := rfl
    unfold dragomanref07_First.f
    rw [hk k hk', Option.bind_some, if_neg (by simp only [List.length_cons]; omega), if_pos (by simp only [List.length_cons]; omega), hrd]
    dsimp only
    simp only [Int.toNat_natCast]
    rw [if_pos (by omega : (0 : Int) ≤ (a : Int)), if_pos (by omega : (a : Int) ≤ (s.size : Int)), if_pos (by omega : (a : Int) ≤ (b : Int)), if_pos (by omega : (b : Int) ≤ (s.size : Int)), hY, Option.bind_some, if_pos q1, if_pos (by omega : (0 : Int) ≤ (b : Int)), if_pos q2]
  · rw [app_data, app_data, hY2, ext_data, ext_data, rep, rep]
    simp only [Int.toNat_natCast, List.drop_zero, Nat.sub_zero]
    rw [List.take_of_length_le (i := s.size - b) (by rw [List.length_drop, data_length]; omega)]
theorem Pure.SubstTells (l0 : List S55) (a1 : ByteArray) (l2 : List ByteArray) (hok : ∀ x, x ∈ l0 → Ok55 x) (hb2 : l2.length + tot l2 ≤ 4611686018427387904) : ∃ k, dragomanlaw07_SubstTells.f k l0 a1 l2 = some true := by
  obtain ⟨b, hb, hb'⟩ := few_spec l0 a1 l2 hb2
  cases b with
  | false =>
    refine ⟨300 + l2.length, ?_⟩
    unfold dragomanlaw07_SubstTells.f
    rw [shown_ok _ (by omega), Option.bind_some, hb _ (Nat.le_refl _), Option.bind_some, if_neg (by decide)]
  | true =>
    obtain ⟨h1, h2, h3, h4, h5⟩ := hb' rfl
    have h := Rt.of_few hok h1 h2 h3 h4
    obtain ⟨ys, hy, hc, hk, hh⟩ := head_is h (by omega)
    obtain ⟨K, hK⟩ : ∃ K, 400000 ≤ K := ⟨_, Nat.le_refl _⟩
    obtain ⟨e1, X, e2, e3⟩ := All_both (l2 := l2) (by omega) (by omega) hy hc hk K hK
    have eX : ((⟨(rep a1 l2 0 ys).toArray⟩ : ByteArray).toList = X.toList) := by rw [toList_data, toList_data, e3]
    refine ⟨K, ?_⟩
    unfold dragomanlaw07_SubstTells.f
    rw [shown_ok _ (by omega), Option.bind_some, hb _ (by omega), Option.bind_some, if_pos rfl]
    rcases hh with ⟨rfl, hn⟩ | ⟨a, b, rest, rfl, hn⟩
    · rw [First_none hn K hK, Option.bind_some, RFirst_none (fun k hk' => (hk k hk').2) K hK, Option.bind_some, e1, Option.bind_some, e2, Option.bind_some, if_pos rfl, if_pos rfl, if_pos rfl, if_pos eX]
      simp
    · obtain ⟨a', b', q1, q2, q3, q4, -⟩ := hc
      obtain ⟨rfl, rfl⟩ : a = a' ∧ b = b' := by injection q1 with q1 q1'; exact ⟨by omega, by omega⟩
      obtain ⟨Y, f1, f2⟩ := RFirst_some (l2 := l2) (by omega) (by omega) q3 q4 (fun k hk' => (hk k hk').2) K hK
      have eY : ((⟨(rep a1 l2 0 [⟨(a : Int), (b : Int)⟩]).toArray⟩ : ByteArray).toList = Y.toList) := by rw [toList_data, toList_data, f2]
      rw [First_some (by omega) (by omega) q3 q4 hn K hK, Option.bind_some, f1, Option.bind_some, e1, Option.bind_some, e2, Option.bind_some, if_pos rfl, if_pos eY, if_pos rfl, if_pos eX]
      simp
/-! ### Puts -/
theorem Pure.SubstTellsU (l0 : List S55) (a1 : ByteArray) (l2 : List ByteArray) (hok : ∀ x, x ∈ l0 → Ok55 x) (_ : a1.size ≤ 1048576) (hb2 : l2.length + tot l2 ≤ 1048576) : ∃ k, dragomanlaw07_SubstTells.f k l0 a1 l2 = some true := Pure.SubstTells l0 a1 l2 hok (Nat.le_trans hb2 (by decide))
end Go.Proofs.Ythnfmpieoondaaa.P
