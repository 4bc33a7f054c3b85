/- The laws Tells, Stays, Lengths and Puts of Subst, in plain words. -/
import Derived.Test.YthnfmpieoondaaaVPC
set_option linter.unusedVariables false
set_option linter.unusedSimpArgs false
set_option linter.unusedSectionVars false
namespace Go.Proofs.Ythnfmpieoondaaa.P
open Go.RowKit Go.Proofs.YthnfmpieoondaaaW.PrintWords Go.Proofs.Ythnfmpieoondaaa.QA Go.Proofs.Ythnfmpieoondaaa.QB Go.Proofs.Ythnfmpieoondaaa.QC Go.Proofs.Ythnfmpieoondaaa.G Go.Proofs.Ythnfmpieoondaaa.Mt
/-- The spans of a tree, and which is the first. -/
theorem head_is {l : List S55} {s : ByteArray} (h : Rt l s) (hs : s.size ≤ 76) : ∃ ys : List S28, ys.length ≤ 100000 ∧ Chain l s 0 true ys ∧ (∀ k, 400000 ≤ k → match_Spans.f k l s = some ys ∧ dragomanref06_Spans.f k l s = some ys) ∧
    ((ys = [] ∧ ∀ k, 400000 ≤ k → match_Span.f k l s 0 = some (0, 0, false)) ∨ ∃ (a b : Nat) (rest : List S28), ys = ⟨(a : Int), (b : Int)⟩ :: rest ∧ ∀ k, 400000 ≤ k → match_Span.f k l s 0 = some ((a : Int), (b : Int), true)) := by
  obtain ⟨ys, hy, hk⟩ := Spans_both h
  obtain ⟨r, hr, hR⟩ := Span_both h 0
  have hks : KS s ≤ 300000 := by
    unfold KS
    have : (s.size + 1) * (s.size + 4) ≤ 77 * 80 := Nat.mul_le_mul (by omega) (by omega)
    omega
  have hr' : ∀ k, 400000 ≤ k → match_Span.f k l s 0 = some r := fun k hk' => by
    have := (hr k (by omega)).1
    rwa [show ((0 : Nat) : Int) = 0 from rfl] at this
  have g1 := (hk 400001 (by omega)).1
  unfold match_Spans.f at g1
  obtain ⟨zs, hzs, g1'⟩ := Option.bind_eq_some_iff.mp g1
  by_cases hzl : zs.length ≤ 1000000
  · rw [if_pos hzl] at g1'
    obtain rfl := Option.some.inj g1'
    refine ⟨zs, hy, Spans_chain h 400001 (-1) 0 0 true zs hzs (.inr ⟨rfl, .inl ⟨rfl, Nat.le_refl _⟩⟩), fun k hk' => hk k (by omega), ?_⟩
    have hs0 := hr' 400000 (Nat.le_refl _)
    obtain ⟨K, hK⟩ : ∃ K, K = 400000 := ⟨_, rfl⟩
    rw [show 400001 = K + 1 by rw [hK]] at hzs
    rw [← hK] at hs0
    unfold spansL at hzs
    rw [if_pos (by omega), hs0, Option.bind_some] at hzs
    rcases hR with ⟨a, b, rfl, -⟩ | ⟨rfl, -⟩
    · rw [if_pos rfl] at hzs
      dsimp only at hzs
      rw [if_neg (by omega)] at hzs
      obtain ⟨ws, -, rfl⟩ := Option.map_eq_some_iff.mp hzs
      exact .inr ⟨a, b, ws, rfl, hr'⟩
    · rw [if_neg (by decide)] at hzs
      obtain rfl := Option.some.inj hzs
      exact .inl ⟨rfl, hr'⟩
  · rw [if_neg hzl] at g1'; cases g1'
section
variable {l : List S55} {s : ByteArray} {l2 : List ByteArray} {ys : List S28} (hs : s.size ≤ 76) (h2 : l2.length + tot l2 ≤ 1000) (hy : ys.length ≤ 100000) (ho : Ord s.size 0 ys)
include hs h2 hy ho
theorem rep_replaced (k : Nat) (hk : 200000 ≤ k) : subst_replaced.f k s ys l2 = some (⟨(rep s l2 0 ys).toArray⟩, (ys.length : Int)) := by
  have hm : l2.length * s.size ≤ 1000 * 76 := Nat.mul_le_mul (by omega) hs
  have hd : ys.length * (77000 + s.size) ≤ 100000 * (77000 + 76) := Nat.mul_le_mul hy (by omega)
  have := replaced_loop s l2 ys (by omega) (by omega) (by omega) 77000 (by omega) ys.length 0 k 0 [] (by omega) (by omega) (Nat.zero_le _) ho (by simp only [List.length_nil]; omega)
  unfold subst_replaced.f
  rw [show ((0 : Nat) : Int) = 0 from rfl, List.drop_zero, List.nil_append] at this
  rw [this, Option.bind_some]
theorem rep_RAll (k : Nat) (hk : 200000 ≤ k) : ∃ X, dragomanref07_All.l0 k s l2 ys ⟨#[]⟩ 0 0 = some (X, (ys.length : Int)) ∧ X.data.toList = rep s l2 0 ys := by
  have hm : l2.length * s.size ≤ 1000 * 76 := Nat.mul_le_mul (by omega) hs
  have hd : ys.length * (77000 + s.size) ≤ 100000 * (77000 + 76) := Nat.mul_le_mul hy (by omega)
  have z0 : (⟨#[]⟩ : ByteArray).size = 0 := rfl
  obtain ⟨X, h1, h3⟩ := RAll_loop s l2 ys (by omega) (by omega) (by omega) 77000 (by omega) ys.length 0 k 0 ⟨#[]⟩ (by omega) (by omega) (Nat.zero_le _) ho (by rw [z0]; omega)
  exact ⟨X, h1, by rw [h3, List.drop_zero]; rfl⟩
end
theorem All_both {l : List S55} {s : ByteArray} {l2 : List ByteArray} {ys : List S28} (hs : s.size ≤ 76) (h2 : l2.length + tot l2 ≤ 1000) (hy : ys.length ≤ 100000) (hc : Chain l s 0 true ys)
    (hk : ∀ k, 400000 ≤ k → match_Spans.f k l s = some ys ∧ dragomanref06_Spans.f k l s = some ys) (k : Nat) (hk' : 400000 ≤ k) :
    subst_All.f k l s l2 = some (⟨(rep s l2 0 ys).toArray⟩, (ys.length : Int)) ∧ ∃ X, dragomanref07_All.f k l s l2 = some (X, (ys.length : Int)) ∧ X.data.toList = rep s l2 0 ys := by
  obtain ⟨g1, g2⟩ := hk k hk'
  constructor
  · unfold subst_All.f
    rw [g1, Option.bind_some, rep_replaced hs h2 hy hc.ord k (by omega), Option.bind_some]
  · obtain ⟨X, h3, h4⟩ := rep_RAll hs h2 hy hc.ord k (by omega)
    refine ⟨X, ?_, h4⟩
    unfold dragomanref07_All.f
    rw [g2, Option.bind_some]
    exact h3
theorem First_none {l : List S55} {s : ByteArray} {l2 : List ByteArray} (hn : ∀ k, 400000 ≤ k → match_Span.f k l s 0 = some (0, 0, false)) (k : Nat) (hk' : 400000 ≤ k) : subst_First.f k l s l2 = some (s, 0) := by
  unfold subst_First.f
  rw [hn k hk', Option.bind_some, if_neg (by decide)]
theorem First_some {l : List S55} {s : ByteArray} {l2 : List ByteArray} {a b : Nat} (hs : s.size ≤ 76) (h2 : l2.length + tot l2 ≤ 1000) (hab : a ≤ b) (hb : b ≤ s.size) (hn : ∀ k, 400000 ≤ k → match_Span.f k l s 0 = some ((a : Int), (b : Int), true)) (k : Nat) (hk' : 400000 ≤ k) :
    subst_First.f k l s l2 = some (⟨(rep s l2 0 [⟨(a : Int), (b : Int)⟩]).toArray⟩, 1) := by
  unfold subst_First.f
  rw [hn k hk', Option.bind_some, if_pos rfl]
  dsimp only
  rw [rep_replaced hs h2 (by simp) (ys := [⟨(a : Int), (b : Int)⟩]) ⟨a, b, rfl, Nat.zero_le _, hab, hb, trivial⟩ k (by omega), Option.bind_some]
  rfl
/-! ### Stays -/
def own2 : List ByteArray := [⟨#[]⟩, ⟨#[]⟩]
theorem joinL_own (w : ByteArray) : joinL own2 w = w.data.toList := by
  unfold own2
  rw [joinL_cons, joinL_one]
  simp
theorem rep_own (s : ByteArray) : ∀ (ys : List S28) (e : Nat), e ≤ s.size → Ord s.size e ys → rep s own2 e ys = s.data.toList.drop e
  | [], e, _, _ => rfl
  | x :: ys, e, he, ho => by
    obtain ⟨a, b, rfl, h1, h2, h3, h4⟩ := ho
    rw [rep]
    simp only [Int.toNat_natCast]
    rw [rep_own s ys b h3 h4, joinL_own, ext_data, List.append_assoc]
    have e2 : (s.data.toList.drop a).take (b - a) ++ s.data.toList.drop b = s.data.toList.drop a := by
      have := List.take_append_drop (b - a) (s.data.toList.drop a)
      rwa [List.drop_drop, show a + (b - a) = b by omega] at this
    have e1 := List.take_append_drop (a - e) (s.data.toList.drop e)
    rw [List.drop_drop, show e + (a - e) = a by omega] at e1
    rw [e2, e1]
theorem Pure.SubstStays (l0 : List S55) (a1 : ByteArray) (l2 : List ByteArray) (hok : ∀ x, x ∈ l0 → Ok55 x) (hb2 : l2.length + tot l2 ≤ 4611686018427387904) : ∃ k, dragomanlaw07_SubstStays.f k l0 a1 l2 = some true := by
  obtain ⟨b, hb, hb'⟩ := few_spec l0 a1 l2 hb2
  cases b with
  | false =>
    refine ⟨300 + l2.length, ?_⟩
    unfold dragomanlaw07_SubstStays.f
    rw [shown_ok _ (by omega), Option.bind_some, hb _ (Nat.le_refl _), Option.bind_some, if_neg (by decide)]
  | true =>
    obtain ⟨h1, h2, h3, h4, h5⟩ := hb' rfl
    have h := Rt.of_few hok h1 h2 h3 h4
    obtain ⟨ys, hy, hc, hk, hh⟩ := head_is h (by omega)
    obtain ⟨K, hK⟩ : ∃ K, 400000 ≤ K := ⟨_, Nat.le_refl _⟩
    have t2 : own2.length + tot own2 ≤ 1000 := by decide
    obtain ⟨e1, -⟩ := All_both (l2 := l2) (by omega) (by omega) hy hc hk K hK
    obtain ⟨o1, -⟩ := All_both (l2 := own2) (by omega) t2 hy hc hk K hK
    have g2 := (hk K hK).2
    have r1 : (⟨(rep a1 own2 0 ys).toArray⟩ : ByteArray).toList = a1.toList := by
      rw [toList_data, toList_data, rep_own a1 ys 0 (Nat.zero_le _) hc.ord]; simp
    refine ⟨K, ?_⟩
    unfold dragomanlaw07_SubstStays.f
    rw [shown_ok _ (by omega), Option.bind_some, hb _ (by omega), Option.bind_some, if_pos rfl, Option.bind_some]
    rcases hh with ⟨rfl, hn⟩ | ⟨a, b, rest, rfl, hn⟩
    · have f1 : subst_First.f K l0 a1 [⟨#[]⟩, ⟨#[]⟩] = some (a1, 0) := First_none hn K hK
      have e4 : (⟨(rep a1 l2 0 []).toArray⟩ : ByteArray).toList = a1.toList := by rw [toList_data, toList_data, rep]; simp
      rw [f1, Option.bind_some, show subst_All.f K l0 a1 [⟨#[]⟩, ⟨#[]⟩] = _ from o1, Option.bind_some, g2, Option.bind_some, e1, Option.bind_some]
      dsimp only
      rw [if_pos rfl, if_pos rfl, if_pos r1, if_pos rfl, if_pos rfl, if_pos (by decide), if_pos (by decide), if_neg (by decide), e4]
      simp
    · obtain ⟨a', b', q1, q2, q3, q4, q5⟩ := hc
      obtain ⟨rfl, rfl⟩ : a = a' ∧ b = b' := by injection q1 with q1 q1'; exact ⟨by omega, by omega⟩
      have f1 : subst_First.f K l0 a1 [⟨#[]⟩, ⟨#[]⟩] = some (⟨(rep a1 own2 0 [⟨(a : Int), (b : Int)⟩]).toArray⟩, 1) := First_some (l2 := own2) (by omega) t2 q3 q4 hn K hK
      have r2 : (⟨(rep a1 own2 0 [⟨(a : Int), (b : Int)⟩]).toArray⟩ : ByteArray).toList = a1.toList := by
        rw [toList_data, toList_data, rep_own a1 [⟨(a : Int), (b : Int)⟩] 0 (Nat.zero_le _) ⟨a, b, rfl, Nat.zero_le _, q3, q4, trivial⟩]; simp
      have p1 : (((⟨(a : Int), (b : Int)⟩ : S28) :: rest).length : Int) > 0 := by simp only [List.length_cons]; omega
      rw [f1, Option.bind_some, show subst_All.f K l0 a1 [⟨#[]⟩, ⟨#[]⟩] = _ from o1, Option.bind_some, g2, Option.bind_some, e1, Option.bind_some]
      dsimp only
      rw [if_pos rfl, if_pos r2, if_pos r1, if_pos rfl, if_pos rfl, if_pos (by rw [decide_eq_true p1]; rfl), if_pos (by decide), if_pos p1]
/-! ### Puts -/
theorem Pure.SubstStaysU (l0 : List S55) (a1 : ByteArray) (l2 : List ByteArray) (hok : ∀ x, x ∈ l0 → Ok55 x) (_ : a1.size ≤ 1048576) (hb2 : l2.length + tot l2 ≤ 1048576) : ∃ k, dragomanlaw07_SubstStays.f k l0 a1 l2 = some true := Pure.SubstStays l0 a1 l2 hok (Nat.le_trans hb2 (by decide))
end Go.Proofs.Ythnfmpieoondaaa.P
