/- The laws Tells, Stays, Lengths and Puts of Subst, in plain words. -/
import Derived.Test.YthnfmpieoondaaaYPC
set_option linter.unusedVariables false
set_option linter.unusedSimpArgs false
set_option linter.unusedSectionVars false
namespace Go.Proofs.Ythnfmpieoondaaa.P
open Go.RowKit Go.Proofs.YthnfmpieoondaaaW.PrintWords Go.Proofs.Ythnfmpieoondaaa.QA Go.Proofs.Ythnfmpieoondaaa.QB Go.Proofs.Ythnfmpieoondaaa.QC Go.Proofs.Ythnfmpieoondaaa.G Go.Proofs.Ythnfmpieoondaaa.Mt
/-- The spans of a tree, and which is the first. -/
theorem head_is {l : List S55} {s : ByteArray} (h : Rt l s) (hs : s.size ≤ 76) : ∃ ys : List S28, ys.length ≤ 100000 ∧ Chain l s 0 true ys ∧ (∀ k, 400000 ≤ k → match_Spans.f k l s = some ys ∧ dragomanref06_Spans.f k l s = some ys) ∧
    ((ys = [] ∧ ∀ k, 400000 ≤ k → match_Span.f k l s 0 = some (0, 0, false)) ∨ ∃ (a b : Nat) (rest : List S28), ys = ⟨(a : Int), (b : Int)⟩ :: rest ∧ ∀ k, 400000 ≤ k → match_Span.f k l s 0 = some ((a : Int), (b : Int), true)) := by
  obtain ⟨ys, hy, hk⟩ := Spans_both h
  obtain ⟨r, hr, hR⟩ := Span_both h 0
  have hks : KS s ≤ 300000 := by
    unfold KS
    have : (s.size + 1) * (s.size + 4) ≤ 77 * 80 := Nat.mul_le_mul (by omega) (by omega)
    omega
  have hr' : ∀ k, 400000 ≤ k → match_Span.f k l s 0 = some r := fun k hk' => by
    have := (hr k (by omega)).1
    rwa [show ((0 : Nat) : Int) = 0 from rfl] at this
  have g1 := (hk 400001 (by omega)).1
  unfold match_Spans.f at g1
  obtain ⟨zs, hzs, g1'⟩ := Option.bind_eq_some_iff.mp g1
  by_cases hzl : zs.length ≤ 1000000
  · rw [if_pos hzl] at g1'
    obtain rfl := Option.some.inj g1'
    refine ⟨zs, hy, Spans_chain h 400001 (-1) 0 0 true zs hzs (.inr ⟨rfl, .inl ⟨rfl, Nat.le_refl _⟩⟩), fun k hk' => hk k (by omega), ?_⟩
    have hs0 := hr' 400000 (Nat.le_refl _)
    obtain ⟨K, hK⟩ : ∃ K, K = 400000 := ⟨_, rfl⟩
    rw [show 400001 = K + 1 by rw [hK]] at hzs
    rw [← hK] at hs0
    unfold spansL at hzs
    rw [if_pos (by omega), hs0, Option.bind_some] at hzs
    rcases hR with ⟨a, b, rfl, -⟩ | ⟨rfl, -⟩
    · rw [if_pos rfl] at hzs
      dsimp only at hzs
      rw [if_neg (by omega)] at hzs
      obtain ⟨ws, -, rfl⟩ := Option.map_eq_some_iff.mp hzs
      exact .inr ⟨a, b, ws, rfl, hr'⟩
    · rw [if_neg (by decide)] at hzs
      obtain rfl := Option.some.inj hzs
      exact .inl ⟨rfl, hr'⟩
  · rw [if_neg hzl] at g1'; cases g1'
section
variable {l : List S55} {s : ByteArray} {l2 : List ByteArray} {ys : List S28} (hs : s.size ≤ 76) (h2 : l2.length + tot l2 ≤ 1000) (hy : ys.length ≤ 100000) (ho : Ord s.size 0 ys)
include hs h2 hy ho
theorem rep_replaced (k : Nat) (hk : 200000 ≤ k) : subst_replaced.f k s ys l2 = some (⟨(rep s l2 0 ys).toArray⟩, (ys.length : Int)) := by
  have hm : l2.length * s.size ≤ 1000 * 76 := Nat.mul_le_mul (by omega) hs
  have hd : ys.length * (77000 + s.size) ≤ 100000 * (77000 + 76) := Nat.mul_le_mul hy (by omega)
  have := replaced_loop s l2 ys (by omega) (by omega) (by omega) 77000 (by omega) ys.length 0 k 0 [] (by omega) (by omega) (Nat.zero_le _) ho (by simp only [List.length_nil]; omega)
  unfold subst_replaced.f
  rw [show ((0 : Nat) : Int) = 0 from rfl, List.drop_zero, List.nil_append] at this
  rw [this, Option.bind_some]
theorem rep_RAll (k : Nat) (hk : 200000 ≤ k) : ∃ X, dragomanref07_All.l0 k s l2 ys ⟨#[]⟩ 0 0 = some (X, (ys.length : Int)) ∧ X.data.toList = rep s l2 0 ys := by
  have hm : l2.length * s.size ≤ 1000 * 76 := Nat.mul_le_mul (by omega) hs
  have hd : ys.length * (77000 + s.size) ≤ 100000 * (77000 + 76) := Nat.mul_le_mul hy (by omega)
  have z0 : (⟨#[]⟩ : ByteArray).size = 0 := rfl
  obtain ⟨X, h1, h3⟩ := RAll_loop s l2 ys (by omega) (by omega) (by omega) 77000 (by omega) ys.length 0 k 0 ⟨#[]⟩ (by omega) (by omega) (Nat.zero_le _) ho (by rw [z0]; omega)
  exact ⟨X, h1, by rw [h3, List.drop_zero]; rfl⟩
end
theorem All_both {l : List S55} {s : ByteArray} {l2 : List ByteArray} {ys : List S28} (hs : s.size ≤ 76) (h2 : l2.length + tot l2 ≤ 1000) (hy : ys.length ≤ 100000) (hc : Chain l s 0 true ys)
    (hk : ∀ k, 400000 ≤ k → match_Spans.f k l s = some ys ∧ dragomanref06_Spans.f k l s = some ys) (k : Nat) (hk' : 400000 ≤ k) :
    subst_All.f k l s l2 = some (⟨(rep s l2 0 ys).toArray⟩, (ys.length : Int)) ∧ ∃ X, dragomanref07_All.f k l s l2 = some (X, (ys.length : Int)) ∧ X.data.toList = rep s l2 0 ys := by
  obtain ⟨g1, g2⟩ := hk k hk'
  constructor
  · unfold subst_All.f
    rw [g1, Option.bind_some, rep_replaced hs h2 hy hc.ord k (by omega), Option.bind_some]
  · obtain ⟨X, h3, h4⟩ := rep_RAll hs h2 hy hc.ord k (by omega)
    refine ⟨X, ?_, h4⟩
    unfold dragomanref07_All.f
    rw [g2, Option.bind_some]
    exact h3
/-! ### Lengths -/
def gone : List S28 → Nat
  | [] => 0
  | x :: xs => (x.f1.toNat - x.f0.toNat) + gone xs
theorem gone_le (n : Nat) : ∀ (ys : List S28) (e : Nat), e ≤ n → Ord n e ys → e + gone ys ≤ n
  | [], e, he, _ => by simpa [gone] using he
  | x :: ys, e, he, ho => by
    obtain ⟨a, b, rfl, h1, h2, h3, h4⟩ := ho
    have := gone_le n ys b h3 h4
    rw [gone]
    simp only [Int.toNat_natCast]
    omega
/-- What is put in, of two texts: as much longer each time. -/
theorem rep_len (s : ByteArray) (l : List ByteArray) (m c : Nat) (hl : ∀ w : ByteArray, (joinL l w).length = c * w.size + m) (hc : c ≤ 1) : ∀ (ys : List S28) (e : Nat), e ≤ s.size → Ord s.size e ys → (rep s l e ys).length + (1 - c) * gone ys = (s.size - e) + ys.length * m
  | [], e, he, _ => by
    rw [rep, List.length_drop, data_length, gone]
    simp
  | x :: ys, e, he, ho => by
    obtain ⟨a, b, rfl, h1, h2, h3, h4⟩ := ho
    have ih := rep_len s l m c hl hc ys b h3 h4
    rw [rep, gone]
    simp only [Int.toNat_natCast, List.length_append, List.length_take, List.length_drop, List.length_cons, Nat.add_mul, Nat.one_mul]
    rw [hl, ext_size s a b h3, data_length, Nat.min_eq_left (by omega)]
    have hcc : c = 0 ∨ c = 1 := by omega
    rcases hcc with rfl | rfl
    · simp only [Nat.zero_mul, Nat.sub_zero, Nat.one_mul] at ih ⊢
      omega
    · simp only [Nat.one_mul, Nat.sub_self, Nat.zero_mul, Nat.add_zero] at ih ⊢
      omega
theorem Lengths_loop (x0 : List S55) (x1 x2 : ByteArray) (ys : List S28) (hs : x1.size ≤ 1000) (hw : x2.size ≤ 1000) (hy : ys.length ≤ 100000) (R : Nat → Int → Option Bool)
    (hR : ∀ k n, R k n = (subst_All.f k x0 x1 [x2]).bind fun bt145 => (subst_All.f k x0 x1 [⟨#[60]⟩, ⟨#[62]⟩]).bind fun bt150 => if true = true then (if (bt145.1.size : Int) = n then some ((bt150.1.size : Int) == (wrap64 ((x1.size : Int) + (wrap64 (2 * (ys.length : Int)))))) else some false) else some false) :
    ∀ (d i k e n : Nat), i + d = ys.length → d < k → e ≤ x1.size → Ord x1.size e (ys.drop i) → n + d * 1000 ≤ 1000000000 → gone (ys.drop i) ≤ n → ∃ k', k = k' + d + 1 ∧ dragomanlaw07_SubstLengths.l0 k x0 x1 x2 true ys (n : Int) (i : Int) = R k' ((n - gone (ys.drop i) + d * x2.size : Nat) : Int) := by
  intro d
  induction d with
  | zero =>
    intro i k e n hi hk he ho hb hg
    obtain ⟨k, rfl⟩ : ∃ m, k = m + 1 := ⟨k - 1, by omega⟩
    refine ⟨k, rfl, ?_⟩
    rw [hR]
    simp only [dragomanlaw07_SubstLengths.l0]
    rw [if_neg (by omega : ¬ (i : Int) < (ys.length : Int)), List.drop_eq_nil_of_le (by omega), gone, Nat.sub_zero, Nat.zero_mul, Nat.add_zero]
  | succ d ih =>
    intro i k e n hi hk he ho hb hg
    obtain ⟨k, rfl⟩ : ∃ m, k = m + 1 := ⟨k - 1, by omega⟩
    rw [rd28_cons ys i (by omega)] at ho hg ⊢
    obtain ⟨a, b, hx, h1, h2, h3, h4⟩ := ho
    rw [hx, gone] at hg ⊢
    simp only [Int.toNat_natCast] at hg ⊢
    have hxw : x2.size * d ≤ 1000 * d := Nat.mul_le_mul_right _ hw
    obtain ⟨k', hkk, hk2⟩ := ih (i + 1) k b (n - (b - a) + x2.size) (by omega) (by omega) h3 h4 (by omega) (by omega)
    refine ⟨k', by omega, ?_⟩
    simp only [dragomanlaw07_SubstLengths.l0]
    rw [if_pos (by omega : (i : Int) < (ys.length : Int)), if_pos (by omega : (0 : Int) ≤ (i : Int)), hx]
    dsimp only
    have q9 : (d + 1) * x2.size = d * x2.size + x2.size := by rw [Nat.add_mul, Nat.one_mul]
    have q8 : n - (b - a) + x2.size - gone (ys.drop (i + 1)) + d * x2.size = n - (b - a + gone (ys.drop (i + 1))) + (d + 1) * x2.size := by omega
    rw [wrap_up i (by omega), show wrap64 ((wrap64 ((n : Int) - (wrap64 ((b : Int) - (a : Int))))) + (x2.size : Int)) = ((n - (b - a) + x2.size : Nat) : Int) from by unfold wrap64; omega, hk2, q8]
theorem wrap_two (a n : Nat) (h : a ≤ 1000) (h2 : n ≤ 100000) : wrap64 ((a : Int) + (wrap64 (2 * (n : Int)))) = ((a + 2 * n : Nat) : Int) := by unfold wrap64; omega
theorem Pure.SubstLengths (l0 : List S55) (a1 : ByteArray) (a2 : ByteArray) (hok : ∀ x, x ∈ l0 → Ok55 x) (hb2 : a2.size ≤ 140737488351232) : ∃ k, dragomanlaw07_SubstLengths.f k l0 a1 a2 = some true := by
  obtain ⟨b, hb, hb'⟩ := few_spec l0 a1 [a2] (by simp only [tot, List.length_cons, List.length_nil]; omega)
  have hl1 : ([a2] : List ByteArray).length = 1 := rfl
  cases b with
  | false =>
    refine ⟨301, ?_⟩
    unfold dragomanlaw07_SubstLengths.f
    rw [shown_ok _ (by omega), Option.bind_some, hb _ (by rw [hl1]; omega), Option.bind_some, if_neg (by decide)]
  | true =>
    obtain ⟨h1, h2, h3, h4, h5⟩ := hb' rfl
    have h := Rt.of_few hok h1 h2 h3 h4
    obtain ⟨ys, hy, hc, hk, -⟩ := head_is h (by omega)
    simp only [tot, List.length_cons, List.length_nil] at h5
    have ho := hc.ord
    have hg := gone_le a1.size ys 0 (Nat.zero_le _) ho
    obtain ⟨K, hK⟩ : ∃ K, K = 400000 + ys.length + 1 := ⟨_, rfl⟩
    refine ⟨K, ?_⟩
    unfold dragomanlaw07_SubstLengths.f
    rw [shown_ok _ (by omega), Option.bind_some, hb _ (by rw [hl1]; omega), Option.bind_some, if_pos rfl, (hk K (by omega)).2, Option.bind_some]
    obtain ⟨k', hk', hfin⟩ := Lengths_loop l0 a1 a2 ys (by omega) (by omega) hy _ (fun k n => rfl) ys.length 0 K 0 a1.size (by omega) (by omega) (Nat.zero_le _) (by rw [List.drop_zero]; exact ho) (by omega) (by rw [List.drop_zero]; omega)
    have hk4 : 400000 ≤ k' := by omega
    rw [show ((0 : Nat) : Int) = 0 from rfl] at hfin
    rw [hfin]
    obtain ⟨e1, -⟩ := All_both (l2 := [a2]) (by omega) (by simp only [tot, List.length_cons, List.length_nil]; omega) hy hc hk k' hk4
    obtain ⟨e2, -⟩ := All_both (l2 := [(⟨#[60]⟩ : ByteArray), ⟨#[62]⟩]) (by omega) (by decide) hy hc hk k' hk4
    have r1 := rep_len a1 [a2] a2.size 0 (fun w => by rw [joinL_one, data_length]; omega) (by omega) ys 0 (Nat.zero_le _) ho
    have r2 := rep_len a1 [(⟨#[60]⟩ : ByteArray), ⟨#[62]⟩] 2 1 (fun w => by rw [joinL_cons, joinL_one, List.length_append, List.length_append, data_length w]; simp; omega) (by omega) ys 0 (Nat.zero_le _) ho
    have sz : ∀ L : List UInt8, (⟨L.toArray⟩ : ByteArray).size = L.length := fun L => by rw [← data_length]
    rw [e1, Option.bind_some, e2, Option.bind_some, if_pos rfl]
    dsimp only
    rw [sz (rep a1 [a2] 0 ys), sz (rep a1 [(⟨#[60]⟩ : ByteArray), ⟨#[62]⟩] 0 ys), List.drop_zero]
    have hm : ys.length * a2.size ≤ 100000 * 1000 := Nat.mul_le_mul hy (by omega)
    simp only [Nat.sub_zero, Nat.one_mul, Nat.sub_self, Nat.zero_mul, Nat.add_zero] at r1 r2
    generalize (rep a1 [a2] 0 ys).length = R1 at r1 ⊢
    generalize (rep a1 [(⟨#[60]⟩ : ByteArray), ⟨#[62]⟩] 0 ys).length = R2 at r2 ⊢
    generalize gone ys = G at hg r1 ⊢
    generalize ys.length * a2.size = M at hm r1 ⊢
    have q1 : (R1 : Int) = ((a1.size - G + M : Nat) : Int) := by omega
    have q2 : R2 = a1.size + 2 * ys.length := by omega
    rw [if_pos q1, q2, wrap_two a1.size ys.length (by omega) hy]
    simp
/-! ### Puts -/
theorem Pure.SubstLengthsS (l0 : List S55) (a1 : ByteArray) (a2 : ByteArray) (hok : ∀ x, x ∈ l0 → Ok55 x) (_ : a1.size ≤ 140737488351232) (hb2 : a2.size ≤ 140737488351232) : ∃ k, dragomanlaw07_SubstLengths.f k l0 a1 a2 = some true := Pure.SubstLengths l0 a1 a2 hok hb2
end Go.Proofs.Ythnfmpieoondaaa.P
