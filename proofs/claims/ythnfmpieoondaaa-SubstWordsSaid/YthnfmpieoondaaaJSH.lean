/- The law Words of Subst, in plain words. -/
import Derived.Test.YthnfmpieoondaaaJPC
import Derived.Test.YthnfmpieoondaaaJPE
set_option linter.unusedVariables false
set_option linter.unusedSimpArgs false
namespace Go.Proofs.Ythnfmpieoondaaa.P
open Go.RowKit Go.Proofs.YthnfmpieoondaaaW.PrintWords Go.Proofs.Ythnfmpieoondaaa.QA Go.Proofs.Ythnfmpieoondaaa.QB Go.Proofs.Ythnfmpieoondaaa.QC Go.Proofs.Ythnfmpieoondaaa.G Go.Proofs.Ythnfmpieoondaaa.Mt
/-- The spans, and that nothing stands between them. -/
def Gaps (l : List S55) (s : ByteArray) : Nat → List S28 → Prop
  | i, [] => ∀ a, i ≤ a → a ≤ s.size → ∀ j, j ≤ s.size → ¬ Stands l s a j
  | i, x :: xs => ∃ a b : Nat, x = ⟨(a : Int), (b : Int)⟩ ∧ i ≤ a ∧ a < b ∧ b ≤ s.size ∧ Stands l s a b ∧ (∀ a', i ≤ a' → a' < a → ∀ j, j ≤ s.size → ¬ Stands l s a' j) ∧ Gaps l s b xs
theorem Spans_gaps {l : List S55} {s : ByteArray} (h : Rt l s) (hne : ∀ a b, a ≤ s.size → b ≤ s.size → Stands l s a b → a < b) : ∀ (k : Nat) (last : Int) (i : Nat) (ys : List S28), spansL l s k last (i : Int) = some ys → Gaps l s i ys
  | 0, _, _, _, hx => by simp [spansL] at hx
  | k + 1, last, i, ys, hx => by
    unfold spansL at hx
    by_cases hi : (i : Int) ≤ (s.size : Int)
    · rw [if_pos hi] at hx
      obtain ⟨r, hr, hx⟩ := Option.bind_eq_some_iff.mp hx
      rcases Span_of h hr with ⟨a, b, rfl, h1, h2, h3, h4, h5, h6⟩ | ⟨rfl, h6⟩
      · have hab := hne a b h2 h3 h4
        rw [if_pos rfl] at hx
        dsimp only at hx
        rw [if_neg (by omega)] at hx
        obtain ⟨zs, hz1, rfl⟩ := Option.map_eq_some_iff.mp hx
        exact ⟨a, b, rfl, h1, hab, h3, h4, h6, Spans_gaps h hne k (b : Int) b zs hz1⟩
      · rw [if_neg (by decide)] at hx
        obtain rfl := Option.some.inj hx
        exact h6
    · rw [if_neg hi] at hx
      obtain rfl := Option.some.inj hx
      intro a h1 h2; omega
/-- All spans of a tree whose finds are never empty. -/
theorem gaps_is {l : List S55} {s : ByteArray} (h : Rt l s) (hs : s.size ≤ 1000) (hne : ∀ a b, a ≤ s.size → b ≤ s.size → Stands l s a b → a < b) : ∃ ys : List S28, ys.length ≤ 100000 ∧ Gaps l s 0 ys ∧ ∀ k, 1300000 ≤ k → match_Spans.f k l s = some ys := by
  obtain ⟨ys, hy, hk⟩ := Spans_both h
  have hks : KS s + 2 * s.size + 10 ≤ 1300000 := by
    unfold KS
    have : (s.size + 1) * (s.size + 4) ≤ 1001 * 1004 := Nat.mul_le_mul (by omega) (by omega)
    omega
  have g1 := (hk 1300001 (by omega)).1
  unfold match_Spans.f at g1
  obtain ⟨zs, hzs, g1'⟩ := Option.bind_eq_some_iff.mp g1
  by_cases hzl : zs.length ≤ 1000000
  · rw [if_pos hzl] at g1'
    obtain rfl := Option.some.inj g1'
    exact ⟨zs, hy, Spans_gaps h hne 1300001 (-1) 0 zs hzs, fun k hk' => (hk k (by omega)).1⟩
  · rw [if_neg hzl] at g1'; cases g1'
theorem Gaps.ord {l : List S55} {s : ByteArray} : ∀ {e : Nat} {ys : List S28}, Gaps l s e ys → Ord s.size e ys
  | _, [], _ => trivial
  | e, _ :: xs, ⟨a, b, hx, h1, h2, h3, _, _, h6⟩ => ⟨a, b, hx, h1, by omega, h3, h6.ord⟩
theorem gaps_none {l : List S55} {s : ByteArray} (hn : ∀ a j, a ≤ s.size → j ≤ s.size → ¬ Stands l s a j) : ∀ {e : Nat} {ys : List S28}, Gaps l s e ys → ys = []
  | _, [], _ => rfl
  | e, _ :: xs, ⟨a, b, hx, h1, h2, h3, h4, _, _⟩ => absurd h4 (hn a b (by omega) h3)
/-! ### Occurrences in lists of bytes -/
/-- W stands in L at a place. -/
def At (W L : List UInt8) (p : Nat) : Prop := p + W.length ≤ L.length ∧ (L.drop p).take W.length = W
theorem at_byte {W L : List UInt8} {p : Nat} (h : At W L p) (i : Nat) (hi : i < W.length) : L[p + i]? = W[i]? := by
  have := congrArg (fun X => X[i]?) h.2
  simp only [List.getElem?_take, hi, if_true, List.getElem?_drop] at this
  exact this
theorem at_of {W L : List UInt8} {p : Nat} (h1 : p + W.length ≤ L.length) (h : ∀ i, i < W.length → L[p + i]? = W[i]?) : At W L p := by
  refine ⟨h1, List.ext_getElem? fun i => ?_⟩
  rw [List.getElem?_take]
  by_cases hi : i < W.length
  · rw [if_pos hi, List.getElem?_drop]; exact h i hi
  · rw [if_neg hi, List.getElem?_eq_none (by omega)]
/-- In a row of pieces with Y between them, of which no byte is W's, W stands within a piece. -/
theorem at_sep {W A Y R : List UInt8} (hW : 0 < W.length) (hY : 0 < Y.length) (hd : ∀ y, y ∈ Y → y ∉ W) {p : Nat} (h : At W (A ++ (Y ++ R)) p) : At W A p ∨ ∃ q, p = A.length + Y.length + q ∧ At W R q := by
  have hl := h.1
  rw [List.length_append, List.length_append] at hl
  have no : ∀ i, i < W.length → ¬ (A.length ≤ p + i ∧ p + i < A.length + Y.length) := fun i hi ⟨h1, h2⟩ => by
    have e := at_byte h i hi
    rw [List.getElem?_append_right h1, List.getElem?_append_left (by omega), List.getElem?_eq_getElem (by omega), List.getElem?_eq_getElem hi] at e
    have e := Option.some.inj e
    have hm : Y[p + i - A.length]'(by omega) ∈ Y := List.getElem_mem _
    exact hd _ hm (by rw [e]; exact List.getElem_mem _)
  by_cases c : p < A.length
  · left
    have hend : p + W.length ≤ A.length := by
      rcases Nat.lt_or_ge A.length (p + W.length) with g | g
      · exact absurd ⟨by omega, by omega⟩ (no (A.length - p) (by omega))
      · exact g
    refine at_of hend fun i hi => ?_
    have e := at_byte h i hi
    rwa [List.getElem?_append_left (by omega)] at e
  · right
    have h0 := no 0 hW
    refine ⟨p - (A.length + Y.length), by omega, at_of (by omega) fun i hi => ?_⟩
    have e := at_byte h i hi
    rw [List.getElem?_append_right (by omega), List.getElem?_append_right (by omega)] at e
    rw [show p - (A.length + Y.length) + i = p + i - A.length - Y.length by omega]
    exact e
theorem stands_at {w x : ByteArray} (hw : w.size ≤ 25) (hb : (2 * w.size + 1) * (x.size + 1) ≤ 10000) (a b : Nat) (ha : a ≤ x.size) : Stands (litT w w.size) x a b ↔ b = a + w.size ∧ At w.data.toList x.data.toList a := by
  rw [lit_stands w x hw hb w.size (Nat.le_refl _) a b ha]
  have lw := data_length w
  have lx := data_length x
  constructor
  · rintro ⟨h1, h2, h3⟩
    refine ⟨h1, by omega, ?_⟩
    rw [lw, (occ_iff x w a w.size (by omega) (Nat.le_refl _)).1 h3, List.take_of_length_le (by omega)]
  · rintro ⟨h1, h2, h3⟩
    refine ⟨h1, by omega, (occ_iff x w a w.size (by omega) (Nat.le_refl _)).2 ?_⟩
    rw [lw] at h3
    rw [h3, List.take_of_length_le (by omega)]
/-- After all is replaced, the word stands nowhere. -/
theorem rep_none {w y s : ByteArray} (hw0 : 0 < w.size) (hw : w.size ≤ 25) (hb : (2 * w.size + 1) * (s.size + 1) ≤ 10000) (hy : 0 < y.size) (hd : ∀ c, c ∈ y.data.toList → c ∉ w.data.toList) : ∀ (ys : List S28) (e : Nat), e ≤ s.size → Gaps (litT w w.size) s e ys → ∀ p, ¬ At w.data.toList (rep s [y] e ys) p
  | [], e, he, hg, p, hp => by
    have hp' : At w.data.toList s.data.toList (e + p) := by
      have h1 := hp.1; have h2 := hp.2
      simp only [rep, List.length_drop, data_length, List.drop_drop] at h1 h2
      exact ⟨by rw [data_length, data_length]; omega, h2⟩
    have hl := hp'.1
    rw [data_length, data_length] at hl
    exact hg (e + p) (by omega) (by omega) (e + p + w.size) hl ((stands_at hw hb _ _ (by omega)).2 ⟨rfl, hp'⟩)
  | _ :: xs, e, he, ⟨a, b, rfl, h1, h2, h3, h4, h5, h6⟩, p, hp => by
    have hr : rep s [y] e (⟨(a : Int), (b : Int)⟩ :: xs) = (s.data.toList.drop e).take (a - e) ++ (y.data.toList ++ rep s [y] b xs) := by
      simp only [rep, joinL_one, Int.toNat_natCast, List.append_assoc]
    rw [hr] at hp
    have lw := data_length w
    rcases at_sep (by omega) (by rw [data_length]; exact hy) hd hp with hA | ⟨q, -, hq⟩
    · have hl := hA.1
      simp only [List.length_take, List.length_drop, data_length] at hl
      have hp' : At w.data.toList s.data.toList (e + p) := by
        refine at_of (by simp only [data_length]; omega) fun i hi => ?_
        have := at_byte hA i hi
        rw [List.getElem?_take, if_pos (by omega), List.getElem?_drop] at this
        rw [← this, Nat.add_assoc]
      exact h5 (e + p) (by omega) (by omega) (e + p + w.size) (by omega) ((stands_at hw hb _ _ (by omega)).2 ⟨rfl, hp'⟩)
    · exact rep_none hw0 hw hb hy hd xs b h3 h6 q hq
/-- All is replaced: how long it is. -/
theorem rep_size {w y s : ByteArray} (hw : w.size ≤ 25) (hw0 : 0 < w.size) (hb : (2 * w.size + 1) * (s.size + 1) ≤ 10000) : ∀ (ys : List S28) (e : Nat), e ≤ s.size → Gaps (litT w w.size) s e ys → (rep s [y] e ys).length + ys.length * w.size = (s.size - e) + ys.length * y.size ∧ ys.length * w.size ≤ s.size - e
  | [], e, he, _ => by
    rw [show rep s [y] e [] = s.data.toList.drop e from rfl, List.length_drop, data_length, List.length_nil, Nat.zero_mul, Nat.zero_mul]
    exact ⟨rfl, Nat.zero_le _⟩
  | _ :: xs, e, he, ⟨a, b, rfl, h1, h2, h3, h4, h5, h6⟩ => by
    obtain ⟨hab, -⟩ := (stands_at hw hb a b (by omega)).1 h4
    obtain ⟨i1, i2⟩ := rep_size (y := y) hw hw0 hb xs b h3 h6
    simp only [rep, joinL_one, Int.toNat_natCast, List.length_append, List.length_take, List.length_drop, data_length, List.length_cons, Nat.succ_mul]
    omega
theorem Words_l1 (x0 w y : ByteArray) (hw : w.size ≤ 10) (j : Nat) (hj : j < y.size) (R : Nat → Option Bool) : ∀ (d i k : Nat), i + d = w.size → d < k → (∃ c, bt y (j : Int) = bt w (c : Int) ∧ i ≤ c ∧ c < w.size) ∧ dragomanlaw07_SubstWords.l1 k x0 w y true (j : Int) (i : Int) = some true ∨
    (∀ c : Nat, i ≤ c → c < w.size → bt y (j : Int) ≠ bt w (c : Int)) ∧ dragomanlaw07_SubstWords.l1 k x0 w y true (j : Int) (i : Int) = dragomanlaw07_SubstWords.l0 (k - 1 - d) x0 w y true (wrap64 ((j : Int) + 1)) := by
  intro d
  induction d with
  | zero =>
    intro i k hi hk
    obtain ⟨k, rfl⟩ : ∃ m, k = m + 1 := ⟨k - 1, by omega⟩
    refine .inr ⟨fun c h1 h2 => by omega, ?_⟩
    rw [dragomanlaw07_SubstWords.l1, if_neg (by omega)]
    rfl
  | succ d ih =>
    intro i k hi hk
    obtain ⟨k, rfl⟩ : ∃ m, k = m + 1 := ⟨k - 1, by omega⟩
    rw [dragomanlaw07_SubstWords.l1, if_pos (by omega), if_pos (by omega), if_pos (by omega), if_pos (by omega)]
    by_cases c : bt y (j : Int) = bt w (i : Int)
    · exact .inl ⟨⟨(i : Int), c, by omega, by omega⟩, by rw [if_pos c]⟩
    · rw [if_neg c, wrap_up i (by omega)]
      rcases ih (i + 1) k (by omega) (by omega) with ⟨⟨c', h1, h2, h3⟩, h4⟩ | ⟨h1, h2⟩
      · exact .inl ⟨⟨c', h1, by omega, h3⟩, h4⟩
      · refine .inr ⟨fun c' g1 g2 => ?_, by rw [h2]; congr 1; omega⟩
        rcases Nat.lt_or_ge i c' with g | g
        · exact h1 c' (by omega) g2
        · rw [show c' = i by omega]; exact c
theorem Words_l0 (x0 w y : ByteArray) (hw : w.size ≤ 10) (hy : y.size ≤ 10) : ∀ (d j k : Nat), j + d = y.size → 14 * d + 2000000 ≤ k → dragomanlaw07_SubstWords.l0 k x0 w y true (j : Int) = some true ∨
    (∀ b c : Nat, j ≤ b → b < y.size → c < w.size → bt y (b : Int) ≠ bt w (c : Int)) ∧ ∃ k', 2000000 ≤ k' ∧ dragomanlaw07_SubstWords.l0 k x0 w y true (j : Int) = dragomanlaw07_SubstWords.l0 k' x0 w y true (y.size : Int) := by
  intro d
  induction d with
  | zero =>
    intro j k hj hk
    exact .inr ⟨fun b c h1 h2 => by omega, k, by omega, by rw [show j = y.size by omega]⟩
  | succ d ih =>
    intro j k hj hk
    obtain ⟨k, rfl⟩ : ∃ m, k = m + 1 := ⟨k - 1, by omega⟩
    rw [dragomanlaw07_SubstWords.l0, if_pos (by omega)]
    rcases Words_l1 x0 w y hw j (by omega) (fun _ => none) w.size 0 k (by omega) (by omega) with ⟨-, h⟩ | ⟨h1, h2⟩
    · exact .inl h
    · rw [show ((0 : Nat) : Int) = 0 from rfl] at h2
      rw [h2, wrap_up j (by omega)]
      rcases ih (j + 1) (k - 1 - w.size) (by omega) (by omega) with h | ⟨g1, k', g2, g3⟩
      · exact .inl h
      · refine .inr ⟨fun b c q1 q2 q3 => ?_, k', g2, g3⟩
        rcases Nat.lt_or_ge j b with g | g
        · exact g1 b c (by omega) q2 q3
        · rw [show b = j by omega]; exact h1 c (Nat.zero_le _) q3
theorem All_g {l : List S55} {s y : ByteArray} {ys : List S28} (hs : s.size ≤ 1000) (hy : y.size ≤ 10) (hl : ys.length ≤ 100000) (ho : Ord s.size 0 ys) (hk : ∀ k, 1300000 ≤ k → match_Spans.f k l s = some ys) (k : Nat) (hk' : 1300000 ≤ k) : subst_All.f k l s [y] = some (⟨(rep s [y] 0 ys).toArray⟩, (ys.length : Int)) := by
  have hd : ys.length * (3000 + s.size) ≤ 100000 * (3000 + 1000) := Nat.mul_le_mul hl (by omega)
  have := replaced_loop s [y] ys (by simp) (by omega) (by omega) 3000 (by simp only [tot, List.length_cons, List.length_nil]; omega) ys.length 0 k 0 [] (by omega) (by omega) (Nat.zero_le _) ho (by simp only [List.length_nil]; omega)
  rw [show ((0 : Nat) : Int) = 0 from rfl, List.drop_zero, List.nil_append] at this
  unfold subst_All.f subst_replaced.f
  rw [hk k hk', Option.bind_some, this, Option.bind_some, Option.bind_some]
theorem wrap_words (s m y w L M1 M2 : Nat) (hs : s ≤ 60) (h1 : m * y = M1) (h2 : m * w = M2) (hM2 : M2 ≤ 60) (hM1 : M1 ≤ 600) (hy : y ≤ 10) (hw : w ≤ 10) (hL : L + M2 = s + M1) : ((L : Int) == wrap64 ((s : Int) + (wrap64 ((m : Int) * (wrap64 ((y : Int) - (w : Int))))))) = true := by
  have e1 : wrap64 ((y : Int) - (w : Int)) = (y : Int) - (w : Int) := by unfold wrap64; omega
  rw [e1, Int.mul_sub, ← Int.natCast_mul, ← Int.natCast_mul, h1, h2, beq_iff_eq]
  clear h1 h2 e1
  have e2 : wrap64 ((M1 : Int) - (M2 : Int)) = (M1 : Int) - (M2 : Int) := by unfold wrap64; omega
  rw [e2]
  clear e2
  unfold wrap64; omega
theorem Pure.SubstWords (a0 a1 a2 : ByteArray) (_ : a0.size ≤ 140737488351232) (_ : a1.size ≤ 140737488351232) (_ : a2.size ≤ 140737488351232) : ∃ k, dragomanlaw07_SubstWords.f k a0 a1 a2 = some true := by
  have hj : ∀ k, 1 ≤ k → dragomanlaw07_SubstWords.j0 k a0 a1 a2 true true = some true := fun k hk => by
    obtain ⟨k, rfl⟩ : ∃ m, k = m + 1 := ⟨k - 1, by omega⟩
    rw [dragomanlaw07_SubstWords.j0, if_pos rfl]
  obtain ⟨K, hK⟩ : ∃ K, K = 3000000 := ⟨_, rfl⟩
  refine ⟨K + 1, ?_⟩
  unfold dragomanlaw07_SubstWords.f
  rw [shown_ok _ (by omega), Option.bind_some]
  by_cases c0 : (a0.size : Int) > 60
  · rw [if_pos c0]; exact hj _ (by omega)
  rw [if_neg c0]
  by_cases c1 : (a1.size : Int) > 10
  · rw [if_pos c1]; exact hj _ (by omega)
  rw [if_neg c1]
  by_cases c2 : (a1.size : Int) = 0
  · rw [if_pos c2]; exact hj _ (by omega)
  rw [if_neg c2]
  by_cases c3 : (a2.size : Int) > 10
  · rw [decide_eq_true c3]; exact hj _ (by omega)
  rw [decide_eq_false c3, dragomanlaw07_SubstWords.j0, if_neg (by decide)]
  have h0 := Words_l0 a0 a1 a2 (by omega) (by omega) a2.size 0 K (by omega) (by omega)
  rw [show ((0 : Nat) : Int) = 0 from rfl] at h0
  rcases h0 with h | ⟨hd, k', hk', h⟩
  · exact h
  rw [h]
  obtain ⟨k', rfl⟩ : ∃ m, k' = m + 1 := ⟨k' - 1, by omega⟩
  rw [dragomanlaw07_SubstWords.l0, if_neg (by omega)]
  by_cases c4 : (a2.size : Int) = 0
  · rw [if_pos c4]
  rw [if_neg c4, Lit_is a1 (by omega) _ (by omega), Option.bind_some]
  have hb : (2 * a1.size + 1) * (a0.size + 1) ≤ 10000 := Nat.le_trans (Nat.mul_le_mul (show 2 * a1.size + 1 ≤ 21 by omega) (show a0.size + 1 ≤ 61 by omega)) (by decide)
  have hdis : ∀ c, c ∈ a2.data.toList → c ∉ a1.data.toList := fun c h1 h2 => by
    obtain ⟨i, hi, rfl⟩ := List.getElem_of_mem h1
    obtain ⟨j, hj', he⟩ := List.getElem_of_mem h2
    rw [data_length] at hi hj'
    have g := hd i j (Nat.zero_le _) hi hj'
    rw [bt_sb, bt_sb, sb_get a2 i (by rw [data_length]; exact hi), sb_get a1 j (by rw [data_length]; exact hj'), he] at g
    exact g rfl
  have hne : ∀ x : ByteArray, (2 * a1.size + 1) * (x.size + 1) ≤ 10000 → ∀ a b, a ≤ x.size → b ≤ x.size → Stands (litT a1 a1.size) x a b → a < b := fun x hx a b ha _ hst => by
    have := ((stands_at (by omega) hx a b ha).1 hst).1; omega
  obtain ⟨ys, hyl, hg, hsp⟩ := gaps_is (lit_Rt a1 a0 a1.size (by omega) (Nat.le_refl _) hb) (by omega) (hne a0 hb)
  have eA := All_g (y := a2) (by omega) (by omega) hyl hg.ord hsp k' (by omega)
  have hr := rep_size (y := a2) (by omega) (by omega) hb ys 0 (Nat.zero_le _) hg
  have hnone := rep_none (y := a2) (by omega) (by omega) hb (by omega) hdis ys 0 (Nat.zero_le _) hg
  have hsz : (⟨(rep a0 [a2] 0 ys).toArray⟩ : ByteArray).size = (rep a0 [a2] 0 ys).length := by rw [← data_length]
  have hdt : (⟨(rep a0 [a2] 0 ys).toArray⟩ : ByteArray).data.toList = rep a0 [a2] 0 ys := by simp
  have hm : ys.length * a2.size ≤ ys.length * 10 := Nat.mul_le_mul_left _ (by omega)
  have hm1 : ys.length * 1 ≤ ys.length * a1.size := Nat.mul_le_mul_left _ (by omega)
  have hb2 : (2 * a1.size + 1) * ((rep a0 [a2] 0 ys).length + 1) ≤ 10000 := by
    have hcase : a1.size = 1 ∨ a1.size = 2 ∨ a1.size = 3 ∨ a1.size = 4 ∨ a1.size = 5 ∨ a1.size = 6 ∨ a1.size = 7 ∨ a1.size = 8 ∨ a1.size = 9 ∨ a1.size = 10 := by omega
    generalize ys.length * a2.size = M at hr hm
    generalize (rep a0 [a2] 0 ys).length = L at hr ⊢
    generalize ys.length = m at hr hm
    clear hnone hdt hsz eA hsp hg hne hdis hd h
    rcases hcase with e | e | e | e | e | e | e | e | e | e <;> rw [e] at hr ⊢ <;> omega
  rw [eA, Option.bind_some]
  dsimp only
  generalize hX : (⟨(rep a0 [a2] 0 ys).toArray⟩ : ByteArray) = X at hsz hdt ⊢
  rw [← hsz] at hb2 hr
  rw [← hdt] at hnone
  obtain ⟨zs, hzl, hg2, hsp2⟩ := gaps_is (lit_Rt a1 X a1.size (by omega) (Nat.le_refl _) hb2) (by
    have : 3 * (X.size + 1) ≤ (2 * a1.size + 1) * (X.size + 1) := Nat.mul_le_mul (by omega) (Nat.le_refl _)
    omega) (hne X hb2)
  obtain rfl := gaps_none (fun a j ha hj' hst => hnone a ((stands_at (by omega) hb2 a j ha).1 hst).2) hg2
  have hX3 : 3 * (X.size + 1) ≤ (2 * a1.size + 1) * (X.size + 1) := Nat.mul_le_mul (by omega) (Nat.le_refl _)
  have eB := All_g (y := a2) (l := litT a1 a1.size) (s := X) (ys := []) (by omega) (by omega) (by simp) trivial hsp2 k' (by omega)
  rw [eB, Option.bind_some, if_pos rfl]
  dsimp only
  rw [if_pos (show ((([] : List S28).length : Nat) : Int) = 0 from rfl)]
  congr 1
  exact wrap_words a0.size ys.length a2.size a1.size X.size _ _ (by omega) rfl rfl (by omega) (by omega) (by omega) (by omega) (by omega)
end Go.Proofs.Ythnfmpieoondaaa.P
