/- The laws Texts and Back of Subst, in plain words. -/
import Derived.Test.YthnfmpieoondaaaKPD
set_option linter.unusedVariables false
set_option linter.unusedSimpArgs false
namespace Go.Proofs.Ythnfmpieoondaaa.P
open Go.RowKit Go.Proofs.YthnfmpieoondaaaW.PrintWords Go.Proofs.Ythnfmpieoondaaa.QA Go.Proofs.Ythnfmpieoondaaa.QB Go.Proofs.Ythnfmpieoondaaa.QC Go.Proofs.Ythnfmpieoondaaa.G Go.Proofs.Ythnfmpieoondaaa.Mt
theorem str_one (c : UInt8) : strOfNums [(c.toNat : Int)] = B [c] := by simp [strOfNums, B]
theorem hx_fin : ∀ n : Fin 16, dgv (hx n.val).toNat = (n.val : Int) := by decide +kernel
theorem hx_at (n : Nat) (h : n < 16) : dgv (hx n).toNat = (n : Int) := hx_fin ⟨n, h⟩
theorem read_pl (c : UInt8) (rest : List UInt8) (init : List ByteArray) (last : ByteArray) (hi : init.length ≤ 100000) (hl : last.size ≤ 1000000) (k : Nat) (hk : 30 ≤ k) : subst_Read.l0 (k + 1) (B (pl c ++ rest)) init last = subst_Read.l0 k (B rest) init (last ++ B [c]) := by
  unfold pl
  by_cases cw : c.toNat = 32 ∨ c.toNat = 95 ∨ (48 ≤ c.toNat ∧ c.toNat ≤ 57) ∨ (65 ≤ c.toNat ∧ c.toNat ≤ 90) ∨ (97 ≤ c.toNat ∧ c.toNat ≤ 122)
  · rw [if_pos cw, List.singleton_append, read_step _ (by rw [B_size]; simp) init last hi hl k hk, B_bt0, if_neg (by omega), if_neg (by omega), if_pos (by omega), B_ext, List.drop_succ_cons, List.drop_zero, str_one]
  · rw [if_neg cw]
    generalize hs : [92, 120, hx (c.toNat / 16), hx (c.toNat % 16)] ++ rest = S
    have hz : (B S).size = 4 + rest.length := by rw [B_size, ← hs]; simp; omega
    have b0 : bt (B S) 0 = 92 := by rw [show (0 : Int) = ((0 : Nat) : Int) from rfl, B_bt, ← hs]; simp
    have b1 : bt (B S) 1 = 120 := by rw [show (1 : Int) = ((1 : Nat) : Int) from rfl, B_bt, ← hs]; simp
    have b2 : bt (B S) 2 = (hx (c.toNat / 16)).toNat := by rw [show (2 : Int) = ((2 : Nat) : Int) from rfl, B_bt, ← hs]; simp
    have b3 : bt (B S) 3 = (hx (c.toNat % 16)).toNat := by rw [show (3 : Int) = ((3 : Nat) : Int) from rfl, B_bt, ← hs]; simp
    have hlt := c.toNat_lt
    have d2 := hx_at (c.toNat / 16) (by omega)
    have d3 := hx_at (c.toNat % 16) (by omega)
    have hg : sgn (B S) = ((c.toNat : Int), 4, 0) := by
      unfold sgn
      rw [if_neg (by omega), b1, if_neg (by decide), b2, b3, Int.toNat_natCast, Int.toNat_natCast, d2, d3, if_neg (by omega)]
      congr 1
      omega
    rw [read_step _ (by omega) init last hi hl k hk, if_neg (by rw [b0]; decide), if_neg (by rw [b1]; rintro ⟨-, -, h⟩; exact absurd h (by decide)), if_neg (by rw [b0]; rintro ⟨h, -⟩; exact h rfl), hg, if_neg (by rw [b0]; simp), B_ext, str_one]
    congr 2
    rw [← hs]; rfl
theorem read_pls : ∀ (L rest : List UInt8) (init : List ByteArray) (last : ByteArray), init.length ≤ 100000 → last.size + L.length ≤ 1000000 → ∀ k, 30 ≤ k → subst_Read.l0 (k + L.length) (B (pls L ++ rest)) init last = subst_Read.l0 k (B rest) init (last ++ B L) := by
  intro L
  induction L with
  | nil =>
    intro rest init last hi hl k hk
    rw [← B_of last, B_app, List.append_nil]; rfl
  | cons c L ih =>
    intro rest init last hi hl k hk
    rw [List.length_cons] at hl ⊢
    rw [← Nat.add_assoc, show pls (c :: L) ++ rest = pl c ++ (pls L ++ rest) from by simp [pls], read_pl c _ init last hi (by omega) _ (by omega), ih rest init _ hi (by rw [ByteArray.size_append, B_size]; simp; omega) k hk]
    congr 1
    rw [← B_of last, B_app, B_app, B_app, List.append_assoc]; rfl
theorem read_rest : ∀ (l : List ByteArray) (x : ByteArray) (init : List ByteArray), init.length + l.length ≤ 100000 → x.size + tot l ≤ 1000000 → ∀ k, 31 + x.size + tot l + l.length ≤ k → subst_Read.l0 k (B (pls x.data.toList ++ jt amp (wr l))) init ⟨#[]⟩ = some (init ++ x :: l, 0) := by
  intro l
  have hE : (⟨#[]⟩ : ByteArray) = B [] := rfl
  induction l with
  | nil =>
    intro x init hi hx k hk
    have hd := data_length x
    simp only [tot, List.length_nil] at *
    obtain ⟨k, rfl⟩ : ∃ m, k = m + 1 + x.data.toList.length := ⟨k - 1 - x.size, by omega⟩
    rw [read_pls _ _ _ _ (by omega) (by rw [hE, B_size, hd]; simp; omega) _ (by omega), subst_Read.l0, if_pos (by rw [toList_data, B_data]; rfl), hE, B_app, List.nil_append, B_of]
  | cons y l ih =>
    intro x init hi hx k hk
    have hd := data_length x
    simp only [tot, List.length_cons] at *
    obtain ⟨k, rfl⟩ : ∃ m, k = m + 1 + x.data.toList.length := ⟨k - 1 - x.size, by omega⟩
    rw [read_pls _ _ _ _ (by omega) (by rw [hE, B_size, hd]; simp; omega) _ (by omega)]
    have hj : jt amp (wr (y :: l)) = 38 :: (pls y.data.toList ++ jt amp (wr l)) := by
      show amp.data.toList ++ (B (pls y.data.toList)).data.toList ++ jt amp (wr l) = _
      rw [B_data]; rfl
    rw [hj, read_step _ (by rw [B_size]; simp) init _ (by omega) (by rw [hE, B_app, List.nil_append, B_of]; omega) _ (by omega), B_bt0, if_pos (show ((UInt8.toNat 38 : Nat) : Int) = 38 from rfl), B_ext, List.drop_succ_cons, List.drop_zero, ih y _ (by rw [List.length_append, List.length_singleton]; omega) (by omega) _ (by omega), hE, B_app, List.nil_append, B_of, List.append_assoc]
    rfl
theorem read_txt (x : ByteArray) (l : List ByteArray) (hi : l.length ≤ 100000) (hx : x.size + tot l ≤ 1000000) (k : Nat) (hk : 31 + x.size + tot l + l.length ≤ k) : subst_Read.f k (B (txt (x :: l))) = some (x :: l, 0) := by
  unfold subst_Read.f
  rw [show txt (x :: l) = pls x.data.toList ++ jt amp (wr l) from by rw [txt, show wr (x :: l) = B (pls x.data.toList) :: wr l from rfl, joinL_jt, B_data]]
  rw [read_rest l x [] (by simpa using hi) hx k hk, List.nil_append]
/-! ### What is written bears no operator -/
def okb (b : UInt8) : Bool := b.toNat != 47 && b.toNat != 10 && b.toNat != 39
set_option maxRecDepth 100000 in
theorem pl_ok_fin : ∀ n : Fin 256, (pl (UInt8.ofNat n.val)).all okb = true := by decide +kernel
theorem pl_ok (c : UInt8) : (pl c).all okb = true := by
  have h := pl_ok_fin ⟨c.toNat, c.toNat_lt⟩
  dsimp only at h
  rwa [UInt8.ofNat_toNat] at h
theorem pls_ok (L : List UInt8) : (pls L).all okb = true := by
  induction L with
  | nil => rfl
  | cons c L ih => rw [show pls (c :: L) = pl c ++ pls L from by simp [pls], List.all_append, pl_ok, ih]; rfl
theorem jt_ok (l : List ByteArray) : (jt amp (wr l)).all okb = true := by
  induction l with
  | nil => rfl
  | cons y l ih =>
    rw [show jt amp (wr (y :: l)) = 38 :: (pls y.data.toList ++ jt amp (wr l)) from by
      show amp.data.toList ++ (B (pls y.data.toList)).data.toList ++ jt amp (wr l) = _
      rw [B_data]; rfl]
    rw [List.all_cons, List.all_append, pls_ok, ih]; rfl
theorem txt_ok (x : ByteArray) (l : List ByteArray) : (txt (x :: l)).all okb = true := by
  rw [show txt (x :: l) = pls x.data.toList ++ jt amp (wr l) from by rw [txt, show wr (x :: l) = B (pls x.data.toList) :: wr l from rfl, joinL_jt, B_data], List.all_append, pls_ok, jt_ok]; rfl
theorem Same_loop (l : List ByteArray) (hl : l.length ≤ 4611686018427387904) : ∀ (d i k : Nat), i + d = l.length → d < k → dragomanref07_Same.l0 k l l (i : Int) = some true := by
  intro d
  induction d with
  | zero =>
    intro i k hi hk
    obtain ⟨k, rfl⟩ : ∃ m, k = m + 1 := ⟨k - 1, by omega⟩
    rw [dragomanref07_Same.l0, if_neg (by omega)]
  | succ d ih =>
    intro i k hi hk
    obtain ⟨k, rfl⟩ : ∃ m, k = m + 1 := ⟨k - 1, by omega⟩
    rw [dragomanref07_Same.l0, if_pos (by omega), if_pos (by omega), if_pos (by omega), if_pos rfl, wrap_up i (by omega)]
    exact ih (i + 1) k (by omega) (by omega)
theorem Same_is (l : List ByteArray) (hl : l.length ≤ 4611686018427387904) (k : Nat) (hk : l.length < k) : dragomanref07_Same.f k l l = some true := by
  unfold dragomanref07_Same.f
  rw [if_pos rfl]
  exact Same_loop l hl l.length 0 k (by omega) hk
theorem Back_loop (x0 : List ByteArray) (T : List UInt8) (hT : T.all okb = true) (hn : T.length ≤ 1000000) (h0 : x0.length ≤ 100000) : ∀ (d i k : Nat), i + d = T.length → d + x0.length + 2 ≤ k → dragomanlaw07_SubstBack.l0 k x0 true (B T) x0 0 (i : Int) = some true := by
  intro d
  induction d with
  | zero =>
    intro i k hi hk
    obtain ⟨k, rfl⟩ : ∃ m, k = m + 1 := ⟨k - 1, by omega⟩
    rw [dragomanlaw07_SubstBack.l0, if_neg (by rw [B_size]; omega), if_pos rfl, if_pos rfl, Same_is x0 (by omega) k (by omega), Option.bind_some]
  | succ d ih =>
    intro i k hi hk
    obtain ⟨k, rfl⟩ : ∃ m, k = m + 1 := ⟨k - 1, by omega⟩
    have hb : bt (B T) (i : Int) = (T[i]'(by omega)).toNat := by rw [B_bt, dif_pos (by omega)]
    have ho : okb (T[i]'(by omega)) = true := List.all_eq_true.1 hT _ (List.getElem_mem _)
    simp only [okb, Bool.and_eq_true, bne_iff_ne, ne_eq] at ho
    rw [dragomanlaw07_SubstBack.l0, if_pos (by rw [B_size]; omega), if_pos (by omega), hb, if_neg (by omega), if_neg (by omega), if_neg (by omega), wrap_up i (by omega)]
    exact ih (i + 1) k (by omega) (by omega)
theorem Pure.SubstBackU (l0 : List ByteArray) (hb : l0.length + tot l0 ≤ 1048576) : ∃ k, dragomanlaw07_SubstBack.f k l0 = some true := by
  have hj : ∀ k, 1 ≤ k → dragomanlaw07_SubstBack.j0 k l0 true true = some true := fun k hk => by
    obtain ⟨k, rfl⟩ : ∃ m, k = m + 1 := ⟨k - 1, by omega⟩
    rw [dragomanlaw07_SubstBack.j0, if_pos rfl]
  by_cases c1 : l0.length + tot l0 > 1000
  · refine ⟨1048877, ?_⟩
    unfold dragomanlaw07_SubstBack.f
    rw [shown_ok _ (by omega), Option.bind_some, Long_is l0 (by omega) _ (by omega), Option.bind_some, if_pos (by omega)]
    exact hj _ (by omega)
  cases l0 with
  | nil =>
    refine ⟨400, ?_⟩
    unfold dragomanlaw07_SubstBack.f
    rw [shown_ok _ (by omega), Option.bind_some, Long_is [] (by omega) _ (by simp), Option.bind_some, if_neg (by omega)]
    exact hj _ (by omega)
  | cons x l =>
    have ht := txt_len (x :: l)
    have hok := txt_ok x l
    have hr := fun k hk => read_txt x l (by simp only [List.length_cons] at c1; omega) (by simp only [List.length_cons, tot] at c1; omega) k hk
    have htx := fun k hk => Text_is (x :: l) hb k hk
    have hlong := fun k hk => Long_is (x :: l) (by omega) k hk
    have hl := fun k => Back_loop (x :: l) (txt (x :: l)) hok (by omega) (by omega) (txt (x :: l)).length 0 k (by omega)
    have hnz : (((x :: l).length : Int) == 0) = false := by rw [beq_eq_false_iff_ne]; simp only [List.length_cons]; omega
    have hcl : (x :: l).length = l.length + 1 := rfl
    have hct : tot (x :: l) = x.size + tot l := rfl
    rw [show ((0 : Nat) : Int) = 0 from rfl] at hl
    generalize hL : x :: l = L at *
    obtain ⟨K, hK⟩ : ∃ K, K = 20000 := ⟨_, rfl⟩
    refine ⟨K + 1, ?_⟩
    unfold dragomanlaw07_SubstBack.f
    rw [shown_ok _ (by omega), Option.bind_some, hlong _ (by omega), Option.bind_some, if_neg (by omega), hnz, dragomanlaw07_SubstBack.j0, if_neg (by decide), htx K (by omega), Option.bind_some, hr K (by omega), Option.bind_some]
    exact hl K (by omega)
end Go.Proofs.Ythnfmpieoondaaa.P
