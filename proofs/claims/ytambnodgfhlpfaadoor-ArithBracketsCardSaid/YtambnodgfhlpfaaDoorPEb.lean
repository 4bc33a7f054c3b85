import Derived.Test.YtambnodgfhlpfaaDoorQAx0
import Derived.OpenShut
import Derived.Deep.Slices
import Derived.Deep.SlicePairs
import Derived.ChangeOld
import Derived.Carry
import Derived.SizedLaws
import Derived.Test.YtambnodgfhlpfaaDoorRM
import Derived.Test.YtambnodgfhlpfaaDoorPA
import Derived.Test.YtambnodgfhlpfaaDoorQAx2
import Derived.Test.YtambnodgfhlpfaaDoorPC
import Derived.Test.YtambnodgfhlpfaaDoorQDx1
/- A row of variables that comes in, opened; how long its texts can be. -/
set_option linter.unusedVariables false
set_option linter.unusedSimpArgs false
namespace Go.Proofs.YtambnodgfhlpfaaDoor.G
open Go.RowKit Go.ChangeShapes Go.WideShapes Go.Deep Go.Proofs.YtambnodgfhlpfaaDoorW.PrintWords Go.Proofs.YtambnodgfhlpfaaDoorW.PrintLast Go.Proofs.YtambnodgfhlpfaaDoorW.PrintMore Go.Proofs.YtambnodgfhlpfaaDoor.QA
theorem choose_list {α : Type} (n : Nat) (p : Nat → α → Prop) (h : ∀ i, i < n → ∃ x, p i x) : ∃ l : List α, l.length = n ∧ ∀ i x, l[i]? = some x → p i x := by
  induction n with
  | zero => exact ⟨[], rfl, fun i x hx => by simp at hx⟩
  | succ n ih =>
    obtain ⟨l, hl, hp⟩ := ih (fun i hi => h i (by omega))
    obtain ⟨x, hx⟩ := h n (by omega)
    refine ⟨l ++ [x], by simp [hl], fun i y hy => ?_⟩
    by_cases hi : i < n
    · rw [List.getElem?_append_left (by omega)] at hy
      exact hp i y hy
    · have hlt : i < (l ++ [x]).length := (List.getElem?_eq_some_iff.1 hy).1
      simp at hlt
      have : i = n := by omega
      subst this
      rw [List.getElem?_append_right (by omega)] at hy
      simp [hl] at hy
      subst hy
      exact hx
theorem weights_all {H : Type} {P : Program} {e : TypeId} {d : DataW H} {n : Nat} : ∀ {ds : List (DataW H)}, d ∈ ds → n ∈ d.weights P e → n ∈ DataW.weightsAll P e ds
  | [], h, _ => by cases h
  | x :: r, h, hn => by
    rw [DataW.weightsAll]
    rcases List.mem_cons.1 h with rfl | h
    · exact List.mem_append_left _ hn
    · exact List.mem_append_right _ (weights_all h hn)
set_option maxRecDepth 100000 in
theorem open_T22 {H : Type} {enc : TypeId × Value → H} {w : World} {base : Nat} {held : Bool} {r : Reach} {b0 : Nat} {v : Value} {d : DataW H} {p : List MemPlace} (hv : Value.okWide Tryd.prog w r b0 22 v) (h : DataW.Trod enc Tryd.prog w base (fun _ => true) held 22 v d p) :
    ∃ (A : Option Addr) (cap : Nat) (l0 : List S39), v = .slice A l0.length cap ∧ l0.length ≤ cap ∧ Kd.C k39 w A l0.length l0 ∧ ∀ x, x ∈ l0 → x.f0.size ∈ d.weights Tryd.prog 22 ∧ x.f1.size ∈ d.weights Tryd.prog 22 := by
  obtain ⟨A, len, cap, rfl⟩ := okWide_slice Tryd.underlying22 hv
  obtain ⟨fuel, hf⟩ := h
  rcases open_slice_pairs Tryd.underlying22 Tryd.underlying39 (by kernel_rfl) rfl rfl (by kernel_rfl) (by kernel_rfl) hf with ⟨hcs, _⟩ | ⟨a, l, c, m, n, V0, V1, D0, D1, P0, P1, hcs, _, hl, hm, hmm, hx, hel⟩
  · simp [Value.cells] at hcs
    obtain ⟨rfl, rfl, rfl⟩ := hcs
    exact ⟨none, 0, [], rfl, Nat.le_refl _, ⟨rfl, by decide, fun h => by cases h⟩, fun x hx => by cases hx⟩
  · simp [Value.cells] at hcs
    obtain ⟨rfl, rfl, rfl⟩ := hcs
    simp only [if_true] at hmm
    subst hmm
    obtain ⟨l0, hl0, hp⟩ := choose_list len (fun i (x : S39) => (w.cell? (a.add (i * 2)) = some (.string x.f0) ∧ w.cell? (a.add (i * 2 + 1)) = some (.string x.f1)) ∧ D0 i = .lit (.string x.f0.data.toList) ∧ D1 i = .lit (.string x.f1.data.toList)) (fun i hi => by
      obtain ⟨c0, c1, t0, t1⟩ := hel i (by omega)
      obtain ⟨x0, e0, y0, _⟩ := DataW.trod_string Tryd.underlying9 t0
      obtain ⟨x1, e1, y1, _⟩ := DataW.trod_string Tryd.underlying9 t1
      rw [List.cons.inj e0 |>.1] at c0
      rw [List.cons.inj e1 |>.1] at c1
      exact ⟨⟨x0, x1⟩, ⟨c0, c1⟩, (Prod.mk.inj y0).1, (Prod.mk.inj y1).1⟩)
    refine ⟨some a, _, l0, by rw [hl0], by omega, ⟨rfl, by unfold maxLen at hm; omega, fun _ => ⟨a, rfl, fun j x hx => ⟨_, rfl, k39_mk _ x, ?_⟩⟩⟩, fun x hx2 => ?_⟩
    · obtain ⟨⟨h0, h1⟩, _⟩ := hp j x hx
      intro i u hu
      match i, hu with
      | 0, hu => cases hu; exact h0
      | 1, hu => cases hu; exact h1
    · obtain ⟨i, hi⟩ := List.mem_iff_getElem?.1 hx2
      have hlt : i < len := by have := (List.getElem?_eq_some_iff.1 hi).1; omega
      obtain ⟨_, d0, d1⟩ := hp i x hi
      have hd := (Prod.mk.inj hx).1
      have hmem : (DataW.agg [D0 i, D1 i] : DataW H) ∈ (List.range len).map fun i => (DataW.agg [D0 i, D1 i] : DataW H) := List.mem_map.2 ⟨i, List.mem_range.2 hlt, rfl⟩
      have hw : ∀ n, n ∈ (DataW.agg [D0 i, D1 i] : DataW H).weights Tryd.prog 39 → n ∈ d.weights Tryd.prog 22 := by
        intro n hn
        rw [hd]
        simp only [DataW.weights, Tryd.underlying22]
        exact List.mem_cons_of_mem _ (List.mem_append_left _ (weights_all hmem hn))
      rw [d0, d1] at hw
      exact ⟨hw _ (by simp [DataW.weights, DataW.weightsEach, Tryd.underlying39]), hw _ (by simp [DataW.weights, DataW.weightsEach, Tryd.underlying39])⟩
end Go.Proofs.YtambnodgfhlpfaaDoor.G

/- A text that stands in brackets within another one is read there as by itself; every text is read to an end. -/
set_option linter.unusedVariables false
set_option linter.unusedSimpArgs false
namespace Go.Proofs.YtambnodgfhlpfaaDoor.P
open Go.RowKit Go.Proofs.YtambnodgfhlpfaaDoorW.PrintWords Go.Proofs.YtambnodgfhlpfaaDoorW.PrintLast Go.Proofs.YtambnodgfhlpfaaDoor.G Go.Proofs.YtambnodgfhlpfaaDoor.QA Go.Proofs.YtambnodgfhlpfaaDoor.A

/-- A text stands in another one, from o on, and a closing bracket behind it. -/
def In (s t : ByteArray) (o : Nat) : Prop := ∃ a z : List UInt8, a.length = o ∧ t.data.toList = a ++ (s.data.toList ++ 41 :: z)
theorem len_list (s : ByteArray) : s.data.toList.length = s.size := by simp
theorem In.drop {s t : ByteArray} {o : Nat} (h : In s t o) : ∃ z, ∀ p, p ≤ s.size → t.data.toList.drop (o + p) = s.data.toList.drop p ++ 41 :: z := by
  obtain ⟨a, z, rfl, ht⟩ := h
  refine ⟨z, fun p hp => ?_⟩
  rw [ht, List.drop_length_add_append, List.drop_append_of_le_length (by rw [len_list]; exact hp)]
theorem In.size {s t : ByteArray} {o : Nat} (h : In s t o) : o + s.size + 1 ≤ t.size := by
  obtain ⟨a, z, rfl, ht⟩ := h
  have := congrArg List.length ht
  simp at this
  omega
theorem bt_drop (s : ByteArray) (i : Nat) : bt s i = (((s.data.toList.drop i).headD 0).toNat : Int) := by
  unfold bt
  by_cases h : i < s.size
  · rw [dif_pos (by simpa using h), List.drop_eq_getElem_cons (by rw [len_list]; exact h)]
    rfl
  · rw [dif_neg (by simpa using h), List.drop_eq_nil_of_le (by rw [len_list]; omega)]
    rfl
section
variable {s t : ByteArray} {o : Nat} (h : In s t o)
include h
theorem In.bt {p : Nat} (hp : p < s.size) : bt t ((o + p : Nat) : Int) = bt s p := by
  obtain ⟨z, hz⟩ := h.drop
  rw [bt_drop, bt_drop, hz p (by omega), List.drop_eq_getElem_cons (by rw [len_list]; exact hp)]
  rfl
theorem In.bt_end : Go.Proofs.YtambnodgfhlpfaaDoorW.PrintWords.bt t ((o + s.size : Nat) : Int) = 41 := by
  obtain ⟨z, hz⟩ := h.drop
  rw [bt_drop, hz s.size (Nat.le_refl _), List.drop_eq_nil_of_le (by rw [len_list]; exact Nat.le_refl _)]
  rfl
theorem In.sk_aux : ∀ d p, p + d = s.size → sk t (o + p) = o + sk s p
  | 0, p, hp => by
    have hp' : p = s.size := by omega
    subst hp'
    rw [sk_no s s.size (fun hh => absurd hh (Nat.lt_irrefl _)), sk_no t (o + s.size) (fun _ => by rw [h.bt_end]; rfl)]
  | d + 1, p, hp => by
    have hs := h.size
    have hlt : p < s.size := by omega
    have hb := h.bt hlt
    cases hc : spB (Go.Proofs.YtambnodgfhlpfaaDoorW.PrintWords.bt s p) with
    | true =>
      rw [sk_yes s p hlt hc, sk_yes t (o + p) (by omega) (by rw [hb]; exact hc)]
      exact In.sk_aux d (p + 1) (by omega)
    | false => rw [sk_no s p (fun _ => hc), sk_no t (o + p) (fun _ => by rw [hb]; exact hc)]
theorem In.sk {p : Nat} (hp : p ≤ s.size) : A.sk t (o + p) = o + A.sk s p := In.sk_aux h (s.size - p) p (by omega)
end
theorem ext_list (s : ByteArray) (i j : Nat) : (s.extract i j).data.toList = (s.data.toList.drop i).take (j - i) := by
  rw [ByteArray.data_extract, Array.toList_extract, List.extract_eq_take_drop]
theorem hasAt_drop (s : ByteArray) (p : Nat) (m : ByteArray) : hasAt s p m = m.data.toList.isPrefixOf (s.data.toList.drop p) := by
  unfold hasAt Lib.hasPrefix
  rw [ext_list, List.take_of_length_le (by rw [List.length_drop, len_list]; exact Nat.le_refl _)]
theorem pre_app : ∀ (m l z : List UInt8), (41 : UInt8) ∉ m → m.isPrefixOf (l ++ 41 :: z) = m.isPrefixOf l
  | [], _, _, _ => by simp
  | x :: m, [], z, hm => by
    have : x ≠ 41 := fun he => hm (by rw [he]; exact List.mem_cons_self)
    simp [List.isPrefixOf, this]
  | x :: m, y :: l, z, hm => by
    rw [List.cons_append, List.isPrefixOf, List.isPrefixOf, pre_app m l z (fun hh => hm (List.mem_cons_of_mem _ hh))]
theorem bop_no (m : Bop) : (41 : UInt8) ∉ m.str.data.toList := by cases m <;> decide
theorem uop_no (m : Uop) : (41 : UInt8) ∉ m.str.data.toList := by cases m <;> decide
theorem ge_idx (l : List Int) : ∀ d i, (∃ j, i ≤ j ∧ j < i + d ∧ oddB (l.getD j 0) = true) → 0 ≤ idxOdd l i d
  | 0, i, ⟨j, h1, h2, _⟩ => by omega
  | d + 1, i, ⟨j, h1, h2, h3⟩ => by
    rw [idxOdd]
    by_cases hc : oddB (l.getD i 0) = true
    · rw [if_pos hc]; omega
    · rw [if_neg hc]
      refine ge_idx l d (i + 1) ⟨j, ?_, by omega, h3⟩
      by_cases he : j = i
      · subst he; exact absurd h3 hc
      · omega
theorem no_word {x : ByteArray} (h : (41 : UInt8) ∈ x.data.toList) : (nameB x || allDig x) = false := by
  rw [Bool.or_eq_false_iff]
  constructor
  · obtain ⟨j, hj, hx⟩ := List.getElem_of_mem h
    have : 0 ≤ idxOdd (bytesOf x) 0 x.size := by
      refine ge_idx _ _ _ ⟨j, Nat.zero_le _, by rw [len_list] at hj; omega, ?_⟩
      have : (bytesOf x).getD j 0 = 41 := by
        unfold bytesOf
        rw [List.getD_eq_getElem?_getD, List.getElem?_map, List.getElem?_eq_getElem hj, hx]
        rfl
      rw [this]; decide
    unfold nameB
    simp [this]
  · unfold allDig
    rw [List.all_eq_false]
    exact ⟨41, h, by decide⟩
section
variable {s t : ByteArray} {o : Nat} (h : In s t o)
include h
theorem In.has {p : Nat} (hp : p ≤ s.size) {m : ByteArray} (hm : (41 : UInt8) ∉ m.data.toList) : hasAt t (o + p) m = hasAt s p m := by
  obtain ⟨z, hz⟩ := h.drop
  rw [hasAt_drop, hasAt_drop, hz p hp, pre_app _ _ _ hm]
theorem In.close {p : Nat} (hp : p = s.size) : hasAt t (o + p) rpar = true := by
  obtain ⟨z, hz⟩ := h.drop
  rw [hasAt_drop, hz p (by omega), List.drop_eq_nil_of_le (by rw [len_list]; omega)]
  rfl
theorem In.closes {p : Nat} (hp : p ≤ s.size) (hr : hasAt s p rpar = true) : hasAt t (o + p) rpar = true := by
  obtain ⟨z, hz⟩ := h.drop
  rw [hasAt_drop] at hr ⊢
  rw [hz p hp]
  rw [List.isPrefixOf_iff_prefix] at hr ⊢
  exact hr.trans (List.prefix_append _ _)
theorem In.find {α : Type} (f : α → ByteArray) (hf : ∀ m, (41 : UInt8) ∉ (f m).data.toList) {p : Nat} (hp : p ≤ s.size) (l : List α) : find1 f t (o + p) l = find1 f s p l := by
  induction l with
  | nil => rfl
  | cons m r ih => rw [find1, find1, h.has hp (hf m), ih]
theorem In.ext {i j : Nat} (hij : i ≤ j) (hj : j ≤ s.size) : t.extract (o + i) (o + j) = s.extract i j := by
  obtain ⟨z, hz⟩ := h.drop
  refine ByteArray.ext (Array.toList_inj.1 ?_)
  rw [ext_list, ext_list, hz i (by omega), List.take_append_of_le_length (by rw [List.length_drop, len_list]; omega), show o + j - (o + i) = j - i by omega]
theorem In.odd {i : Nat} (hi : i ≤ s.size) : (41 : UInt8) ∈ (t.extract (o + i) (o + s.size + 1)).data.toList := by
  obtain ⟨z, hz⟩ := h.drop
  rw [ext_list, hz i hi, List.take_append, List.length_drop, len_list, show o + s.size + 1 - (o + i) - (s.size - i) = 0 + 1 by omega]
  exact List.mem_append_right _ (by rw [List.take_succ_cons]; exact List.mem_cons_self)
theorem In.wend {f : Nat} : ∀ d i, i + d = s.size → f ≤ i → A.wend t (o + f) (o + i) (t.size - (o + i)) = o + A.wend s f i (s.size - i)
  | 0, i, hi, hf => by
    have hi' : i = s.size := by omega
    subst hi'
    rw [wend_no s f s.size (fun hh => absurd hh (Nat.lt_irrefl _)), wend_no t (o + f) (o + s.size) (fun _ => no_word (h.odd hf))]
  | d + 1, i, hi, hf => by
    have hs := h.size
    have he := h.ext (i := f) (j := i + 1) (by omega) (by omega)
    cases hc : (nameB (s.extract f (i + 1)) || allDig (s.extract f (i + 1))) with
    | true =>
      rw [wend_yes s f i (by omega) hc, wend_yes t (o + f) (o + i) (by omega) (by rw [Nat.add_assoc, he]; exact hc)]
      exact In.wend d (i + 1) (by omega) (by omega)
    | false => rw [wend_no s f i (fun _ => hc), wend_no t (o + f) (o + i) (fun _ => by rw [Nat.add_assoc, he]; exact hc)]
theorem In.word {p : Nat} (hp : p ≤ s.size) : wordEnd t (o + p) = o + wordEnd s p := In.wend h (s.size - p) p (by omega) (Nat.le_refl _)
end
theorem find_size {α : Type} {f : α → ByteArray} {s : ByteArray} {p : Nat} {l : List α} {x : α} (h : find1 f s p l = some x) : (f x).size ≤ s.size - p := by
  induction l with
  | nil => cases h
  | cons m r ih =>
    rw [find1] at h
    by_cases hc : hasAt s p (f m) = true
    · rw [if_pos hc] at h; cases h; exact hasAt_size hc
    · rw [if_neg hc] at h; exact ih h
end Go.Proofs.YtambnodgfhlpfaaDoor.P

/- The reading of a text within another one, whole; that every text is read to an end. -/
set_option linter.unusedVariables false
set_option linter.unusedSimpArgs false
namespace Go.Proofs.YtambnodgfhlpfaaDoor.P
open Go.RowKit Go.Proofs.YtambnodgfhlpfaaDoorW.PrintWords Go.Proofs.YtambnodgfhlpfaaDoorW.PrintLast Go.Proofs.YtambnodgfhlpfaaDoor.G Go.Proofs.YtambnodgfhlpfaaDoor.QA Go.Proofs.YtambnodgfhlpfaaDoor.A

theorem uop_one (u : Uop) : u.str.size = 1 := by cases u <;> rfl
theorem lpar_no : (41 : UInt8) ∉ lpar.data.toList := by decide
/-- Read at o + p of the one as at p of the other, if that isn't too deep there. -/
theorem shift {s t : ByteArray} {o : Nat} (h : In s t o) : ∀ (k : Nat) (md : Md) (p dp dp' : Nat) (x : A.Node) (q : Nat), p ≤ s.size → run s k md p dp = some (.ok (x, q)) →
    q ≤ s.size ∧ ((run s k md p dp' = some (.ok (x, q)) ∧ run t k md (o + p) dp' = some (.ok (x, o + q))) ∨ (run s k md p dp' = some (.error 7) ∧ run t k md (o + p) dp' = some (.error 7)))
  | 0, _, _, _, _, _, _, _, hr => by simp [run] at hr
  | k + 1, .lev n, p, dp, dp', x, q, hp, hr => by
    rw [run] at hr
    rw [run, run]
    by_cases h6 : n = 6
    · rw [if_pos h6] at hr
      rw [if_pos h6, if_pos h6]
      exact shift h k _ p dp dp' x q hp hr
    · rw [if_neg h6] at hr
      rw [if_neg h6, if_neg h6]
      cases hx : run s k (.lev (n + 1)) p dp with
      | none => rw [hx] at hr; cases hr
      | some r2 =>
        rw [hx] at hr
        cases r2 with
        | error e => cases hr
        | ok r3 =>
          obtain ⟨a, q1⟩ := r3
          obtain ⟨hq1, hc⟩ := shift h k _ p dp dp' a q1 hp hx
          have hr' : run s k (.loop n a) q1 dp = some (.ok (x, q)) := hr
          obtain ⟨hq, hd⟩ := shift h k _ q1 dp dp' x q hq1 hr'
          refine ⟨hq, ?_⟩
          rcases hc with ⟨c1, c2⟩ | ⟨c1, c2⟩
          · rw [c1, c2]; exact hd
          · rw [c1, c2]; exact Or.inr ⟨rfl, rfl⟩
  | k + 1, .loop n a, p, dp, dp', x, q, hp, hr => by
    have hs := sk_le s p hp
    rw [run] at hr
    rw [run, run, h.sk hp, h.find Bop.str bop_no hs]
    cases hf : find1 Bop.str s (sk s p) (opsOf n) with
    | none =>
      rw [hf] at hr
      cases hr
      exact ⟨hs, Or.inl ⟨rfl, rfl⟩⟩
    | some m =>
      rw [hf] at hr
      have hz := find_size hf
      have hle : sk s p + m.str.size ≤ s.size := by omega
      dsimp only at hr ⊢
      rw [Nat.add_assoc]
      cases hx : run s k (.lev (n + 1)) (sk s p + m.str.size) dp with
      | none => rw [hx] at hr; cases hr
      | some r2 =>
        rw [hx] at hr
        cases r2 with
        | error e => cases hr
        | ok r3 =>
          obtain ⟨b, q1⟩ := r3
          obtain ⟨hq1, hc⟩ := shift h k _ _ dp dp' b q1 hle hx
          have hr' : run s k (.loop n (.bin m a b)) q1 dp = some (.ok (x, q)) := hr
          obtain ⟨hq, hd⟩ := shift h k _ q1 dp dp' x q hq1 hr'
          refine ⟨hq, ?_⟩
          rcases hc with ⟨c1, c2⟩ | ⟨c1, c2⟩
          · rw [c1, c2]; exact hd
          · rw [c1, c2]; exact Or.inr ⟨rfl, rfl⟩
  | k + 1, .una, p, dp, dp', x, q, hp, hr => by
    have hs := sk_le s p hp
    rw [run] at hr
    rw [run, run, h.sk hp, h.find Uop.str uop_no hs]
    cases hf : find1 Uop.str s (sk s p) uops with
    | some u =>
      rw [hf] at hr
      have hz := find_size hf
      rw [uop_one] at hz
      have hpos : sk s p + 1 ≤ s.size ∨ s.size = sk s p := by omega
      dsimp only at hr ⊢
      by_cases h30 : 30 ≤ dp
      · rw [if_pos h30] at hr; cases hr
      · rw [if_neg h30] at hr
        cases hx : run s k .una (sk s p + 1) (dp + 1) with
        | none => rw [hx] at hr; cases hr
        | some r2 =>
          rw [hx] at hr
          cases r2 with
          | error e => cases hr
          | ok r3 =>
            obtain ⟨a, q1⟩ := r3
            obtain ⟨hq1, hc⟩ := shift h k _ _ (dp + 1) (dp' + 1) a q1 (by omega) hx
            cases hr
            refine ⟨hq1, ?_⟩
            by_cases h31 : 30 ≤ dp'
            · rw [if_pos h31, if_pos h31]; exact Or.inr ⟨rfl, rfl⟩
            · rw [if_neg h31, if_neg h31, Nat.add_assoc]
              rcases hc with ⟨c1, c2⟩ | ⟨c1, c2⟩
              · rw [c1, c2]; exact Or.inl ⟨rfl, rfl⟩
              · rw [c1, c2]; exact Or.inr ⟨rfl, rfl⟩
    | none =>
      rw [hf] at hr
      dsimp only at hr ⊢
      rw [h.has hs lpar_no]
      by_cases hl : hasAt s (sk s p) lpar = true
      · have hz := hasAt_size hl
        have hz1 : lpar.size = 1 := rfl
        rw [if_pos hl] at hr
        rw [if_pos hl, if_pos hl]
        by_cases h30 : 30 ≤ dp
        · rw [if_pos h30] at hr; cases hr
        · rw [if_neg h30] at hr
          cases hx : run s k (.lev 0) (sk s p + 1) (dp + 1) with
          | none => rw [hx] at hr; cases hr
          | some r2 =>
            rw [hx] at hr
            cases r2 with
            | error e => cases hr
            | ok r3 =>
              obtain ⟨a, q1⟩ := r3
              obtain ⟨hq1, hc⟩ := shift h k _ _ (dp + 1) (dp' + 1) a q1 (by omega) hx
              dsimp only at hr
              by_cases hrp : hasAt s (sk s q1) rpar = true
              · rw [if_pos hrp] at hr
                cases hr
                have hs1 := sk_le s q1 hq1
                have hz2 := hasAt_size hrp
                have hz3 : rpar.size = 1 := rfl
                refine ⟨by omega, ?_⟩
                by_cases h31 : 30 ≤ dp'
                · rw [if_pos h31, if_pos h31]; exact Or.inr ⟨rfl, rfl⟩
                · rw [if_neg h31, if_neg h31, Nat.add_assoc]
                  rcases hc with ⟨c1, c2⟩ | ⟨c1, c2⟩
                  · rw [c1, c2]
                    dsimp only
                    rw [h.sk hq1, h.closes hs1 hrp, if_pos hrp, if_pos rfl]
                    exact Or.inl ⟨rfl, rfl⟩
                  · rw [c1, c2]; exact Or.inr ⟨rfl, rfl⟩
              · rw [if_neg hrp] at hr; cases hr
      · rw [if_neg hl] at hr
        rw [if_neg hl, if_neg hl, h.word hs]
        obtain ⟨w1, w2⟩ := wordEnd_le s (sk s p) hs
        rw [h.ext w2 w1]
        by_cases hn : nameB (s.extract (sk s p) (wordEnd s (sk s p))) = true
        · rw [if_pos hn] at hr
          rw [if_pos hn, if_pos hn]
          cases hr
          exact ⟨w1, Or.inl ⟨rfl, rfl⟩⟩
        · rw [if_neg hn] at hr
          rw [if_neg hn, if_neg hn]
          by_cases hw : (wholeV (s.extract (sk s p) (wordEnd s (sk s p)))).2.2 = 0
          · rw [if_pos hw] at hr
            rw [if_pos hw, if_pos hw]
            cases hr
            exact ⟨w1, Or.inl ⟨rfl, rfl⟩⟩
          · rw [if_neg hw] at hr; cases hr

theorem run_le {s : ByteArray} {k : Nat} {md : Md} {p dp : Nat} {r : Res} (h : run s k md p dp = some r) : ∀ j, run s (k + j) md p dp = some r
  | 0 => h
  | j + 1 => run_mono s _ _ _ _ _ (run_le h j)
theorem run_ge {s : ByteArray} {k K : Nat} {md : Md} {p dp : Nat} {r : Res} (h : run s k md p dp = some r) (hk : k ≤ K) : run s K md p dp = some r := by
  obtain ⟨j, rfl⟩ := Nat.exists_eq_add_of_le hk
  exact run_le h j
/-- What is read stands behind the place. -/
theorem run_on (s : ByteArray) : ∀ (k : Nat) (md : Md) (p dp : Nat) (x : A.Node) (q : Nat), run s k md p dp = some (.ok (x, q)) → p ≤ q
  | 0, _, _, _, _, _, hr => by simp [run] at hr
  | k + 1, .lev n, p, dp, x, q, hr => by
    rw [run] at hr
    by_cases h6 : n = 6
    · rw [if_pos h6] at hr; exact run_on s k _ _ _ _ _ hr
    · rw [if_neg h6] at hr
      cases hx : run s k (.lev (n + 1)) p dp with
      | none => rw [hx] at hr; cases hr
      | some r2 =>
        rw [hx] at hr
        cases r2 with
        | error e => cases hr
        | ok r3 =>
          obtain ⟨a, q1⟩ := r3
          exact Nat.le_trans (run_on s k _ _ _ _ _ hx) (run_on s k _ _ _ _ _ hr)
  | k + 1, .loop n a, p, dp, x, q, hr => by
    have hs := sk_ge s p
    rw [run] at hr
    cases hf : find1 Bop.str s (sk s p) (opsOf n) with
    | none => rw [hf] at hr; cases hr; exact hs
    | some m =>
      rw [hf] at hr
      dsimp only at hr
      cases hx : run s k (.lev (n + 1)) (sk s p + m.str.size) dp with
      | none => rw [hx] at hr; cases hr
      | some r2 =>
        rw [hx] at hr
        cases r2 with
        | error e => cases hr
        | ok r3 =>
          obtain ⟨b, q1⟩ := r3
          have h1 := run_on s k _ _ _ _ _ hx
          have h2 := run_on s k _ _ _ _ _ hr
          omega
  | k + 1, .una, p, dp, x, q, hr => by
    have hs := sk_ge s p
    rw [run] at hr
    cases hf : find1 Uop.str s (sk s p) uops with
    | some u =>
      rw [hf] at hr
      dsimp only at hr
      by_cases h30 : 30 ≤ dp
      · rw [if_pos h30] at hr; cases hr
      · rw [if_neg h30] at hr
        cases hx : run s k .una (sk s p + 1) (dp + 1) with
        | none => rw [hx] at hr; cases hr
        | some r2 =>
          rw [hx] at hr
          cases r2 with
          | error e => cases hr
          | ok r3 =>
            obtain ⟨a, q1⟩ := r3
            cases hr
            have h1 := run_on s k _ _ _ _ _ hx
            omega
    | none =>
      rw [hf] at hr
      dsimp only at hr
      by_cases hl : hasAt s (sk s p) lpar = true
      · rw [if_pos hl] at hr
        by_cases h30 : 30 ≤ dp
        · rw [if_pos h30] at hr; cases hr
        · rw [if_neg h30] at hr
          cases hx : run s k (.lev 0) (sk s p + 1) (dp + 1) with
          | none => rw [hx] at hr; cases hr
          | some r2 =>
            rw [hx] at hr
            cases r2 with
            | error e => cases hr
            | ok r3 =>
              obtain ⟨a, q1⟩ := r3
              have h1 := run_on s k _ _ _ _ _ hx
              have h2 := sk_ge s q1
              dsimp only at hr
              by_cases hrp : hasAt s (sk s q1) rpar = true
              · rw [if_pos hrp] at hr; cases hr; omega
              · rw [if_neg hrp] at hr; cases hr
      · rw [if_neg hl] at hr
        have hwe : sk s p ≤ wordEnd s (sk s p) := wend_ge s _ _ _
        by_cases hn : nameB (s.extract (sk s p) (wordEnd s (sk s p))) = true
        · rw [if_pos hn] at hr; cases hr; omega
        · rw [if_neg hn] at hr
          by_cases hw : (wholeV (s.extract (sk s p) (wordEnd s (sk s p)))).2.2 = 0
          · rw [if_pos hw] at hr; cases hr; omega
          · rw [if_neg hw] at hr; cases hr
where wend_ge (s : ByteArray) (f : Nat) : ∀ d i, i ≤ wend s f i d
  | 0, i => Nat.le_refl _
  | d + 1, i => by
    rw [wend]
    split
    · have := wend_ge s f d (i + 1); omega
    · exact Nat.le_refl _
end Go.Proofs.YtambnodgfhlpfaaDoor.P

/- Every text is read to an end; a row of few short variables is told by an end; how what stands between goes up through the levels. -/
set_option linter.unusedVariables false
set_option linter.unusedSimpArgs false
namespace Go.Proofs.YtambnodgfhlpfaaDoor.P
open Go.RowKit Go.Proofs.YtambnodgfhlpfaaDoorW.PrintWords Go.Proofs.YtambnodgfhlpfaaDoorW.PrintLast Go.Proofs.YtambnodgfhlpfaaDoor.G Go.Proofs.YtambnodgfhlpfaaDoor.QA Go.Proofs.YtambnodgfhlpfaaDoor.A

theorem bop_pos (m : Bop) : 1 ≤ m.str.size := by cases m <;> decide
/-- Every text is read to an end. -/
theorem term (s : ByteArray) : ∀ m p, s.size - p < m →
    (∀ dp, ∃ k r, run s k .una p dp = some r) ∧ (∀ n, n ≤ 6 → ∀ dp, ∃ k r, run s k (.lev n) p dp = some r) ∧ (∀ n a dp, n < 6 → ∃ k r, run s k (.loop n a) p dp = some r)
  | 0, p, h => by omega
  | m + 1, p, h => by
    have ih := term s m
    have hloop : ∀ q, s.size - q < m + 1 → ∀ n a dp, n < 6 → ∃ k r, run s k (.loop n a) q dp = some r := by
      intro q hq n a dp hn
      have hs := sk_ge s q
      cases hf : find1 Bop.str s (sk s q) (opsOf n) with
      | none => exact ⟨1, .ok (a, sk s q), by rw [run, hf]⟩
      | some o =>
        have hz := find_size hf
        have ho := bop_pos o
        obtain ⟨k1, r1, h1⟩ := (ih (sk s q + o.str.size) (by omega)).2.1 (n + 1) (by omega) dp
        cases r1 with
        | error e => exact ⟨k1 + 1, .error e, by rw [run, hf]; dsimp only; rw [h1]⟩
        | ok r3 =>
          obtain ⟨b, q1⟩ := r3
          have hq1 := run_on s _ _ _ _ _ _ h1
          obtain ⟨k2, r2, h2⟩ := (ih q1 (by omega)).2.2 n (.bin o a b) dp hn
          exact ⟨k1 + k2 + 1, r2, by rw [run, hf]; dsimp only; rw [run_ge h1 (by omega : k1 ≤ k1 + k2)]; exact run_ge h2 (by omega)⟩
    have huna : ∀ dp, ∃ k r, run s k .una p dp = some r := by
      intro dp
      have hs := sk_ge s p
      cases hf : find1 Uop.str s (sk s p) uops with
      | some u =>
        have hz := find_size hf
        rw [uop_one] at hz
        by_cases h30 : 30 ≤ dp
        · exact ⟨1, .error 7, by rw [run, hf]; dsimp only; rw [if_pos h30]⟩
        · obtain ⟨k1, r1, h1⟩ := (ih (sk s p + 1) (by omega)).1 (dp + 1)
          cases r1 with
          | error e => exact ⟨k1 + 1, .error e, by rw [run, hf]; dsimp only; rw [if_neg h30, h1]⟩
          | ok r3 => exact ⟨k1 + 1, .ok (.un u r3.1, r3.2), by rw [run, hf]; dsimp only; rw [if_neg h30, h1]⟩
      | none =>
        by_cases hl : hasAt s (sk s p) lpar = true
        · have hz := hasAt_size hl
          have hz1 : lpar.size = 1 := rfl
          by_cases h30 : 30 ≤ dp
          · exact ⟨1, .error 7, by rw [run, hf]; dsimp only; rw [if_pos hl, if_pos h30]⟩
          · obtain ⟨k1, r1, h1⟩ := (ih (sk s p + 1) (by omega)).2.1 0 (by omega) (dp + 1)
            cases r1 with
            | error e => exact ⟨k1 + 1, .error e, by rw [run, hf]; dsimp only; rw [if_pos hl, if_neg h30, h1]⟩
            | ok r3 =>
              by_cases hr : hasAt s (sk s r3.2) rpar = true
              · exact ⟨k1 + 1, .ok (r3.1, sk s r3.2 + 1), by rw [run, hf]; dsimp only; rw [if_pos hl, if_neg h30, h1]; dsimp only; rw [if_pos hr]⟩
              · exact ⟨k1 + 1, .error 9, by rw [run, hf]; dsimp only; rw [if_pos hl, if_neg h30, h1]; dsimp only; rw [if_neg hr]⟩
        · refine ⟨1, ?_⟩
          rw [run, hf]
          dsimp only
          rw [if_neg hl]
          split
          · exact ⟨_, rfl⟩
          · split <;> exact ⟨_, rfl⟩
    have hlev : ∀ j, j ≤ 6 → ∀ dp, ∃ k r, run s k (.lev (6 - j)) p dp = some r := by
      intro j
      induction j with
      | zero =>
        intro _ dp
        obtain ⟨k, r, hk⟩ := huna dp
        exact ⟨k + 1, r, by rw [run, if_pos rfl]; exact hk⟩
      | succ j ihj =>
        intro hj dp
        obtain ⟨k1, r1, h1⟩ := ihj (by omega) dp
        rw [show 6 - j = 6 - (j + 1) + 1 by omega] at h1
        generalize hn : 6 - (j + 1) = n at *
        have hn6 : n ≠ 6 := by omega
        cases r1 with
        | error e => exact ⟨k1 + 1, .error e, by rw [run, if_neg hn6, h1]⟩
        | ok r3 =>
          obtain ⟨a, q1⟩ := r3
          have hq1 := run_on s _ _ _ _ _ _ h1
          obtain ⟨k2, r2, h2⟩ := hloop q1 (by omega) n a dp (by omega)
          exact ⟨k1 + k2 + 1, r2, by rw [run, if_neg hn6, run_ge h1 (by omega : k1 ≤ k1 + k2)]; exact run_ge h2 (by omega)⟩
    exact ⟨huna, fun n hn dp => by have := hlev (6 - n) (by omega) dp; rwa [show 6 - (6 - n) = n by omega] at this, fun n a dp hn => hloop p h n a dp hn⟩

theorem eval_total (s : ByteArray) (l : Vars) (hs : s.size ≤ 140737488355328) (hl : l.length ≤ 140737488355328) (hf : fitB l = true) : ∃ k n e, arith_Eval.f k s l = some (n, e) := by
  obtain ⟨k, r, hk⟩ := (term s (s.size + 1) 0 (by omega)).2.1 0 (by omega) 0
  refine ⟨k, ?_⟩
  unfold arith_Eval.f evalV
  rw [if_pos ⟨hs, hl, hf⟩, hk]
  cases r with
  | error e => exact ⟨_, _, rfl⟩
  | ok r3 =>
    dsimp only
    by_cases hq : sk s r3.2 < s.size
    · rw [if_pos hq]; exact ⟨_, _, rfl⟩
    · rw [if_neg hq]
      cases valueV l r3.1 with
      | ok v => exact ⟨_, _, rfl⟩
      | error e => exact ⟨_, _, rfl⟩
theorem eval_ge {s : ByteArray} {l : Vars} {k K : Nat} {r : Int × Int} (h : arith_Eval.f k s l = some r) (hk : k ≤ K) : arith_Eval.f K s l = some r := by
  obtain ⟨j, rfl⟩ := Nat.exists_eq_add_of_le hk
  induction j with
  | zero => exact h
  | succ j ih => exact arith_Eval.mono _ _ _ _ (ih (by omega))

/-! ### Up through the levels -/
section
variable {t : ByteArray} {p dp : Nat}
theorem climb {k : Nat} {x : A.Node} {q n : Nat} (h : run t k (.lev n) p dp = some (.ok (x, q))) (hn : n ≤ 6) (hq : sk t q = q) :
    ∀ d j, j + d = n → (∀ i, j ≤ i → i < n → find1 Bop.str t q (opsOf i) = none) → ∃ K, run t K (.lev j) p dp = some (.ok (x, q))
  | 0, j, hj, _ => ⟨k, by rw [show j = n by omega]; exact h⟩
  | d + 1, j, hj, hf => by
    obtain ⟨K, hK⟩ := climb h hn hq d (j + 1) (by omega) (fun i hi h2 => hf i (by omega) h2)
    refine ⟨K + 1 + 1, ?_⟩
    rw [run, if_neg (by omega), run_ge hK (by omega : K ≤ K + 1)]
    dsimp only
    rw [run, hq, hf j (Nat.le_refl _) (by omega)]
theorem climb_err {k : Nat} {e : Int} {n : Nat} (h : run t k (.lev n) p dp = some (.error e)) (hn : n ≤ 6) : ∀ d j, j + d = n → ∃ K, run t K (.lev j) p dp = some (.error e)
  | 0, j, hj => ⟨k, by rw [show j = n by omega]; exact h⟩
  | d + 1, j, hj => by
    obtain ⟨K, hK⟩ := climb_err h hn d (j + 1) (by omega)
    exact ⟨K + 1, by rw [run, if_neg (by omega), hK]⟩
theorem find_end {n : Nat} : find1 Bop.str t t.size (opsOf n) = none := by
  cases hf : find1 Bop.str t t.size (opsOf n) with
  | none => rfl
  | some m => have := find_size hf; have := bop_pos m; omega
theorem sk_end : sk t t.size = t.size := sk_no t _ (fun h => absurd h (Nat.lt_irrefl _))
theorem top {k : Nat} {x : A.Node} (h : run t k .una p dp = some (.ok (x, t.size))) : ∃ K, run t K (.lev 0) p dp = some (.ok (x, t.size)) :=
  climb (k := k + 1) (n := 6) (by rw [run, if_pos rfl]; exact h) (Nat.le_refl _) sk_end 6 0 (by omega) (fun i _ _ => find_end)
theorem top_err {k : Nat} {e : Int} (h : run t k .una p dp = some (.error e)) : ∃ K, run t K (.lev 0) p dp = some (.error e) :=
  climb_err (k := k + 1) (n := 6) (by rw [run, if_pos rfl]; exact h) (Nat.le_refl _) 6 0 (by omega)
end
end Go.Proofs.YtambnodgfhlpfaaDoor.P

/- A text in brackets, and two of them: what they come to. -/
set_option linter.unusedVariables false
set_option linter.unusedSimpArgs false
namespace Go.Proofs.YtambnodgfhlpfaaDoor.P
open Go.RowKit Go.Proofs.YtambnodgfhlpfaaDoorW.PrintWords Go.Proofs.YtambnodgfhlpfaaDoorW.PrintLast Go.Proofs.YtambnodgfhlpfaaDoor.G Go.Proofs.YtambnodgfhlpfaaDoor.QA Go.Proofs.YtambnodgfhlpfaaDoor.A

/-! ### A row of few short variables is told by an end -/
def OkV (l : Vars) : Prop := ∀ x, x ∈ l → x.f0.size ≤ 140737488355328 ∧ x.f1.size ≤ 140737488355328
theorem rd_mem {l : Vars} {i : Nat} (h : i < l.length) : rd_T39 l (i : Int) ∈ l := by
  unfold rd_T39
  rw [Int.toNat_natCast, List.getD_eq_getElem?_getD, List.getElem?_eq_getElem h]
  exact List.getElem_mem h
theorem succ_id {i : Nat} (h : i ≤ 1000000) : wrap64 ((i : Int) + 1) = ((i + 1 : Nat) : Int) := by rw [wrap_id (by omega) (by omega)]; omega
set_option maxHeartbeats 2000000 in
theorem isname_f {s : ByteArray} (hs : s.size ≤ 200) : ∀ d i k, i + d = s.size → d < k → ∃ b, dragomanref01_IsName.l0 k s (i : Int) = some b
  | d, i, 0, _, h => by omega
  | 0, i, k + 1, hi, _ => by
    rw [dragomanref01_IsName.l0, if_neg (by omega)]
    exact ⟨_, rfl⟩
  | d + 1, i, k + 1, hi, hk => by
    obtain ⟨b, hb⟩ := isname_f hs d (i + 1) k (by omega) (by omega)
    have hw := succ_id (i := i) (by omega)
    simp only [dragomanref01_IsName.l0, hw, hb]
    repeat' split
    all_goals first | exact ⟨_, rfl⟩ | omega
theorem right_f {l : Vars} (hl : l.length ≤ 30) (h : ∀ x, x ∈ l → x.f0.size ≤ 200) : ∀ d i k, i + d = l.length → 300 + d < k → ∃ b, dragomanref10_Right.l0 k l (i : Int) = some b
  | d, i, 0, _, h => by omega
  | 0, i, k + 1, hi, _ => by
    rw [dragomanref10_Right.l0, if_neg (by omega)]
    exact ⟨_, rfl⟩
  | d + 1, i, k + 1, hi, hk => by
    obtain ⟨b, hb⟩ := right_f hl h d (i + 1) k (by omega) (by omega)
    have hw := succ_id (i := i) (by omega)
    have hz := h _ (rd_mem (l := l) (i := i) (by omega))
    obtain ⟨c, hc⟩ := isname_f hz (rd_T39 l (i : Int)).f0.size 0 k (by omega) (by omega)
    have hc' : dragomanref01_IsName.f k (rd_T39 l (i : Int)).f0 = some c := hc
    simp only [dragomanref10_Right.l0, hw, hb, hc', Option.bind_some]
    have hw2 : 0 < i → wrap64 ((i : Int) - 1) = ((i - 1 : Nat) : Int) := fun hi0 => by rw [wrap_id (by omega) (by omega)]; omega
    repeat' split
    all_goals first | exact ⟨_, rfl⟩ | (rename_i h1 h2; rw [hw2 (by omega)] at *; omega) | (rename_i h1 h2 h3; rw [hw2 (by omega)] at *; omega) | omega
theorem few_l {l : Vars} (hl : l.length ≤ 30) (hok : OkV l) : ∀ d i k, i + d = l.length → 400 + d < k → (∀ j x, j < i → l[j]? = some x → x.f0.size + x.f1.size ≤ 200) →
    ∃ b, dragomanlaw10_few.l0 k l (i : Int) = some b ∧ (b = true → ∀ x, x ∈ l → x.f0.size + x.f1.size ≤ 200)
  | d, i, 0, _, h, _ => by omega
  | 0, i, k + 1, hi, hk, hs => by
    have hall : ∀ x, x ∈ l → x.f0.size + x.f1.size ≤ 200 := by
      intro x hx
      obtain ⟨j, hj⟩ := List.mem_iff_getElem?.1 hx
      have := (List.getElem?_eq_some_iff.1 hj).1
      exact hs j x (by omega) hj
    rw [dragomanlaw10_few.l0, if_neg (by omega)]
    obtain ⟨b, hb⟩ := right_f hl (fun x hx => by have := hall x hx; omega) l.length 0 k (by omega) (by omega)
    have hb' : dragomanref10_Right.f k l = some b := hb
    exact ⟨b, by rw [hb']; rfl, fun _ => hall⟩
  | d + 1, i, k + 1, hi, hk, hs => by
    have hw := succ_id (i := i) (by omega)
    have hlt : i < l.length := by omega
    have hz := hok _ (rd_mem (l := l) (i := i) hlt)
    rw [dragomanlaw10_few.l0, if_pos (by omega), if_pos (by omega), wrap_id (by omega) (by omega), hw]
    by_cases hc : (((rd_T39 l (i : Int)).f0.size : Int) + ((rd_T39 l (i : Int)).f1.size : Int)) > 200
    · rw [if_pos hc]; exact ⟨false, rfl, fun h => by cases h⟩
    · rw [if_neg hc]
      refine few_l hl hok d (i + 1) k (by omega) (by omega) fun j x hj hx => ?_
      by_cases hji : j < i
      · exact hs j x hji hx
      · have : j = i := by omega
        subst this
        have : rd_T39 l (j : Int) = x := by
          unfold rd_T39
          rw [Int.toNat_natCast, List.getD_eq_getElem?_getD, hx]
          rfl
        rw [this] at hc
        omega
theorem few_f {l : Vars} (hok : OkV l) : ∀ k, 500 ≤ k → ∃ b, dragomanlaw10_few.f k l = some b ∧ (b = true → l.length ≤ 30 ∧ ∀ x, x ∈ l → x.f0.size + x.f1.size ≤ 200) := by
  intro k hk
  unfold dragomanlaw10_few.f
  by_cases hl : (l.length : Int) > 30
  · rw [if_pos hl]; exact ⟨false, rfl, fun h => by cases h⟩
  · rw [if_neg hl]
    obtain ⟨b, hb, h⟩ := few_l (l := l) (by omega) hok l.length 0 k (by omega) (by omega) (fun j x hj => by omega)
    exact ⟨b, hb, fun hh => ⟨by omega, h hh⟩⟩
theorem fit_few {l : Vars} (h : ∀ x, x ∈ l → x.f0.size + x.f1.size ≤ 200) : fitB l = true := by
  unfold fitB
  rw [List.all_eq_true]
  intro x hx
  have := h x hx
  simp
  omega

/-! ### Brackets -/
section
variable {t : ByteArray} {o : Nat} {c : UInt8} {r : List UInt8} (hd : t.data.toList.drop o = c :: r)
include hd
theorem sk_stay (hc : spB (c.toNat : Int) = false) : sk t o = o := sk_no t o (fun _ => by rw [bt_drop, hd]; exact hc)
theorem una_no (hc : c = 40) : find1 Uop.str t o uops = none := by
  subst hc
  simp [find1, uops, hasAt_drop, hd, Uop.str, List.isPrefixOf]
theorem una_lpar (hc : c = 40) : hasAt t o lpar = true := by
  subst hc
  rw [hasAt_drop, hd]
  rfl
theorem una_not (hc : c = 33) : find1 Uop.str t o uops = some .not := by
  subst hc
  simp [find1, uops, hasAt_drop, hd, Uop.str, List.isPrefixOf]
theorem no5 (hc : c = 45) : find1 Bop.str t o (A.opsOf 5) = none := by
  subst hc
  simp [find1, A.opsOf, hasAt_drop, hd, Bop.str, List.isPrefixOf]
theorem sub4 (hc : c = 45) : find1 Bop.str t o (A.opsOf 4) = some .sub := by
  subst hc
  simp [find1, A.opsOf, hasAt_drop, hd, Bop.str, List.isPrefixOf]
end
theorem una_par {s t : ByteArray} {o : Nat} {r : List UInt8} (hd : t.data.toList.drop o = 40 :: r) (h : In s t (o + 1)) {k d0 q dp : Nat} {x : A.Node} (hr : run s k (.lev 0) 0 d0 = some (.ok (x, q))) (hq : ¬ sk s q < s.size) (hdp : dp < 30) :
    (run s k (.lev 0) 0 (dp + 1) = some (.ok (x, q)) ∧ run t (k + 1) .una o dp = some (.ok (x, o + s.size + 2))) ∨ (run s k (.lev 0) 0 (dp + 1) = some (.error 7) ∧ run t (k + 1) .una o dp = some (.error 7)) := by
  obtain ⟨hqs, hc⟩ := shift h k (.lev 0) 0 d0 (dp + 1) x q (Nat.zero_le _) hr
  rw [Nat.add_zero] at hc
  have hsk : sk s q = s.size := by have := sk_le s q hqs; omega
  have e : run t (k + 1) .una o dp = match run t k (.lev 0) (o + 1) (dp + 1) with
      | some (.ok (a, q)) => if hasAt t (sk t q) rpar then some (.ok (a, sk t q + 1)) else some (.error 9)
      | r => r := by
    rw [run, sk_stay hd (by decide), una_no hd rfl]
    dsimp only
    rw [if_pos (una_lpar hd rfl), if_neg (by omega)]
    rfl
  rcases hc with ⟨c1, c2⟩ | ⟨c1, c2⟩
  · refine Or.inl ⟨c1, ?_⟩
    rw [e, c2]
    dsimp only
    rw [h.sk hqs, hsk, h.close rfl, if_pos rfl, show o + 1 + s.size + 1 = o + s.size + 2 by omega]
  · refine Or.inr ⟨c1, ?_⟩
    rw [e, c2]
theorem una_neg {t : ByteArray} {o : Nat} {r : List UInt8} (hd : t.data.toList.drop o = 33 :: r) {k dp : Nat} (hdp : dp < 30) :
    run t (k + 1) .una o dp = match run t k .una (o + 1) (dp + 1) with | some (.ok (a, q)) => some (.ok (.un .not a, q)) | r => r := by
  rw [run, sk_stay hd (by decide), una_not hd rfl]
  dsimp only
  rw [if_neg (by omega)]
  rfl
end Go.Proofs.YtambnodgfhlpfaaDoor.P

/- Brackets around all change nothing: the statement in plain words. -/
set_option linter.unusedVariables false
set_option linter.unusedSimpArgs false
namespace Go.Proofs.YtambnodgfhlpfaaDoor.P
open Go.RowKit Go.Proofs.YtambnodgfhlpfaaDoorW.PrintWords Go.Proofs.YtambnodgfhlpfaaDoorW.PrintLast Go.Proofs.YtambnodgfhlpfaaDoor.G Go.Proofs.YtambnodgfhlpfaaDoor.QA Go.Proofs.YtambnodgfhlpfaaDoor.A Go.Proofs.YtambnodgfhlpfaaDoor.QB Go.Proofs.YtambnodgfhlpfaaDoor.QD

theorem run_err (s : ByteArray) : ∀ (k : Nat) (md : Md) (p dp : Nat) (e : Int), run s k md p dp = some (.error e) → e ≠ 0
  | 0, _, _, _, _, hr => by simp [run] at hr
  | k + 1, .lev n, p, dp, e, hr => by
    rw [run] at hr
    by_cases h6 : n = 6
    · rw [if_pos h6] at hr; exact run_err s k _ _ _ _ hr
    · rw [if_neg h6] at hr
      cases hx : run s k (.lev (n + 1)) p dp with
      | none => rw [hx] at hr; cases hr
      | some r2 =>
        rw [hx] at hr
        cases r2 with
        | error e => cases hr; exact run_err s k _ _ _ _ hx
        | ok r3 => exact run_err s k _ _ _ _ hr
  | k + 1, .loop n a, p, dp, e, hr => by
    rw [run] at hr
    cases hf : find1 Bop.str s (sk s p) (A.opsOf n) with
    | none => rw [hf] at hr; cases hr
    | some m =>
      rw [hf] at hr
      dsimp only at hr
      cases hx : run s k (.lev (n + 1)) (sk s p + m.str.size) dp with
      | none => rw [hx] at hr; cases hr
      | some r2 =>
        rw [hx] at hr
        cases r2 with
        | error e => cases hr; exact run_err s k _ _ _ _ hx
        | ok r3 => exact run_err s k _ _ _ _ hr
  | k + 1, .una, p, dp, e, hr => by
    rw [run] at hr
    cases hf : find1 Uop.str s (sk s p) uops with
    | some u =>
      rw [hf] at hr
      dsimp only at hr
      by_cases h30 : 30 ≤ dp
      · rw [if_pos h30] at hr; cases hr; decide
      · rw [if_neg h30] at hr
        cases hx : run s k .una (sk s p + 1) (dp + 1) with
        | none => rw [hx] at hr; cases hr
        | some r2 =>
          rw [hx] at hr
          cases r2 with
          | error e => cases hr; exact run_err s k _ _ _ _ hx
          | ok r3 => cases hr
    | none =>
      rw [hf] at hr
      dsimp only at hr
      by_cases hl : hasAt s (sk s p) lpar = true
      · rw [if_pos hl] at hr
        by_cases h30 : 30 ≤ dp
        · rw [if_pos h30] at hr; cases hr; decide
        · rw [if_neg h30] at hr
          cases hx : run s k (.lev 0) (sk s p + 1) (dp + 1) with
          | none => rw [hx] at hr; cases hr
          | some r2 =>
            rw [hx] at hr
            cases r2 with
            | error e => cases hr; exact run_err s k _ _ _ _ hx
            | ok r3 =>
              dsimp only at hr
              by_cases hrp : hasAt s (sk s r3.2) rpar = true
              · rw [if_pos hrp] at hr; cases hr
              · rw [if_neg hrp] at hr; cases hr; decide
      · rw [if_neg hl] at hr
        by_cases hn : nameB (s.extract (sk s p) (wordEnd s (sk s p))) = true
        · rw [if_pos hn] at hr; cases hr
        · rw [if_neg hn] at hr
          by_cases hw : (wholeV (s.extract (sk s p) (wordEnd s (sk s p)))).2.2 = 0
          · rw [if_pos hw] at hr; cases hr
          · rw [if_neg hw] at hr; cases hr; decide
theorem two_err {m : Bop} {a b e : Int} (h : twoV m a b = .error e) : e ≠ 0 := by
  cases m <;> simp only [twoV] at h <;> first | (cases h; done) | (split at h <;> first | (cases h; done) | (cases h; decide))
theorem val_err {l : Vars} : ∀ {x : A.Node} {e : Int}, valueV l x = .error e → e ≠ 0
  | .num n, e, h => by cases h
  | .name t, e, h => by
    rw [valueV, valueOfV] at h
    split at h
    · cases h
    · split at h
      · cases h
      · cases h; decide
  | .un m a, e, h => by
    rw [valueV] at h
    cases ha : valueV l a with
    | ok v => rw [ha] at h; cases h
    | error e2 => rw [ha] at h; cases h; exact val_err ha
  | .bin m a b, e, h => by
    rw [valueV] at h
    cases ha : valueV l a with
    | error e2 => rw [ha] at h; cases h; exact val_err ha
    | ok v =>
      rw [ha] at h
      dsimp only at h
      split at h
      · cases h
      · cases hb : valueV l b with
        | error e2 => rw [hb] at h; cases h; exact val_err hb
        | ok v2 => rw [hb] at h; exact two_err h
theorem eval_inv {k : Nat} {s : ByteArray} {l : Vars} {n : Int} (h : arith_Eval.f k s l = some (n, 0)) : ∃ x q, run s k (.lev 0) 0 0 = some (.ok (x, q)) ∧ ¬ sk s q < s.size ∧ valueV l x = .ok n := by
  unfold arith_Eval.f at h
  split at h
  · unfold evalV at h
    cases hr : run s k (.lev 0) 0 0 with
    | none => rw [hr] at h; cases h
    | some r =>
      rw [hr] at h
      cases r with
      | error e => cases h; exact absurd rfl (run_err s _ _ _ _ _ hr)
      | ok r3 =>
        obtain ⟨x, q⟩ := r3
        dsimp only at h
        by_cases hq : sk s q < s.size
        · rw [if_pos hq] at h; cases h
        · rw [if_neg hq] at h
          cases hv : valueV l x with
          | error e => rw [hv] at h; cases h; exact absurd rfl (val_err hv)
          | ok v => rw [hv] at h; cases h; exact ⟨x, q, rfl, hq, hv⟩
  · cases h
section
variable {l : Vars} (hl : l.length ≤ 30) (hf : fitB l = true)
include hl hf
theorem eval_ok {k : Nat} {s : ByteArray} {x : A.Node} {q : Nat} {n : Int} (hs : s.size ≤ 1000000) (hr : run s k (.lev 0) 0 0 = some (.ok (x, q))) (hq : ¬ sk s q < s.size) (hv : valueV l x = .ok n) : arith_Eval.f k s l = some (n, 0) := by
  unfold arith_Eval.f evalV
  rw [if_pos ⟨by omega, by omega, hf⟩, hr]
  dsimp only
  rw [if_neg hq, hv]
theorem eval_bad {k : Nat} {s : ByteArray} {e : Int} (hs : s.size ≤ 1000000) (hr : run s k (.lev 0) 0 0 = some (.error e)) : arith_Eval.f k s l = some (0, e) := by
  unfold arith_Eval.f evalV
  rw [if_pos ⟨by omega, by omega, hf⟩, hr]
end
theorem app_list (a b : ByteArray) : (a ++ b).data.toList = a.data.toList ++ b.data.toList := by simp
def t1 (s : ByteArray) : ByteArray := ((⟨#[40]⟩ : ByteArray) ++ s) ++ (⟨#[41]⟩ : ByteArray)
def t2 (s : ByteArray) : ByteArray := ((⟨#[33, 33, 40]⟩ : ByteArray) ++ s) ++ (⟨#[41]⟩ : ByteArray)
def t3 (s : ByteArray) : ByteArray := ((((⟨#[40]⟩ : ByteArray) ++ s) ++ (⟨#[41, 45, 40]⟩ : ByteArray)) ++ s) ++ (⟨#[41]⟩ : ByteArray)
theorem l1 (s : ByteArray) : (t1 s).data.toList = 40 :: (s.data.toList ++ [41]) := by unfold t1; rw [app_list, app_list]; rfl
theorem l2 (s : ByteArray) : (t2 s).data.toList = 33 :: 33 :: 40 :: (s.data.toList ++ [41]) := by unfold t2; rw [app_list, app_list]; rfl
theorem l3 (s : ByteArray) : (t3 s).data.toList = 40 :: (s.data.toList ++ (41 :: 45 :: 40 :: (s.data.toList ++ [41]))) := by
  unfold t3; rw [app_list, app_list, app_list, app_list]
  change ((([40] ++ s.data.toList) ++ [41, 45, 40]) ++ s.data.toList) ++ [41] = _
  simp
theorem z1 (s : ByteArray) : (t1 s).size = s.size + 2 := by rw [← len_list, l1]; simp
theorem z2 (s : ByteArray) : (t2 s).size = s.size + 4 := by rw [← len_list, l2]; simp
theorem z3 (s : ByteArray) : (t3 s).size = s.size + 3 + s.size + 2 := by rw [← len_list, l3]; simp; omega
set_option maxHeartbeats 1000000 in
theorem brackets_read {s : ByteArray} {l : Vars} {K q : Nat} {x : A.Node} {n : Int} (hs : s.size ≤ 400) (hl : l.length ≤ 30) (hf : fitB l = true) (hr : run s K (.lev 0) 0 0 = some (.ok (x, q))) (hq : ¬ sk s q < s.size) (hv : valueV l x = .ok n) :
    (∃ k, arith_Eval.f k (t1 s) l = some (0, 7)) ∨ (∃ k, arith_Eval.f k (t2 s) l = some (0, 7)) ∨
      ∃ k1 k2 k3, arith_Eval.f k1 (t1 s) l = some (n, 0) ∧ arith_Eval.f k2 (t2 s) l = some (if n = 0 then 0 else 1, 0) ∧ arith_Eval.f k3 (t3 s) l = some (0, 0) := by
  have s1 := z1 s
  have s2 := z2 s
  have s3 := z3 s
  have i1 : In s (t1 s) (0 + 1) := ⟨[40], [], rfl, by rw [l1]; rfl⟩
  have i2 : In s (t2 s) (2 + 1) := ⟨[33, 33, 40], [], rfl, by rw [l2]; rfl⟩
  have i3 : In s (t3 s) (0 + 1) := ⟨[40], 45 :: 40 :: (s.data.toList ++ [41]), rfl, by rw [l3]; rfl⟩
  have i4 : In s (t3 s) (s.size + 3 + 1) := ⟨40 :: (s.data.toList ++ [41, 45, 40]), [], by simp, by rw [l3]; simp⟩
  have d1 : (t1 s).data.toList.drop 0 = 40 :: (s.data.toList ++ [41]) := l1 s
  have d2 : (t2 s).data.toList.drop 2 = 40 :: (s.data.toList ++ [41]) := by rw [l2]; rfl
  have d2b : (t2 s).data.toList.drop 1 = 33 :: 40 :: (s.data.toList ++ [41]) := by rw [l2]; rfl
  have d2c : (t2 s).data.toList.drop 0 = 33 :: 33 :: 40 :: (s.data.toList ++ [41]) := l2 s
  have d3 : (t3 s).data.toList.drop 0 = 40 :: (s.data.toList ++ (41 :: 45 :: 40 :: (s.data.toList ++ [41]))) := l3 s
  have dd : ∀ j, (t3 s).data.toList.drop (s.size + 1 + j) = (41 :: 45 :: 40 :: (s.data.toList ++ [41])).drop j := by
    intro j
    rw [l3, show s.size + 1 + j = (s.size + j) + 1 by omega, List.drop_succ_cons, ← len_list s, List.drop_length_add_append]
  have d4 : (t3 s).data.toList.drop (s.size + 2) = 45 :: 40 :: (s.data.toList ++ [41]) := dd 1
  have d5 : (t3 s).data.toList.drop (s.size + 3) = 40 :: (s.data.toList ++ [41]) := dd 2
  rcases una_par d1 i1 hr hq (dp := 0) (by omega) with ⟨c1, u1⟩ | ⟨c1, u1⟩
  · rcases una_par d2 i2 c1 hq (dp := 2) (by omega) with ⟨c2, u2⟩ | ⟨c2, u2⟩
    · right; right
      rw [show 0 + s.size + 2 = (t1 s).size by omega] at u1
      obtain ⟨k1, h1⟩ := top u1
      have v2 : run (t2 s) (K + 1 + 1) .una 1 1 = some (.ok (.un .not x, 2 + s.size + 2)) := (una_neg d2b (k := K + 1) (dp := 1) (by omega)).trans (by rw [show run (t2 s) (K + 1) .una (1 + 1) (1 + 1) = some (.ok (x, 2 + s.size + 2)) from u2])
      have w2 : run (t2 s) (K + 1 + 1 + 1) .una 0 0 = some (.ok (.un .not (.un .not x), 2 + s.size + 2)) := (una_neg d2c (k := K + 1 + 1) (dp := 0) (by omega)).trans (by rw [show run (t2 s) (K + 1 + 1) .una (0 + 1) (0 + 1) = some (.ok (.un .not x, 2 + s.size + 2)) from v2])
      rw [show 2 + s.size + 2 = (t2 s).size by omega] at w2
      obtain ⟨k2, h2⟩ := top w2
      have hd3 : ∀ o, In s (t3 s) (o + 1) → ∀ r, (t3 s).data.toList.drop o = 40 :: r → run (t3 s) (K + 1) .una o 0 = some (.ok (x, o + s.size + 2)) := by
        intro o ho r hor
        rcases una_par hor ho c1 hq (dp := 0) (by omega) with ⟨_, h⟩ | ⟨h, _⟩
        · exact h
        · rw [c1] at h; cases h
      have a3 := hd3 0 i3 _ d3
      have b3 := hd3 (s.size + 3) i4 _ d5
      rw [show 0 + s.size + 2 = s.size + 2 by omega] at a3
      rw [show s.size + 3 + s.size + 2 = (t3 s).size by omega] at b3
      have hsk := sk_stay d4 (by decide)
      obtain ⟨ka, ha⟩ := climb (t := t3 s) (p := 0) (dp := 0) (k := K + 1 + 1) (n := 6) (by rw [run, if_pos rfl]; exact a3) (Nat.le_refl _) hsk 1 5 (by omega) (fun i h0 h5 => by
        obtain rfl : i = 5 := by omega
        exact no5 d4 rfl)
      obtain ⟨kb, hb⟩ := climb (t := t3 s) (p := s.size + 3) (dp := 0) (k := K + 1 + 1) (n := 6) (by rw [run, if_pos rfl]; exact b3) (Nat.le_refl _) sk_end 1 5 (by omega) (fun i _ _ => find_end)
      have h4 : run (t3 s) (ka + kb + 1 + 1 + 1) (.lev 4) 0 0 = some (.ok (.bin .sub x x, (t3 s).size)) := by
        rw [run, if_neg (by omega), run_ge ha (by omega : ka ≤ ka + kb + 1 + 1)]
        dsimp only
        rw [run, hsk, sub4 d4 rfl]
        dsimp only
        rw [show s.size + 2 + Bop.sub.str.size = s.size + 3 from rfl, run_ge hb (by omega : kb ≤ ka + kb + 1)]
        dsimp only
        rw [run, sk_end, find_end]
      obtain ⟨k3, h3⟩ := climb h4 (by omega) sk_end 4 0 (by omega) (fun i _ _ => find_end)
      refine ⟨k1, k2, k3, eval_ok hl hf (by omega) h1 (by rw [sk_end]; omega) hv, eval_ok hl hf (by omega) h2 (by rw [sk_end]; omega) ?_, eval_ok hl hf (by omega) h3 (by rw [sk_end]; omega) ?_⟩
      · rw [valueV, valueV, hv]
        dsimp only
        by_cases hn : n = 0
        · subst hn; rfl
        · rw [if_neg hn]
          simp [oneV, yesV, hn]
      · rw [valueV, hv]
        dsimp only
        rw [if_neg (by simp), twoV, Int.sub_self, wrap_id (by omega) (by omega)]
    · right; left
      have v2 : run (t2 s) (K + 1 + 1) .una 1 1 = some (.error 7) := (una_neg d2b (k := K + 1) (dp := 1) (by omega)).trans (by rw [show run (t2 s) (K + 1) .una (1 + 1) (1 + 1) = some (.error 7) from u2])
      have w2 : run (t2 s) (K + 1 + 1 + 1) .una 0 0 = some (.error 7) := (una_neg d2c (k := K + 1 + 1) (dp := 0) (by omega)).trans (by rw [show run (t2 s) (K + 1 + 1) .una (0 + 1) (0 + 1) = some (.error 7) from v2])
      obtain ⟨k2, h2⟩ := top_err w2
      exact ⟨k2, eval_bad hl hf (by omega) h2⟩
  · left
    obtain ⟨k1, h1⟩ := top_err u1
    exact ⟨k1, eval_bad hl hf (by omega) h1⟩
theorem leo_ge {α : Type} {F : Nat → Option α} (hm : ∀ k, LeO (F k) (F (k + 1))) {k K : Nat} {r : α} (h : F k = some r) (hk : k ≤ K) : F K = some r := by
  obtain ⟨j, rfl⟩ := Nat.exists_eq_add_of_le hk
  induction j with
  | zero => exact h
  | succ j ih => exact hm _ _ (ih (by omega))
theorem shown_ge {k : Nat} (hk : 60 ≤ k) : dragomanlaw10_shown.f k = some true := leo_ge (fun j => dragomanlaw10_shown.mono j) shown_f hk
theorem eval_same {k K : Nat} {s : ByteArray} {l : Vars} {r r' : Int × Int} (h : arith_Eval.f k s l = some r) (h' : arith_Eval.f K s l = some r') : r = r' := by
  have a := eval_ge h (by omega : k ≤ k + K)
  have b := eval_ge h' (by omega : K ≤ k + K)
  rw [a] at b
  exact Option.some.inj b
set_option maxHeartbeats 1000000 in
theorem brackets (a0 : ByteArray) (l : Vars) (hs : a0.size ≤ 140737488351232) (hok : OkV l) : ∃ k, dragomanlaw10_ArithBrackets.f k a0 l = some true := by
  have hearly : ∀ k x, dragomanlaw10_ArithBrackets.j0 (k + 1) a0 l x true = some x := fun k x => by rw [dragomanlaw10_ArithBrackets.j0, if_pos rfl]
  obtain ⟨b, hb, hbs⟩ := few_f hok 1000 (by omega)
  have few_at : ∀ K, 1000 ≤ K → dragomanlaw10_few.f K l = some b := fun K hK => leo_ge (fun j => dragomanlaw10_few.mono l j) hb hK
  have he : ∀ K, 1000 ≤ K → dragomanlaw10_ArithBrackets.f K a0 l = (if b = true then (dragomanlaw10_ArithBrackets.j0 K a0 l true (decide ((a0.size : Int) > 400))) else (dragomanlaw10_ArithBrackets.j0 K a0 l true true)) := by
    intro K hK
    unfold dragomanlaw10_ArithBrackets.f
    rw [shown_ge (by omega), Option.bind_some, few_at K hK, Option.bind_some]
  cases b with
  | false => exact ⟨999 + 1, by rw [he _ (by omega), if_neg (by simp), hearly]⟩
  | true =>
    by_cases hlong : (a0.size : Int) > 400
    · exact ⟨999 + 1, by rw [he _ (by omega), if_pos rfl, decide_eq_true hlong, hearly]⟩
    · obtain ⟨hl, hsm⟩ := hbs rfl
      have hf := fit_few hsm
      have s1 := z1 a0
      have s2 := z2 a0
      have s3 := z3 a0
      obtain ⟨k0, n, e, h0⟩ := eval_total a0 l (by omega) (by omega) hf
      obtain ⟨k1, n1, e1, h1⟩ := eval_total (t1 a0) l (by omega) (by omega) hf
      obtain ⟨k2, n2, e2, h2⟩ := eval_total (t2 a0) l (by omega) (by omega) hf
      obtain ⟨k3, n3, e3, h3⟩ := eval_total (t3 a0) l (by omega) (by omega) hf
      have hfact : e = 0 → e1 ≠ 7 → e2 ≠ 7 → n1 = n ∧ e1 = 0 ∧ n2 = (if n = 0 then 0 else 1) ∧ e2 = 0 ∧ n3 = 0 ∧ e3 = 0 := by
        intro he0 he1 he2
        subst he0
        obtain ⟨x, q, hr, hq, hv⟩ := eval_inv h0
        rcases brackets_read (by omega) hl hf hr hq hv with ⟨j, hj⟩ | ⟨j, hj⟩ | ⟨j1, j2, j3, g1, g2, g3⟩
        · exact absurd (Prod.mk.inj (eval_same h1 hj)).2 he1
        · exact absurd (Prod.mk.inj (eval_same h2 hj)).2 he2
        · have m1 := Prod.mk.inj (eval_same h1 g1)
          have m2 := Prod.mk.inj (eval_same h2 g2)
          have m3 := Prod.mk.inj (eval_same h3 g3)
          exact ⟨m1.1, m1.2, m2.1, m2.2, m3.1, m3.2⟩
      have fin1 : ∀ k y, (y = false → e = 0 ∧ e1 ≠ 7 ∧ e2 ≠ 7) → dragomanlaw10_ArithBrackets.j1 (k + 1) true n n1 e1 n2 e2 n3 e3 y = some true := by
        intro k y hy
        rw [dragomanlaw10_ArithBrackets.j1]
        cases y with
        | true => rw [if_pos rfl]
        | false =>
          obtain ⟨a1, a2, a3⟩ := hy rfl
          obtain ⟨b1, b2, b3, b4, b5, b6⟩ := hfact a1 a2 a3
          rw [if_neg (by simp)]
          by_cases hn : n = 0
          · rw [if_pos hn] at b3
            rw [if_pos hn, if_pos rfl, if_pos b2, if_pos b1, if_pos b4, if_pos b3, if_pos b6, b5]
            rfl
          · rw [if_neg hn] at b3
            rw [if_neg hn, if_pos rfl, if_pos b2, if_pos b1, if_pos b4, if_pos b3, if_pos b6, b5]
            rfl
      refine ⟨k0 + k1 + k2 + k3 + 1000 + 1 + 1, ?_⟩
      rw [he _ (by omega), if_pos rfl, decide_eq_false hlong]
      have g0 := eval_ge h0 (by omega : k0 ≤ k0 + k1 + k2 + k3 + 1000 + 1)
      have g1 : arith_Eval.f (k0 + k1 + k2 + k3 + 1000 + 1) (((⟨#[40]⟩ : ByteArray) ++ a0) ++ (⟨#[41]⟩ : ByteArray)) l = _ := eval_ge h1 (by omega)
      have g2 : arith_Eval.f (k0 + k1 + k2 + k3 + 1000 + 1) (((⟨#[33, 33, 40]⟩ : ByteArray) ++ a0) ++ (⟨#[41]⟩ : ByteArray)) l = _ := eval_ge h2 (by omega)
      have g3 : arith_Eval.f (k0 + k1 + k2 + k3 + 1000 + 1) (((((⟨#[40]⟩ : ByteArray) ++ a0) ++ (⟨#[41, 45, 40]⟩ : ByteArray)) ++ a0) ++ (⟨#[41]⟩ : ByteArray)) l = _ := eval_ge h3 (by omega)
      have y1 : (⟨#[40]⟩ : ByteArray).size = 1 := rfl
      have y3 : (⟨#[33, 33, 40]⟩ : ByteArray).size = 3 := rfl
      have y4 : (⟨#[41, 45, 40]⟩ : ByteArray).size = 3 := rfl
      rw [dragomanlaw10_ArithBrackets.j0, if_neg (by simp), g0, Option.bind_some, if_pos (by omega), if_pos (by rw [ByteArray.size_append]; omega), g1, Option.bind_some,
        if_pos (by omega), if_pos (by rw [ByteArray.size_append]; omega), g2, Option.bind_some, if_pos (by rw [ByteArray.size_append]; omega), if_pos (by rw [ByteArray.size_append, ByteArray.size_append]; omega),
        if_pos (by rw [ByteArray.size_append, ByteArray.size_append, ByteArray.size_append]; omega), g3, Option.bind_some]
      dsimp only
      by_cases he0 : e = 0
      · rw [if_pos he0]
        by_cases h7 : e1 = 7
        · rw [if_pos h7]; exact fin1 _ _ (fun h => by cases h)
        · rw [if_neg h7]; exact fin1 _ _ (fun h => ⟨he0, h7, by simpa using h⟩)
      · rw [if_neg he0]; exact fin1 _ _ (fun h => by cases h)
end Go.Proofs.YtambnodgfhlpfaaDoor.P
