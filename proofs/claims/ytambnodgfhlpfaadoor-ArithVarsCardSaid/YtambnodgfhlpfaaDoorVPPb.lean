import Derived.Test.YtambnodgfhlpfaaDoorVAV
import Derived.Test.YtambnodgfhlpfaaDoorVQAx6
import Derived.Test.YtambnodgfhlpfaaDoorVQAx5
import Derived.Test.YtambnodgfhlpfaaDoorVRM
import Derived.Test.YtambnodgfhlpfaaDoorVQBx1
import Derived.Test.YtambnodgfhlpfaaDoorVQAx0
import Derived.OpenShut
import Derived.Deep.Slices
import Derived.Deep.SlicePairs
import Derived.ChangeOld
import Derived.Carry
import Derived.SizedLaws
import Derived.Test.YtambnodgfhlpfaaDoorVQAx2
import Derived.Test.YtambnodgfhlpfaaDoorVQAx3
import Derived.Test.YtambnodgfhlpfaaDoorVSGb
import Derived.Test.YtambnodgfhlpfaaDoorVQAx4
import Derived.Test.YtambnodgfhlpfaaDoorVGHexA
import Derived.Test.YtambnodgfhlpfaaDoorVQEc
/- The plain law of a number's figures: what is read of a text, here and by the document. No Go and no memory stands here. -/
set_option linter.unusedVariables false
set_option linter.unusedSimpArgs false
namespace Go.Proofs.YtambnodgfhlpfaaDoor.P
open Go.RowKit Go.Proofs.YtambnodgfhlpfaaDoorW.PrintWords Go.Proofs.YtambnodgfhlpfaaDoorW.PrintLast Go.Proofs.YtambnodgfhlpfaaDoor.G Go.Proofs.YtambnodgfhlpfaaDoor.QA Go.Proofs.YtambnodgfhlpfaaDoor.A

/-! ### bytes -/
theorem bt_get (s : ByteArray) (i : Nat) (h : i < s.size) : bt s i = (bytesOf s)[i]'(by rw [bytesOf_length]; exact h) := by
  unfold bt bytesOf
  simp [h]
  rfl
theorem toList_inj {a b : ByteArray} : a.toList = b.toList ↔ a = b := by
  constructor
  · intro h
    rw [ByteArray.toList_eq, ByteArray.toList_eq] at h
    exact ByteArray.ext (Array.ext' h)
  · rintro rfl; rfl

theorem wrap_id {x : Int} (h0 : -9223372036854775808 ≤ x) (h1 : x ≤ 9223372036854775807) : wrap64 x = x := by unfold wrap64; omega
/-! ### figures in a row -/
def val (acc : Nat) : List Int → Nat
  | [] => acc
  | c :: r => val (10 * acc + (c - 48).toNat) r
/-! ### the reference reads -/
end Go.Proofs.YtambnodgfhlpfaaDoor.P

/- The plain law of the statements' own figures, and of what a text that is written out comes to. No Go and no memory stands here. -/
set_option linter.unusedVariables false
set_option linter.unusedSimpArgs false
namespace Go.Proofs.YtambnodgfhlpfaaDoor.P
open Go.RowKit Go.Proofs.YtambnodgfhlpfaaDoorW.PrintWords Go.Proofs.YtambnodgfhlpfaaDoorW.PrintLast Go.Proofs.YtambnodgfhlpfaaDoor.G Go.Proofs.YtambnodgfhlpfaaDoor.QA Go.Proofs.YtambnodgfhlpfaaDoor.A

end Go.Proofs.YtambnodgfhlpfaaDoor.P

/- What texts that are written out come to; the statements on two numbers' figures in plain words. -/
set_option linter.unusedVariables false
set_option linter.unusedSimpArgs false
namespace Go.Proofs.YtambnodgfhlpfaaDoor.P
open Go.RowKit Go.Proofs.YtambnodgfhlpfaaDoorW.PrintWords Go.Proofs.YtambnodgfhlpfaaDoorW.PrintLast Go.Proofs.YtambnodgfhlpfaaDoor.G Go.Proofs.YtambnodgfhlpfaaDoor.QA Go.Proofs.YtambnodgfhlpfaaDoor.A Go.Proofs.YtambnodgfhlpfaaDoor.QB

def cb : ByteArray := ⟨#[98]⟩
def cc : ByteArray := ⟨#[99]⟩
theorem shown_f : dragomanlaw10_shown.f 60 = some true := by
  have h1 : arith_Eval.f 60 (⟨#[50, 32, 43, 32, 51, 32, 42, 32, 120]⟩ : ByteArray) [(⟨(⟨#[120]⟩ : ByteArray), (⟨#[52]⟩ : ByteArray)⟩ : S39)] = some (14, 0) := by decide +kernel
  have h2 : arith_Eval.f 60 (⟨#[49, 32, 124, 124, 32, 49, 32, 47, 32, 48]⟩ : ByteArray) [] = some (1, 0) := by decide +kernel
  unfold dragomanlaw10_shown.f
  rw [h1, Option.bind_some, h2, Option.bind_some]
  rfl

section
end
end Go.Proofs.YtambnodgfhlpfaaDoor.P

/- A row of variables that comes in, opened; how long its texts can be. -/
set_option linter.unusedVariables false
set_option linter.unusedSimpArgs false
namespace Go.Proofs.YtambnodgfhlpfaaDoor.G
open Go.RowKit Go.ChangeShapes Go.WideShapes Go.Deep Go.Proofs.YtambnodgfhlpfaaDoorW.PrintWords Go.Proofs.YtambnodgfhlpfaaDoorW.PrintLast Go.Proofs.YtambnodgfhlpfaaDoorW.PrintMore Go.Proofs.YtambnodgfhlpfaaDoor.QA
theorem choose_list {α : Type} (n : Nat) (p : Nat → α → Prop) (h : ∀ i, i < n → ∃ x, p i x) : ∃ l : List α, l.length = n ∧ ∀ i x, l[i]? = some x → p i x := by
  induction n with
  | zero => exact ⟨[], rfl, fun i x hx => by simp at hx⟩
  | succ n ih =>
    obtain ⟨l, hl, hp⟩ := ih (fun i hi => h i (by omega))
    obtain ⟨x, hx⟩ := h n (by omega)
    refine ⟨l ++ [x], by simp [hl], fun i y hy => ?_⟩
    by_cases hi : i < n
    · rw [List.getElem?_append_left (by omega)] at hy
      exact hp i y hy
    · have hlt : i < (l ++ [x]).length := (List.getElem?_eq_some_iff.1 hy).1
      simp at hlt
      have : i = n := by omega
      subst this
      rw [List.getElem?_append_right (by omega)] at hy
      simp [hl] at hy
      subst hy
      exact hx
theorem weights_all {H : Type} {P : Program} {e : TypeId} {d : DataW H} {n : Nat} : ∀ {ds : List (DataW H)}, d ∈ ds → n ∈ d.weights P e → n ∈ DataW.weightsAll P e ds
  | [], h, _ => by cases h
  | x :: r, h, hn => by
    rw [DataW.weightsAll]
    rcases List.mem_cons.1 h with rfl | h
    · exact List.mem_append_left _ hn
    · exact List.mem_append_right _ (weights_all h hn)
set_option maxRecDepth 100000 in
theorem open_T22 {H : Type} {enc : TypeId × Value → H} {w : World} {base : Nat} {held : Bool} {r : Reach} {b0 : Nat} {v : Value} {d : DataW H} {p : List MemPlace} (hv : Value.okWide Tryd.prog w r b0 22 v) (h : DataW.Trod enc Tryd.prog w base (fun _ => true) held 22 v d p) :
    ∃ (A : Option Addr) (cap : Nat) (l0 : List S39), v = .slice A l0.length cap ∧ l0.length ≤ cap ∧ Kd.C k39 w A l0.length l0 ∧ ∀ x, x ∈ l0 → x.f0.size ∈ d.weights Tryd.prog 22 ∧ x.f1.size ∈ d.weights Tryd.prog 22 := by
  obtain ⟨A, len, cap, rfl⟩ := okWide_slice Tryd.underlying22 hv
  obtain ⟨fuel, hf⟩ := h
  rcases open_slice_pairs Tryd.underlying22 Tryd.underlying39 (by kernel_rfl) rfl rfl (by kernel_rfl) (by kernel_rfl) hf with ⟨hcs, _⟩ | ⟨a, l, c, m, n, V0, V1, D0, D1, P0, P1, hcs, _, hl, hm, hmm, hx, hel⟩
  · simp [Value.cells] at hcs
    obtain ⟨rfl, rfl, rfl⟩ := hcs
    exact ⟨none, 0, [], rfl, Nat.le_refl _, ⟨rfl, by decide, fun h => by cases h⟩, fun x hx => by cases hx⟩
  · simp [Value.cells] at hcs
    obtain ⟨rfl, rfl, rfl⟩ := hcs
    simp only [if_true] at hmm
    subst hmm
    obtain ⟨l0, hl0, hp⟩ := choose_list len (fun i (x : S39) => (w.cell? (a.add (i * 2)) = some (.string x.f0) ∧ w.cell? (a.add (i * 2 + 1)) = some (.string x.f1)) ∧ D0 i = .lit (.string x.f0.data.toList) ∧ D1 i = .lit (.string x.f1.data.toList)) (fun i hi => by
      obtain ⟨c0, c1, t0, t1⟩ := hel i (by omega)
      obtain ⟨x0, e0, y0, _⟩ := DataW.trod_string Tryd.underlying9 t0
      obtain ⟨x1, e1, y1, _⟩ := DataW.trod_string Tryd.underlying9 t1
      rw [List.cons.inj e0 |>.1] at c0
      rw [List.cons.inj e1 |>.1] at c1
      exact ⟨⟨x0, x1⟩, ⟨c0, c1⟩, (Prod.mk.inj y0).1, (Prod.mk.inj y1).1⟩)
    refine ⟨some a, _, l0, by rw [hl0], by omega, ⟨rfl, by unfold maxLen at hm; omega, fun _ => ⟨a, rfl, fun j x hx => ⟨_, rfl, k39_mk _ x, ?_⟩⟩⟩, fun x hx2 => ?_⟩
    · obtain ⟨⟨h0, h1⟩, _⟩ := hp j x hx
      intro i u hu
      match i, hu with
      | 0, hu => cases hu; exact h0
      | 1, hu => cases hu; exact h1
    · obtain ⟨i, hi⟩ := List.mem_iff_getElem?.1 hx2
      have hlt : i < len := by have := (List.getElem?_eq_some_iff.1 hi).1; omega
      obtain ⟨_, d0, d1⟩ := hp i x hi
      have hd := (Prod.mk.inj hx).1
      have hmem : (DataW.agg [D0 i, D1 i] : DataW H) ∈ (List.range len).map fun i => (DataW.agg [D0 i, D1 i] : DataW H) := List.mem_map.2 ⟨i, List.mem_range.2 hlt, rfl⟩
      have hw : ∀ n, n ∈ (DataW.agg [D0 i, D1 i] : DataW H).weights Tryd.prog 39 → n ∈ d.weights Tryd.prog 22 := by
        intro n hn
        rw [hd]
        simp only [DataW.weights, Tryd.underlying22]
        exact List.mem_cons_of_mem _ (List.mem_append_left _ (weights_all hmem hn))
      rw [d0, d1] at hw
      exact ⟨hw _ (by simp [DataW.weights, DataW.weightsEach, Tryd.underlying39]), hw _ (by simp [DataW.weights, DataW.weightsEach, Tryd.underlying39])⟩
end Go.Proofs.YtambnodgfhlpfaaDoor.G

/- A text that stands in brackets within another one is read there as by itself; every text is read to an end. -/
set_option linter.unusedVariables false
set_option linter.unusedSimpArgs false
namespace Go.Proofs.YtambnodgfhlpfaaDoor.P
open Go.RowKit Go.Proofs.YtambnodgfhlpfaaDoorW.PrintWords Go.Proofs.YtambnodgfhlpfaaDoorW.PrintLast Go.Proofs.YtambnodgfhlpfaaDoor.G Go.Proofs.YtambnodgfhlpfaaDoor.QA Go.Proofs.YtambnodgfhlpfaaDoor.A

/-- A text stands in another one, from o on, and a closing bracket behind it. -/
def In (s t : ByteArray) (o : Nat) : Prop := ∃ a z : List UInt8, a.length = o ∧ t.data.toList = a ++ (s.data.toList ++ 41 :: z)
theorem len_list (s : ByteArray) : s.data.toList.length = s.size := by simp
theorem In.drop {s t : ByteArray} {o : Nat} (h : In s t o) : ∃ z, ∀ p, p ≤ s.size → t.data.toList.drop (o + p) = s.data.toList.drop p ++ 41 :: z := by
  obtain ⟨a, z, rfl, ht⟩ := h
  refine ⟨z, fun p hp => ?_⟩
  rw [ht, List.drop_length_add_append, List.drop_append_of_le_length (by rw [len_list]; exact hp)]
theorem In.size {s t : ByteArray} {o : Nat} (h : In s t o) : o + s.size + 1 ≤ t.size := by
  obtain ⟨a, z, rfl, ht⟩ := h
  have := congrArg List.length ht
  simp at this
  omega
theorem bt_drop (s : ByteArray) (i : Nat) : bt s i = (((s.data.toList.drop i).headD 0).toNat : Int) := by
  unfold bt
  by_cases h : i < s.size
  · rw [dif_pos (by simpa using h), List.drop_eq_getElem_cons (by rw [len_list]; exact h)]
    rfl
  · rw [dif_neg (by simpa using h), List.drop_eq_nil_of_le (by rw [len_list]; omega)]
    rfl
section
variable {s t : ByteArray} {o : Nat} (h : In s t o)
include h
theorem In.bt {p : Nat} (hp : p < s.size) : bt t ((o + p : Nat) : Int) = bt s p := by
  obtain ⟨z, hz⟩ := h.drop
  rw [bt_drop, bt_drop, hz p (by omega), List.drop_eq_getElem_cons (by rw [len_list]; exact hp)]
  rfl
theorem In.bt_end : Go.Proofs.YtambnodgfhlpfaaDoorW.PrintWords.bt t ((o + s.size : Nat) : Int) = 41 := by
  obtain ⟨z, hz⟩ := h.drop
  rw [bt_drop, hz s.size (Nat.le_refl _), List.drop_eq_nil_of_le (by rw [len_list]; exact Nat.le_refl _)]
  rfl
theorem In.sk_aux : ∀ d p, p + d = s.size → sk t (o + p) = o + sk s p
  | 0, p, hp => by
    have hp' : p = s.size := by omega
    subst hp'
    rw [sk_no s s.size (fun hh => absurd hh (Nat.lt_irrefl _)), sk_no t (o + s.size) (fun _ => by rw [h.bt_end]; rfl)]
  | d + 1, p, hp => by
    have hs := h.size
    have hlt : p < s.size := by omega
    have hb := h.bt hlt
    cases hc : spB (Go.Proofs.YtambnodgfhlpfaaDoorW.PrintWords.bt s p) with
    | true =>
      rw [sk_yes s p hlt hc, sk_yes t (o + p) (by omega) (by rw [hb]; exact hc)]
      exact In.sk_aux d (p + 1) (by omega)
    | false => rw [sk_no s p (fun _ => hc), sk_no t (o + p) (fun _ => by rw [hb]; exact hc)]
theorem In.sk {p : Nat} (hp : p ≤ s.size) : A.sk t (o + p) = o + A.sk s p := In.sk_aux h (s.size - p) p (by omega)
end
theorem ext_list (s : ByteArray) (i j : Nat) : (s.extract i j).data.toList = (s.data.toList.drop i).take (j - i) := by
  rw [ByteArray.data_extract, Array.toList_extract, List.extract_eq_take_drop]
theorem hasAt_drop (s : ByteArray) (p : Nat) (m : ByteArray) : hasAt s p m = m.data.toList.isPrefixOf (s.data.toList.drop p) := by
  unfold hasAt Lib.hasPrefix
  rw [ext_list, List.take_of_length_le (by rw [List.length_drop, len_list]; exact Nat.le_refl _)]
theorem pre_app : ∀ (m l z : List UInt8), (41 : UInt8) ∉ m → m.isPrefixOf (l ++ 41 :: z) = m.isPrefixOf l
  | [], _, _, _ => by simp
  | x :: m, [], z, hm => by
    have : x ≠ 41 := fun he => hm (by rw [he]; exact List.mem_cons_self)
    simp [List.isPrefixOf, this]
  | x :: m, y :: l, z, hm => by
    rw [List.cons_append, List.isPrefixOf, List.isPrefixOf, pre_app m l z (fun hh => hm (List.mem_cons_of_mem _ hh))]
theorem bop_no (m : Bop) : (41 : UInt8) ∉ m.str.data.toList := by cases m <;> decide
theorem uop_no (m : Uop) : (41 : UInt8) ∉ m.str.data.toList := by cases m <;> decide
theorem ge_idx (l : List Int) : ∀ d i, (∃ j, i ≤ j ∧ j < i + d ∧ oddB (l.getD j 0) = true) → 0 ≤ idxOdd l i d
  | 0, i, ⟨j, h1, h2, _⟩ => by omega
  | d + 1, i, ⟨j, h1, h2, h3⟩ => by
    rw [idxOdd]
    by_cases hc : oddB (l.getD i 0) = true
    · rw [if_pos hc]; omega
    · rw [if_neg hc]
      refine ge_idx l d (i + 1) ⟨j, ?_, by omega, h3⟩
      by_cases he : j = i
      · subst he; exact absurd h3 hc
      · omega
theorem no_word {x : ByteArray} (h : (41 : UInt8) ∈ x.data.toList) : (nameB x || allDig x) = false := by
  rw [Bool.or_eq_false_iff]
  constructor
  · obtain ⟨j, hj, hx⟩ := List.getElem_of_mem h
    have : 0 ≤ idxOdd (bytesOf x) 0 x.size := by
      refine ge_idx _ _ _ ⟨j, Nat.zero_le _, by rw [len_list] at hj; omega, ?_⟩
      have : (bytesOf x).getD j 0 = 41 := by
        unfold bytesOf
        rw [List.getD_eq_getElem?_getD, List.getElem?_map, List.getElem?_eq_getElem hj, hx]
        rfl
      rw [this]; decide
    unfold nameB
    simp [this]
  · unfold allDig
    rw [List.all_eq_false]
    exact ⟨41, h, by decide⟩
section
variable {s t : ByteArray} {o : Nat} (h : In s t o)
include h
theorem In.has {p : Nat} (hp : p ≤ s.size) {m : ByteArray} (hm : (41 : UInt8) ∉ m.data.toList) : hasAt t (o + p) m = hasAt s p m := by
  obtain ⟨z, hz⟩ := h.drop
  rw [hasAt_drop, hasAt_drop, hz p hp, pre_app _ _ _ hm]
theorem In.close {p : Nat} (hp : p = s.size) : hasAt t (o + p) rpar = true := by
  obtain ⟨z, hz⟩ := h.drop
  rw [hasAt_drop, hz p (by omega), List.drop_eq_nil_of_le (by rw [len_list]; omega)]
  rfl
theorem In.closes {p : Nat} (hp : p ≤ s.size) (hr : hasAt s p rpar = true) : hasAt t (o + p) rpar = true := by
  obtain ⟨z, hz⟩ := h.drop
  rw [hasAt_drop] at hr ⊢
  rw [hz p hp]
  rw [List.isPrefixOf_iff_prefix] at hr ⊢
  exact hr.trans (List.prefix_append _ _)
theorem In.find {α : Type} (f : α → ByteArray) (hf : ∀ m, (41 : UInt8) ∉ (f m).data.toList) {p : Nat} (hp : p ≤ s.size) (l : List α) : find1 f t (o + p) l = find1 f s p l := by
  induction l with
  | nil => rfl
  | cons m r ih => rw [find1, find1, h.has hp (hf m), ih]
theorem In.ext {i j : Nat} (hij : i ≤ j) (hj : j ≤ s.size) : t.extract (o + i) (o + j) = s.extract i j := by
  obtain ⟨z, hz⟩ := h.drop
  refine ByteArray.ext (Array.toList_inj.1 ?_)
  rw [ext_list, ext_list, hz i (by omega), List.take_append_of_le_length (by rw [List.length_drop, len_list]; omega), show o + j - (o + i) = j - i by omega]
theorem In.odd {i : Nat} (hi : i ≤ s.size) : (41 : UInt8) ∈ (t.extract (o + i) (o + s.size + 1)).data.toList := by
  obtain ⟨z, hz⟩ := h.drop
  rw [ext_list, hz i hi, List.take_append, List.length_drop, len_list, show o + s.size + 1 - (o + i) - (s.size - i) = 0 + 1 by omega]
  exact List.mem_append_right _ (by rw [List.take_succ_cons]; exact List.mem_cons_self)
theorem In.wend {f : Nat} : ∀ d i, i + d = s.size → f ≤ i → A.wend t (o + f) (o + i) (t.size - (o + i)) = o + A.wend s f i (s.size - i)
  | 0, i, hi, hf => by
    have hi' : i = s.size := by omega
    subst hi'
    rw [wend_no s f s.size (fun hh => absurd hh (Nat.lt_irrefl _)), wend_no t (o + f) (o + s.size) (fun _ => no_word (h.odd hf))]
  | d + 1, i, hi, hf => by
    have hs := h.size
    have he := h.ext (i := f) (j := i + 1) (by omega) (by omega)
    cases hc : (nameB (s.extract f (i + 1)) || allDig (s.extract f (i + 1))) with
    | true =>
      rw [wend_yes s f i (by omega) hc, wend_yes t (o + f) (o + i) (by omega) (by rw [Nat.add_assoc, he]; exact hc)]
      exact In.wend d (i + 1) (by omega) (by omega)
    | false => rw [wend_no s f i (fun _ => hc), wend_no t (o + f) (o + i) (fun _ => by rw [Nat.add_assoc, he]; exact hc)]
theorem In.word {p : Nat} (hp : p ≤ s.size) : wordEnd t (o + p) = o + wordEnd s p := In.wend h (s.size - p) p (by omega) (Nat.le_refl _)
end
theorem find_size {α : Type} {f : α → ByteArray} {s : ByteArray} {p : Nat} {l : List α} {x : α} (h : find1 f s p l = some x) : (f x).size ≤ s.size - p := by
  induction l with
  | nil => cases h
  | cons m r ih =>
    rw [find1] at h
    by_cases hc : hasAt s p (f m) = true
    · rw [if_pos hc] at h; cases h; exact hasAt_size hc
    · rw [if_neg hc] at h; exact ih h
end Go.Proofs.YtambnodgfhlpfaaDoor.P

/- The reading of a text within another one, whole; that every text is read to an end. -/
set_option linter.unusedVariables false
set_option linter.unusedSimpArgs false
namespace Go.Proofs.YtambnodgfhlpfaaDoor.P
open Go.RowKit Go.Proofs.YtambnodgfhlpfaaDoorW.PrintWords Go.Proofs.YtambnodgfhlpfaaDoorW.PrintLast Go.Proofs.YtambnodgfhlpfaaDoor.G Go.Proofs.YtambnodgfhlpfaaDoor.QA Go.Proofs.YtambnodgfhlpfaaDoor.A

theorem uop_one (u : Uop) : u.str.size = 1 := by cases u <;> rfl
theorem lpar_no : (41 : UInt8) ∉ lpar.data.toList := by decide
/-- Read at o + p of the one as at p of the other, if that isn't too deep there. -/
theorem shift {s t : ByteArray} {o : Nat} (h : In s t o) : ∀ (k : Nat) (md : Md) (p dp dp' : Nat) (x : A.Node) (q : Nat), p ≤ s.size → run s k md p dp = some (.ok (x, q)) →
    q ≤ s.size ∧ ((run s k md p dp' = some (.ok (x, q)) ∧ run t k md (o + p) dp' = some (.ok (x, o + q))) ∨ (run s k md p dp' = some (.error 7) ∧ run t k md (o + p) dp' = some (.error 7)))
  | 0, _, _, _, _, _, _, _, hr => by simp [run] at hr
  | k + 1, .lev n, p, dp, dp', x, q, hp, hr => by
    rw [run] at hr
    rw [run, run]
    by_cases h6 : n = 6
    · rw [if_pos h6] at hr
      rw [if_pos h6, if_pos h6]
      exact shift h k _ p dp dp' x q hp hr
    · rw [if_neg h6] at hr
      rw [if_neg h6, if_neg h6]
      cases hx : run s k (.lev (n + 1)) p dp with
      | none => rw [hx] at hr; cases hr
      | some r2 =>
        rw [hx] at hr
        cases r2 with
        | error e => cases hr
        | ok r3 =>
          obtain ⟨a, q1⟩ := r3
          obtain ⟨hq1, hc⟩ := shift h k _ p dp dp' a q1 hp hx
          have hr' : run s k (.loop n a) q1 dp = some (.ok (x, q)) := hr
          obtain ⟨hq, hd⟩ := shift h k _ q1 dp dp' x q hq1 hr'
          refine ⟨hq, ?_⟩
          rcases hc with ⟨c1, c2⟩ | ⟨c1, c2⟩
          · rw [c1, c2]; exact hd
          · rw [c1, c2]; exact Or.inr ⟨rfl, rfl⟩
  | k + 1, .loop n a, p, dp, dp', x, q, hp, hr => by
    have hs := sk_le s p hp
    rw [run] at hr
    rw [run, run, h.sk hp, h.find Bop.str bop_no hs]
    cases hf : find1 Bop.str s (sk s p) (opsOf n) with
    | none =>
      rw [hf] at hr
      cases hr
      exact ⟨hs, Or.inl ⟨rfl, rfl⟩⟩
    | some m =>
      rw [hf] at hr
      have hz := find_size hf
      have hle : sk s p + m.str.size ≤ s.size := by omega
      dsimp only at hr ⊢
      rw [Nat.add_assoc]
      cases hx : run s k (.lev (n + 1)) (sk s p + m.str.size) dp with
      | none => rw [hx] at hr; cases hr
      | some r2 =>
        rw [hx] at hr
        cases r2 with
        | error e => cases hr
        | ok r3 =>
          obtain ⟨b, q1⟩ := r3
          obtain ⟨hq1, hc⟩ := shift h k _ _ dp dp' b q1 hle hx
          have hr' : run s k (.loop n (.bin m a b)) q1 dp = some (.ok (x, q)) := hr
          obtain ⟨hq, hd⟩ := shift h k _ q1 dp dp' x q hq1 hr'
          refine ⟨hq, ?_⟩
          rcases hc with ⟨c1, c2⟩ | ⟨c1, c2⟩
          · rw [c1, c2]; exact hd
          · rw [c1, c2]; exact Or.inr ⟨rfl, rfl⟩
  | k + 1, .una, p, dp, dp', x, q, hp, hr => by
    have hs := sk_le s p hp
    rw [run] at hr
    rw [run, run, h.sk hp, h.find Uop.str uop_no hs]
    cases hf : find1 Uop.str s (sk s p) uops with
    | some u =>
      rw [hf] at hr
      have hz := find_size hf
      rw [uop_one] at hz
      have hpos : sk s p + 1 ≤ s.size ∨ s.size = sk s p := by omega
      dsimp only at hr ⊢
      by_cases h30 : 30 ≤ dp
      · rw [if_pos h30] at hr; cases hr
      · rw [if_neg h30] at hr
        cases hx : run s k .una (sk s p + 1) (dp + 1) with
        | none => rw [hx] at hr; cases hr
        | some r2 =>
          rw [hx] at hr
          cases r2 with
          | error e => cases hr
          | ok r3 =>
            obtain ⟨a, q1⟩ := r3
            obtain ⟨hq1, hc⟩ := shift h k _ _ (dp + 1) (dp' + 1) a q1 (by omega) hx
            cases hr
            refine ⟨hq1, ?_⟩
            by_cases h31 : 30 ≤ dp'
            · rw [if_pos h31, if_pos h31]; exact Or.inr ⟨rfl, rfl⟩
            · rw [if_neg h31, if_neg h31, Nat.add_assoc]
              rcases hc with ⟨c1, c2⟩ | ⟨c1, c2⟩
              · rw [c1, c2]; exact Or.inl ⟨rfl, rfl⟩
              · rw [c1, c2]; exact Or.inr ⟨rfl, rfl⟩
    | none =>
      rw [hf] at hr
      dsimp only at hr ⊢
      rw [h.has hs lpar_no]
      by_cases hl : hasAt s (sk s p) lpar = true
      · have hz := hasAt_size hl
        have hz1 : lpar.size = 1 := rfl
        rw [if_pos hl] at hr
        rw [if_pos hl, if_pos hl]
        by_cases h30 : 30 ≤ dp
        · rw [if_pos h30] at hr; cases hr
        · rw [if_neg h30] at hr
          cases hx : run s k (.lev 0) (sk s p + 1) (dp + 1) with
          | none => rw [hx] at hr; cases hr
          | some r2 =>
            rw [hx] at hr
            cases r2 with
            | error e => cases hr
            | ok r3 =>
              obtain ⟨a, q1⟩ := r3
              obtain ⟨hq1, hc⟩ := shift h k _ _ (dp + 1) (dp' + 1) a q1 (by omega) hx
              dsimp only at hr
              by_cases hrp : hasAt s (sk s q1) rpar = true
              · rw [if_pos hrp] at hr
                cases hr
                have hs1 := sk_le s q1 hq1
                have hz2 := hasAt_size hrp
                have hz3 : rpar.size = 1 := rfl
                refine ⟨by omega, ?_⟩
                by_cases h31 : 30 ≤ dp'
                · rw [if_pos h31, if_pos h31]; exact Or.inr ⟨rfl, rfl⟩
                · rw [if_neg h31, if_neg h31, Nat.add_assoc]
                  rcases hc with ⟨c1, c2⟩ | ⟨c1, c2⟩
                  · rw [c1, c2]
                    dsimp only
                    rw [h.sk hq1, h.closes hs1 hrp, if_pos hrp, if_pos rfl]
                    exact Or.inl ⟨rfl, rfl⟩
                  · rw [c1, c2]; exact Or.inr ⟨rfl, rfl⟩
              · rw [if_neg hrp] at hr; cases hr
      · rw [if_neg hl] at hr
        rw [if_neg hl, if_neg hl, h.word hs]
        obtain ⟨w1, w2⟩ := wordEnd_le s (sk s p) hs
        rw [h.ext w2 w1]
        by_cases hn : nameB (s.extract (sk s p) (wordEnd s (sk s p))) = true
        · rw [if_pos hn] at hr
          rw [if_pos hn, if_pos hn]
          cases hr
          exact ⟨w1, Or.inl ⟨rfl, rfl⟩⟩
        · rw [if_neg hn] at hr
          rw [if_neg hn, if_neg hn]
          by_cases hw : (wholeV (s.extract (sk s p) (wordEnd s (sk s p)))).2.2 = 0
          · rw [if_pos hw] at hr
            rw [if_pos hw, if_pos hw]
            cases hr
            exact ⟨w1, Or.inl ⟨rfl, rfl⟩⟩
          · rw [if_neg hw] at hr; cases hr

end Go.Proofs.YtambnodgfhlpfaaDoor.P

/- Every text is read to an end; a row of few short variables is told by an end; how what stands between goes up through the levels. -/
set_option linter.unusedVariables false
set_option linter.unusedSimpArgs false
namespace Go.Proofs.YtambnodgfhlpfaaDoor.P
open Go.RowKit Go.Proofs.YtambnodgfhlpfaaDoorW.PrintWords Go.Proofs.YtambnodgfhlpfaaDoorW.PrintLast Go.Proofs.YtambnodgfhlpfaaDoor.G Go.Proofs.YtambnodgfhlpfaaDoor.QA Go.Proofs.YtambnodgfhlpfaaDoor.A

/-! ### Up through the levels -/
section
end
end Go.Proofs.YtambnodgfhlpfaaDoor.P

/- Rows of variables that are in order: what the search by halves finds is what stands there. -/
set_option linter.unusedVariables false
set_option linter.unusedSimpArgs false
namespace Go.Proofs.YtambnodgfhlpfaaDoor.P
open Go.RowKit Go.Proofs.YtambnodgfhlpfaaDoorW.PrintWords Go.Proofs.YtambnodgfhlpfaaDoorW.PrintLast Go.Proofs.YtambnodgfhlpfaaDoor.G Go.Proofs.YtambnodgfhlpfaaDoor.QA Go.Proofs.YtambnodgfhlpfaaDoor.A

/-! ### The order of texts -/
theorem u8_lt_ne {a b : UInt8} (h : a < b) : a ≠ b := fun e => by subst e; exact absurd h (UInt8.lt_irrefl _)
theorem less_irrefl : ∀ a : List UInt8, Op.bytesLess a a = false
  | [] => rfl
  | x :: a => by simp [Op.bytesLess, less_irrefl a]
theorem less_trans : ∀ {a b c : List UInt8}, Op.bytesLess a b = true → Op.bytesLess b c = true → Op.bytesLess a c = true
  | _, [], _, h, _ => by simp [Op.bytesLess] at h
  | _, _ :: _, [], _, h => by simp [Op.bytesLess] at h
  | [], y :: b, z :: c, _, _ => rfl
  | x :: a, y :: b, z :: c, h1, h2 => by
    simp only [Op.bytesLess, Bool.or_eq_true, Bool.and_eq_true, decide_eq_true_eq, beq_iff_eq] at h1 h2 ⊢
    rcases h1 with h1 | ⟨rfl, h1⟩
    · rcases h2 with h2 | ⟨rfl, h2⟩
      · exact Or.inl (UInt8.lt_trans h1 h2)
      · exact Or.inl h1
    · rcases h2 with h2 | ⟨rfl, h2⟩
      · exact Or.inl h2
      · exact Or.inr ⟨rfl, less_trans h1 h2⟩
theorem cmp_lt : ∀ a b : List UInt8, (Lib.compareBytes a b < 0) ↔ Op.bytesLess a b = true
  | [], [] => by simp [Lib.compareBytes, Op.bytesLess]
  | [], _ :: _ => by simp [Lib.compareBytes, Op.bytesLess]
  | _ :: _, [] => by simp [Lib.compareBytes, Op.bytesLess]
  | x :: a, y :: b => by
    simp only [Lib.compareBytes, Op.bytesLess, Bool.or_eq_true, Bool.and_eq_true, decide_eq_true_eq, beq_iff_eq]
    by_cases h1 : x < y
    · simp [h1]
    · rw [if_neg h1]
      by_cases h2 : y < x
      · rw [if_pos h2]
        have := u8_lt_ne h2
        constructor
        · intro h; omega
        · rintro (h | ⟨h, _⟩)
          · exact absurd h h1
          · exact absurd h.symm this
      · rw [if_neg h2]
        have he : x = y := UInt8.le_antisymm (UInt8.not_lt.1 h2) (UInt8.not_lt.1 h1)
        subst he
        rw [cmp_lt a b]
        simp
theorem cmp_eq : ∀ a b : List UInt8, (Lib.compareBytes a b = 0) ↔ a = b
  | [], [] => by simp [Lib.compareBytes]
  | [], _ :: _ => by simp [Lib.compareBytes]
  | _ :: _, [] => by simp [Lib.compareBytes]
  | x :: a, y :: b => by
    simp only [Lib.compareBytes]
    by_cases h1 : x < y
    · rw [if_pos h1]
      have := u8_lt_ne h1
      simp [this]
    · rw [if_neg h1]
      by_cases h2 : y < x
      · rw [if_pos h2]
        have := u8_lt_ne h2
        simp [Ne.symm this]
      · rw [if_neg h2]
        have he : x = y := UInt8.le_antisymm (UInt8.not_lt.1 h2) (UInt8.not_lt.1 h1)
        subst he
        rw [cmp_eq a b]
        simp
def ltS (a b : ByteArray) : Bool := Op.bytesLess a.toList b.toList
theorem ltS_data (a b : ByteArray) : ltS a b = Op.bytesLess a.data.toList b.data.toList := by unfold ltS; rw [ByteArray.toList_eq, ByteArray.toList_eq]
theorem cmpB_lt (a b : ByteArray) : cmpB a b < 0 ↔ ltS a b = true := by rw [ltS_data]; exact cmp_lt _ _
theorem cmpB_eq (a b : ByteArray) : cmpB a b = 0 ↔ a = b := by
  unfold cmpB
  rw [cmp_eq]
  exact ⟨fun h => ByteArray.ext (Array.toList_inj.1 h), fun h => by rw [h]⟩
theorem ltS_irrefl (a : ByteArray) : ltS a a = false := less_irrefl _
theorem ltS_trans {a b c : ByteArray} (h : ltS a b = true) (g : ltS b c = true) : ltS a c = true := less_trans h g
/-! ### Rows in order -/
def Sorted (l : Vars) : Prop := l.Pairwise fun x y => ltS x.f0 y.f0 = true
theorem name_of {l : Vars} {i : Nat} (h : i < l.length) : nameAt l i = l[i].f0 := by
  unfold nameAt rd_T39
  rw [Int.toNat_natCast, List.getD_eq_getElem?_getD, List.getElem?_eq_getElem h]
  rfl
section
variable {l : Vars} (hs : Sorted l)
include hs
theorem sorted_at {i j : Nat} (hij : i < j) (hj : j < l.length) : ltS (nameAt l i) (nameAt l j) = true := by
  rw [name_of (by omega), name_of hj]
  exact List.pairwise_iff_getElem.1 hs i j (by omega) hj hij
/-- Ahead of the place all are less, from it on none is. -/
theorem bs_parts (t : ByteArray) : ∀ d i j, j - i = d → i ≤ j → j ≤ l.length → (∀ k, k < i → ltS (nameAt l k) t = true) → (∀ k, j ≤ k → k < l.length → ltS (nameAt l k) t = false) →
    (∀ k, k < bs l t i j → ltS (nameAt l k) t = true) ∧ (∀ k, bs l t i j ≤ k → k < l.length → ltS (nameAt l k) t = false) := by
  intro d
  induction d using Nat.strongRecOn with
  | ind d ih =>
    intro i j hd hij hj h1 h2
    by_cases h : i < j
    · by_cases hc : cmpB (nameAt l ((i + j) / 2)) t < 0
      · rw [bs_low h hc]
        refine ih (j - ((i + j) / 2 + 1)) (by omega) _ _ rfl (by omega) hj (fun k hk => ?_) h2
        have hm := (cmpB_lt _ _).1 hc
        by_cases hke : k = (i + j) / 2
        · rw [hke]; exact hm
        · exact ltS_trans (sorted_at hs (by omega : k < (i + j) / 2) (by omega)) hm
      · rw [bs_high h hc]
        refine ih ((i + j) / 2 - i) (by omega) _ _ rfl (by omega) (by omega) h1 (fun k hk hkl => ?_)
        have hm : ltS (nameAt l ((i + j) / 2)) t = false := by
          cases hx : ltS (nameAt l ((i + j) / 2)) t with
          | false => rfl
          | true => exact absurd ((cmpB_lt _ _).2 hx) hc
        by_cases hke : k = (i + j) / 2
        · rw [hke]; exact hm
        · cases hx : ltS (nameAt l k) t with
          | false => rfl
          | true =>
            have := ltS_trans (sorted_at hs (by omega : (i + j) / 2 < k) hkl) hx
            rw [this] at hm; cases hm
    · rw [bs_end h]
      have : i = j := by omega
      subst this
      exact ⟨h1, h2⟩
theorem place_parts (t : ByteArray) : (∀ k, k < placeV l t → ltS (nameAt l k) t = true) ∧ (∀ k, placeV l t ≤ k → k < l.length → ltS (nameAt l k) t = false) :=
  bs_parts hs t _ 0 l.length rfl (Nat.zero_le _) (Nat.le_refl _) (fun k hk => by omega) (fun k hk hk2 => by omega)
omit hs in
theorem place_le (t : ByteArray) : placeV l t ≤ l.length := (bs_le l t 0 l.length (Nat.zero_le _)).2
/-- Where a name stands, the search finds it. -/
theorem place_here {i : Nat} (h : i < l.length) : placeV l (nameAt l i) = i := by
  obtain ⟨h1, h2⟩ := place_parts hs (nameAt l i)
  have hle := place_le (l := l) (nameAt l i)
  apply Nat.le_antisymm
  · apply Nat.le_of_not_lt
    intro hlt
    have := h1 i hlt
    rw [ltS_irrefl] at this; cases this
  · apply Nat.le_of_not_lt
    intro hlt
    have := h2 _ (Nat.le_refl _) (by omega)
    rw [sorted_at hs hlt h] at this; cases this
theorem isAt_here {i : Nat} (h : i < l.length) : isAt l (nameAt l i) = true := by
  unfold isAt
  rw [place_here hs h]
  simp [h, (cmpB_eq _ _).2 rfl]
omit hs in
theorem isAt_some {t : ByteArray} (h : isAt l t = true) : placeV l t < l.length ∧ nameAt l (placeV l t) = t := by
  unfold isAt at h
  simp only [Bool.and_eq_true, decide_eq_true_eq] at h
  exact ⟨h.1, (cmpB_eq _ _).1 h.2⟩
theorem isAt_none {t : ByteArray} (h : isAt l t = false) : ∀ i, i < l.length → nameAt l i ≠ t := by
  intro i hi he
  have := isAt_here hs hi
  rw [he, h] at this; cases this
theorem find_here {i : Nat} (h : i < l.length) : findV l (nameAt l i) = valAt l i := by
  unfold findV
  rw [isAt_here hs h, if_pos rfl, place_here hs h]
end
end Go.Proofs.YtambnodgfhlpfaaDoor.P

/- A text in brackets, and two of them: what they come to. -/
set_option linter.unusedVariables false
set_option linter.unusedSimpArgs false
namespace Go.Proofs.YtambnodgfhlpfaaDoor.P
open Go.RowKit Go.Proofs.YtambnodgfhlpfaaDoorW.PrintWords Go.Proofs.YtambnodgfhlpfaaDoorW.PrintLast Go.Proofs.YtambnodgfhlpfaaDoor.G Go.Proofs.YtambnodgfhlpfaaDoor.QA Go.Proofs.YtambnodgfhlpfaaDoor.A

/-! ### A row of few short variables is told by an end -/
def OkV (l : Vars) : Prop := ∀ x, x ∈ l → x.f0.size ≤ 140737488355328 ∧ x.f1.size ≤ 140737488355328
theorem rd_mem {l : Vars} {i : Nat} (h : i < l.length) : rd_T39 l (i : Int) ∈ l := by
  unfold rd_T39
  rw [Int.toNat_natCast, List.getD_eq_getElem?_getD, List.getElem?_eq_getElem h]
  exact List.getElem_mem h
theorem succ_id {i : Nat} (h : i ≤ 1000000) : wrap64 ((i : Int) + 1) = ((i + 1 : Nat) : Int) := by rw [wrap_id (by omega) (by omega)]; omega
set_option maxHeartbeats 2000000 in
theorem isname_f {s : ByteArray} (hs : s.size ≤ 200) : ∀ d i k, i + d = s.size → d < k → ∃ b, dragomanref01_IsName.l0 k s (i : Int) = some b
  | d, i, 0, _, h => by omega
  | 0, i, k + 1, hi, _ => by
    rw [dragomanref01_IsName.l0, if_neg (by omega)]
    exact ⟨_, rfl⟩
  | d + 1, i, k + 1, hi, hk => by
    obtain ⟨b, hb⟩ := isname_f hs d (i + 1) k (by omega) (by omega)
    have hw := succ_id (i := i) (by omega)
    simp only [dragomanref01_IsName.l0, hw, hb]
    repeat' split
    all_goals first | exact ⟨_, rfl⟩ | omega
/-! ### Brackets -/
section
variable {t : ByteArray} {o : Nat} {c : UInt8} {r : List UInt8} (hd : t.data.toList.drop o = c :: r)
include hd
theorem sk_stay (hc : spB (c.toNat : Int) = false) : sk t o = o := sk_no t o (fun _ => by rw [bt_drop, hd]; exact hc)
theorem una_no (hc : c = 40) : find1 Uop.str t o uops = none := by
  subst hc
  simp [find1, uops, hasAt_drop, hd, Uop.str, List.isPrefixOf]
theorem una_lpar (hc : c = 40) : hasAt t o lpar = true := by
  subst hc
  rw [hasAt_drop, hd]
  rfl
end
theorem una_par {s t : ByteArray} {o : Nat} {r : List UInt8} (hd : t.data.toList.drop o = 40 :: r) (h : In s t (o + 1)) {k d0 q dp : Nat} {x : A.Node} (hr : run s k (.lev 0) 0 d0 = some (.ok (x, q))) (hq : ¬ sk s q < s.size) (hdp : dp < 30) :
    (run s k (.lev 0) 0 (dp + 1) = some (.ok (x, q)) ∧ run t (k + 1) .una o dp = some (.ok (x, o + s.size + 2))) ∨ (run s k (.lev 0) 0 (dp + 1) = some (.error 7) ∧ run t (k + 1) .una o dp = some (.error 7)) := by
  obtain ⟨hqs, hc⟩ := shift h k (.lev 0) 0 d0 (dp + 1) x q (Nat.zero_le _) hr
  rw [Nat.add_zero] at hc
  have hsk : sk s q = s.size := by have := sk_le s q hqs; omega
  have e : run t (k + 1) .una o dp = match run t k (.lev 0) (o + 1) (dp + 1) with
      | some (.ok (a, q)) => if hasAt t (sk t q) rpar then some (.ok (a, sk t q + 1)) else some (.error 9)
      | r => r := by
    rw [run, sk_stay hd (by decide), una_no hd rfl]
    dsimp only
    rw [if_pos (una_lpar hd rfl), if_neg (by omega)]
    rfl
  rcases hc with ⟨c1, c2⟩ | ⟨c1, c2⟩
  · refine Or.inl ⟨c1, ?_⟩
    rw [e, c2]
    dsimp only
    rw [h.sk hqs, hsk, h.close rfl, if_pos rfl, show o + 1 + s.size + 1 = o + s.size + 2 by omega]
  · refine Or.inr ⟨c1, ?_⟩
    rw [e, c2]
end Go.Proofs.YtambnodgfhlpfaaDoor.P

/- Which rows are right, in plain words; a row with one variable set is right, and that variable is found in it. -/
set_option linter.unusedVariables false
set_option linter.unusedSimpArgs false
namespace Go.Proofs.YtambnodgfhlpfaaDoor.P
open Go.RowKit Go.Proofs.YtambnodgfhlpfaaDoorW.PrintWords Go.Proofs.YtambnodgfhlpfaaDoorW.PrintLast Go.Proofs.YtambnodgfhlpfaaDoor.G Go.Proofs.YtambnodgfhlpfaaDoor.QA Go.Proofs.YtambnodgfhlpfaaDoor.A

theorem leo_up {α : Type} {F : Nat → Option α} (hm : ∀ k, LeO (F k) (F (k + 1))) {k K : Nat} {r : α} (h : F k = some r) (hk : k ≤ K) : F K = some r := by
  obtain ⟨j, rfl⟩ := Nat.exists_eq_add_of_le hk
  induction j with
  | zero => exact h
  | succ j ih => exact hm _ _ (ih (by omega))
/-- A name, as the document says. -/
def Nm (s : ByteArray) : Prop := s.size ≤ 200 ∧ ∃ k, dragomanref01_IsName.f k s = some true
theorem Nm.at_ {s : ByteArray} (h : Nm s) {k : Nat} (hk : 201 ≤ k) : dragomanref01_IsName.f k s = some true := by
  obtain ⟨hs, j, hj⟩ := h
  obtain ⟨b, hb⟩ := isname_f hs s.size 0 k (by omega) (by omega)
  have hb' : dragomanref01_IsName.f k s = some b := hb
  have h1 := leo_up (fun i => dragomanref01_IsName.mono s i) hj (by omega : j ≤ j + k)
  have h2 := leo_up (fun i => dragomanref01_IsName.mono s i) hb' (by omega : k ≤ j + k)
  rw [h1] at h2
  rw [hb', ← h2]
theorem pred_id {i : Nat} (h0 : 0 < i) (h : i ≤ 1000000) : wrap64 ((i : Int) - 1) = ((i - 1 : Nat) : Int) := by rw [wrap_id (by omega) (by omega)]; omega
/-! ### One variable set -/
section
end
end Go.Proofs.YtambnodgfhlpfaaDoor.P

/- Rows of variables of any names: the document's answer and the program's are one. -/
set_option linter.unusedVariables false
set_option linter.unusedSimpArgs false
namespace Go.Proofs.YtambnodgfhlpfaaDoor.P
open Go.RowKit Go.Proofs.YtambnodgfhlpfaaDoorW.PrintWords Go.Proofs.YtambnodgfhlpfaaDoorW.PrintLast Go.Proofs.YtambnodgfhlpfaaDoor.G Go.Proofs.YtambnodgfhlpfaaDoor.QA Go.Proofs.YtambnodgfhlpfaaDoor.A

/-! ### Names -/
theorem succ_big {i : Nat} (h : i ≤ 1000000000000000000) : wrap64 ((i : Int) + 1) = ((i + 1 : Nat) : Int) := by rw [wrap_id (by omega) (by omega)]; omega
theorem bt_getD (s : ByteArray) (i : Nat) (h : i < s.size) : (bytesOf s).getD i 0 = bt s (i : Int) := by
  rw [bt_get s i h, List.getD_eq_getElem?_getD, List.getElem?_eq_getElem (by rw [bytesOf_length]; exact h)]
  rfl
theorem oddB_iff (c : Int) : oddB c = true ↔ (c ≠ 95 ∧ (c < 48 ∨ 57 < c) ∧ (c < 65 ∨ 90 < c) ∧ (c < 97 ∨ 122 < c)) := by
  unfold oddB
  simp [and_assoc]
/-- One round of the document's test of a name. -/
theorem name_round (k : Nat) (s : ByteArray) (i : Nat) (hi : i < s.size) (hb : s.size ≤ 1000000000000000000) :
    dragomanref01_IsName.l0 (k + 1) s (i : Int) = if oddB (bt s i) = true then some false else if i = 0 ∧ 48 ≤ bt s i ∧ bt s i ≤ 57 then some false else dragomanref01_IsName.l0 k s ((i + 1 : Nat) : Int) := by
  rw [dragomanref01_IsName.l0, if_pos (by omega), if_pos (by omega), succ_big (by omega)]
  generalize hx : dragomanref01_IsName.l0 k s ((i + 1 : Nat) : Int) = x
  have ho := oddB_iff (bt s i)
  generalize bt s i = c at *
  by_cases hodd : oddB c = true
  · rw [if_pos hodd]
    have := ho.1 hodd
    repeat' split
    all_goals first | rfl | omega
  · rw [if_neg hodd]
    have hno := mt ho.2 hodd
    by_cases h0 : i = 0 ∧ 48 ≤ c ∧ c ≤ 57
    · rw [if_pos h0]
      repeat' split
      all_goals first | rfl | omega
    · rw [if_neg h0]
      repeat' split
      all_goals first | rfl | omega
theorem name_rest {s : ByteArray} (hb : s.size ≤ 1000000000000000000) : ∀ d i k, i + d = s.size → 0 < i → d < k → dragomanref01_IsName.l0 k s (i : Int) = some (!decide (0 ≤ idxOdd (bytesOf s) i d))
  | _, _, 0, _, _, hk => by omega
  | 0, i, k + 1, hi, h0, _ => by
    rw [dragomanref01_IsName.l0, if_neg (by omega)]
    have : decide ((s.size : Int) > 0) = true := decide_eq_true (by omega)
    rw [this]; rfl
  | d + 1, i, k + 1, hi, h0, hk => by
    rw [name_round k s i (by omega) hb, idxOdd, bt_getD s i (by omega)]
    by_cases ho : oddB (bt s i) = true
    · rw [if_pos ho, if_pos ho]
      have : decide (0 ≤ (i : Int)) = true := decide_eq_true (by omega)
      rw [this]; rfl
    · rw [if_neg ho, if_neg ho, if_neg (by omega)]
      exact name_rest hb d (i + 1) k (by omega) (by omega) (by omega)
theorem name_eq {s : ByteArray} (hb : s.size ≤ 1000000000000000000) {k : Nat} (hk : s.size + 1 < k) : dragomanref01_IsName.f k s = some (nameB s) := by
  obtain ⟨k, rfl⟩ : ∃ m, k = m + 1 := ⟨k - 1, by omega⟩
  unfold dragomanref01_IsName.f
  by_cases h0 : 0 < s.size
  · obtain ⟨d, hd⟩ : ∃ d, s.size = d + 1 := ⟨s.size - 1, by omega⟩
    have hr := name_round k s 0 h0 hb
    rw [show ((0 : Nat) : Int) = 0 from rfl] at hr
    rw [hr]
    have e := name_rest hb d 1 k (by omega) (by omega) (by omega)
    have hg := bt_getD s 0 h0
    rw [show ((0 : Nat) : Int) = 0 from rfl] at hg
    unfold nameB
    rw [hd, idxOdd, hg]
    have hp : decide (0 < d + 1) = true := decide_eq_true (by omega)
    rw [hp, Bool.true_and]
    by_cases ho : oddB (bt s 0) = true
    · rw [if_pos ho, if_pos ho]
      have : decide (0 ≤ ((0 : Nat) : Int)) = true := by decide
      rw [this]; simp
    · rw [if_neg ho, if_neg ho]
      by_cases hc : 48 ≤ bt s 0 ∧ bt s 0 ≤ 57
      · rw [if_pos ⟨rfl, hc⟩]
        have a1 : decide (bt s 0 < 48) = false := decide_eq_false (by omega)
        have a2 : decide (57 < bt s 0) = false := decide_eq_false (by omega)
        rw [a1, a2]; rfl
      · rw [if_neg (fun h => hc h.2)]
        have a : (decide (bt s 0 < 48) || decide (57 < bt s 0)) = true := by
          rw [Bool.or_eq_true, decide_eq_true_eq, decide_eq_true_eq]; omega
        rw [a, Bool.true_and]
        exact e
  · rw [dragomanref01_IsName.l0, if_neg (by omega)]
    unfold nameB
    have p1 : decide ((s.size : Int) > 0) = false := decide_eq_false (by omega)
    have p2 : decide (0 < s.size) = false := decide_eq_false (by omega)
    rw [p1, p2]; rfl
theorem hexname_eq {s : ByteArray} (hb : s.size ≤ 1000000000000000000) : hex_IsName.f s = some (nameB s) := by
  unfold hex_IsName.f
  rw [if_pos (by omega)]

/-! ### Right rows -/
def rightB (l : Vars) : Nat → Nat → Bool
  | _, 0 => true
  | i, d + 1 => nameB (nameAt l i) && (decide (i = 0) || ltS (nameAt l (i - 1)) (nameAt l i)) && rightB l (i + 1) d
theorem right_of {l : Vars} {M : Nat} (hl : l.length ≤ 100000) (hM : M ≤ 1000000000000000000) (hs : ∀ x, x ∈ l → x.f0.size ≤ M) : ∀ d i k, i + d = l.length → M + 1 + d < k → dragomanref10_Right.l0 k l (i : Int) = some (rightB l i d)
  | _, _, 0, _, hk => by omega
  | 0, i, k + 1, hi, _ => by rw [dragomanref10_Right.l0, if_neg (by omega)]; rfl
  | d + 1, i, k + 1, hi, hk => by
    have hlt : i < l.length := by omega
    have hz := hs _ (rd_mem hlt)
    have hn : dragomanref01_IsName.f k (rd_T39 l (i : Int)).f0 = some (nameB (nameAt l i)) := name_eq (by omega) (by omega)
    have ih := right_of hl hM hs d (i + 1) k (by omega) (by omega)
    rw [dragomanref10_Right.l0, if_pos (by omega), if_pos (by omega), succ_id (by omega), hn, Option.bind_some, ih, rightB]
    cases nameB (nameAt l i) with
    | false => rfl
    | true =>
      rw [if_pos rfl, Bool.true_and]
      by_cases hi0 : (i : Int) > 0
      · rw [if_pos hi0, pred_id (by omega) (by omega), if_pos (by omega), if_pos (by omega)]
        have h0 : decide (i = 0) = false := decide_eq_false (by omega)
        rw [h0, Bool.false_or]
        change (if ltS (nameAt l (i - 1)) (nameAt l i) = true then _ else _) = _
        cases ltS (nameAt l (i - 1)) (nameAt l i) <;> rfl
      · rw [if_neg hi0]
        have h0 : decide (i = 0) = true := decide_eq_true (by omega)
        rw [h0, Bool.true_or, Bool.true_and]
theorem right_prog {l : Vars} (hl : l.length ≤ 100000) (hs : ∀ x, x ∈ l → x.f0.size ≤ 1000000000000000000) : ∀ d i k, i + d = l.length → d < k → arith_Right.l0 k l l (l.length : Int) (i : Int) = some (rightB l i d)
  | _, _, 0, _, hk => by omega
  | 0, i, k + 1, hi, _ => by rw [arith_Right.l0, if_neg (by omega)]; rfl
  | d + 1, i, k + 1, hi, hk => by
    have hlt : i < l.length := by omega
    have hz := hs _ (rd_mem hlt)
    have hn : hex_IsName.f (rd_T39 l (i : Int)).f0 = some (nameB (nameAt l i)) := hexname_eq (by omega)
    have ih := right_prog hl hs d (i + 1) k (by omega) (by omega)
    rw [arith_Right.l0, if_pos (by omega), if_pos (by omega), if_pos (by omega), succ_id (by omega), hn, Option.bind_some, ih, rightB]
    cases nameB (nameAt l i) with
    | false => rfl
    | true =>
      rw [if_pos rfl, Bool.true_and]
      by_cases hi0 : (i : Int) > 0
      · rw [if_pos hi0, pred_id (by omega) (by omega), if_pos (by omega), if_pos (by omega)]
        have h0 : decide (i = 0) = false := decide_eq_false (by omega)
        rw [h0, Bool.false_or]
        change (if ltS (nameAt l (i - 1)) (nameAt l i) = true then _ else _) = _
        cases ltS (nameAt l (i - 1)) (nameAt l i) <;> rfl
      · rw [if_neg hi0]
        have h0 : decide (i = 0) = true := decide_eq_true (by omega)
        rw [h0, Bool.true_or, Bool.true_and]
theorem right_steps {l : Vars} : ∀ d i, i + d = l.length → rightB l i d = true → ∀ j, i ≤ j → j < l.length → 0 < j → ltS (nameAt l (j - 1)) (nameAt l j) = true
  | 0, i, hi, _, j, hij, hj, _ => by omega
  | d + 1, i, hi, h, j, hij, hj, h0 => by
    rw [rightB, Bool.and_eq_true, Bool.and_eq_true, Bool.or_eq_true, decide_eq_true_eq] at h
    by_cases hje : j = i
    · subst hje
      rcases h.1.2 with h | h
      · omega
      · exact h
    · exact right_steps d (i + 1) (by omega) h.2 j (by omega) hj h0
theorem sorted_right {l : Vars} (h : rightB l 0 l.length = true) : Sorted l := by
  have hst := right_steps l.length 0 (by omega) h
  have : ∀ d i, i + d + 1 < l.length → ltS (nameAt l i) (nameAt l (i + d + 1)) = true := by
    intro d
    induction d with
    | zero => intro i hi; exact hst (i + 1) (by omega) hi (by omega)
    | succ d ih => intro i hi; exact ltS_trans (ih i (by omega)) (hst (i + (d + 1) + 1) (by omega) hi (by omega))
  unfold Sorted
  rw [List.pairwise_iff_getElem]
  intro i j hi hj hij
  have := this (j - i - 1) i (by omega)
  rw [show i + (j - i - 1) + 1 = j by omega, name_of hi, name_of hj] at this
  exact this

/-! ### The document's Find, Set, Same -/
theorem find_doc {l : Vars} (hl : l.length ≤ 100000) (hs : Sorted l) {t : ByteArray} : ∀ d i k, i + d = l.length → d < k → (∀ j, j < i → nameAt l j ≠ t) → dragomanref10_Find.l0 k l t (i : Int) = some (findV l t, isAt l t)
  | _, _, 0, _, hk, _ => by omega
  | 0, i, k + 1, hi, _, hne => by
    rw [dragomanref10_Find.l0, if_neg (by omega)]
    have hi2 : isAt l t = false := by
      cases hx : isAt l t with
      | false => rfl
      | true =>
        obtain ⟨hp, hn⟩ := isAt_some hx
        exact absurd hn (hne _ (by omega))
    unfold findV
    rw [hi2]; rfl
  | d + 1, i, k + 1, hi, hk, hne => by
    have hlt : i < l.length := by omega
    rw [dragomanref10_Find.l0, if_pos (by omega), if_pos (by omega), succ_id (by omega)]
    by_cases he : ((rd_T39 l (i : Int)).f0).toList = t.toList
    · rw [if_pos he]
      have ht : nameAt l i = t := toList_inj.1 he
      subst ht
      rw [find_here hs hlt, isAt_here hs hlt]
      rfl
    · rw [if_neg he]
      refine find_doc hl hs d (i + 1) k (by omega) (by omega) (fun j hj => ?_)
      by_cases hji : j = i
      · subst hji; exact fun hh => he (toList_inj.2 hh)
      · exact hne j (by omega)
theorem rd_eta {l : Vars} {i : Nat} (h : i < l.length) : (⟨(rd_T39 l (i : Int)).f0, (rd_T39 l (i : Int)).f1⟩ : S39) = l[i] := by
  unfold rd_T39
  rw [Int.toNat_natCast, List.getD_eq_getElem?_getD, List.getElem?_eq_getElem h]
  rfl
theorem set_tail {l : Vars} (hl : l.length ≤ 100000) {t : ByteArray} : ∀ d i k (X : Vars), i + d = l.length → d < k → X.length + d ≤ 1000000 → (∀ j, i ≤ j → j < l.length → nameAt l j ≠ t) → dragomanref10_Set.l1 k l t X (i : Int) = some (X ++ l.drop i)
  | _, _, 0, _, _, hk, _, _ => by omega
  | 0, i, k + 1, X, hi, _, _, _ => by
    rw [dragomanref10_Set.l1, if_neg (by omega), List.drop_eq_nil_of_le (by omega), List.append_nil]
  | d + 1, i, k + 1, X, hi, hk, hX, hne => by
    have hlt : i < l.length := by omega
    have hf : ¬ ((rd_T39 l (i : Int)).f0).toList = t.toList := fun he => hne i (Nat.le_refl _) hlt (toList_inj.1 he)
    rw [dragomanref10_Set.l1, if_pos (by omega), if_pos (by omega), succ_id (by omega), if_neg hf, if_pos (by omega), rd_eta hlt]
    rw [set_tail hl d (i + 1) k _ (by omega) (by omega) (by rw [List.length_append]; simp only [List.length_cons, List.length_nil]; omega) (fun j hj hjl => hne j (by omega) hjl)]
    rw [List.append_assoc, List.drop_eq_getElem_cons hlt]
    rfl
theorem set_doc {l : Vars} (hl : l.length ≤ 100000) (hs : Sorted l) {t u : ByteArray} : ∀ d i k, i + d = placeV l t → l.length + d + 2 < k → dragomanref10_Set.l0 k l t u (l.take i) (i : Int) = some (setV l t u)
  | _, _, 0, _, hk => by omega
  | 0, i, k + 1, hi, hk => by
    obtain ⟨k, rfl⟩ : ∃ m, k = m + 1 := ⟨k - 1, by omega⟩
    obtain ⟨p1, p2⟩ := place_parts hs t
    have hple := place_le (l := l) t
    have hip : i = placeV l t := by omega
    have htl : (l.take i).length = i := by rw [List.length_take]; omega
    have hj1 : dragomanref10_Set.l0 (k + 1 + 1) l t u (l.take i) (i : Int) = dragomanref10_Set.j1 (k + 1) l t u (l.take i) (i : Int) := by
      rw [dragomanref10_Set.l0]
      by_cases hlt : i < l.length
      · rw [if_pos (by omega), if_pos (by omega)]
        have hf : Op.bytesLess (((rd_T39 l (i : Int)).f0).toList) t.toList = false := p2 i (by omega) hlt
        rw [if_neg (by rw [hf]; decide)]
      · rw [if_neg (by omega)]
    rw [hj1, dragomanref10_Set.j1, if_pos (by omega)]
    cases hi2 : isAt l t with
    | true =>
      obtain ⟨hp, hpn⟩ := isAt_some hi2
      obtain ⟨k, rfl⟩ : ∃ m, k = m + 1 := ⟨k - 1, by omega⟩
      rw [dragomanref10_Set.l1, if_pos (by omega), if_pos (by omega), succ_id (by omega)]
      rw [if_pos (by rw [hip]; exact toList_inj.2 hpn)]
      rw [set_tail hl (l.length - (i + 1)) (i + 1) k _ (by omega) (by omega) (by rw [List.length_append, htl]; simp only [List.length_cons, List.length_nil]; omega) (fun j hj hjl he => by
        have := sorted_at hs (by omega : placeV l t < j) hjl
        rw [hpn, he, ltS_irrefl] at this; cases this)]
      unfold setV
      rw [if_pos hi2, hpn, List.append_assoc, hip, List.set_eq_take_append_cons_drop, if_pos hp]
      rfl
    | false =>
      rw [set_tail hl (l.length - i) i k _ (by omega) (by omega) (by rw [List.length_append, htl]; simp only [List.length_cons, List.length_nil]; omega) (fun j hj hjl => isAt_none hs hi2 j hjl)]
      unfold setV
      rw [if_neg (by rw [hi2]; decide), List.append_assoc, hip]
      rfl
  | d + 1, i, k + 1, hi, hk => by
    obtain ⟨p1, p2⟩ := place_parts hs t
    have hple := place_le (l := l) t
    have hlt : i < l.length := by omega
    rw [dragomanref10_Set.l0, if_pos (by omega), if_pos (by omega), succ_id (by omega)]
    have hf : Op.bytesLess (((rd_T39 l (i : Int)).f0).toList) t.toList = true := p1 i (by omega)
    rw [if_pos hf, if_pos (by rw [List.length_take]; omega), rd_eta hlt]
    have e : l.take i ++ [l[i]] = l.take (i + 1) := by rw [List.take_succ_eq_append_getElem hlt]
    rw [e]
    exact set_doc hl hs d (i + 1) k (by omega) (by omega)
theorem same_doc {l : Vars} (hl : l.length ≤ 100000) : ∀ d i k, i + d = l.length → d < k → dragomanref10_Same.l0 k l l (i : Int) = some true
  | _, _, 0, _, hk => by omega
  | 0, i, k + 1, hi, _ => by rw [dragomanref10_Same.l0, if_neg (by omega)]
  | d + 1, i, k + 1, hi, hk => by
    rw [dragomanref10_Same.l0, if_pos (by omega), if_pos (by omega), if_pos (by omega), succ_id (by omega), if_neg (by simp)]
    exact same_doc hl d (i + 1) k (by omega) (by omega)
end Go.Proofs.YtambnodgfhlpfaaDoor.P

/- Which rows are right, what is found and what is set: the statement in plain words. -/
set_option linter.unusedVariables false
set_option linter.unusedSimpArgs false
namespace Go.Proofs.YtambnodgfhlpfaaDoor.P.VarsLaw
open Go.RowKit Go.Proofs.YtambnodgfhlpfaaDoorW.PrintWords Go.Proofs.YtambnodgfhlpfaaDoorW.PrintLast Go.Proofs.YtambnodgfhlpfaaDoor.G Go.Proofs.YtambnodgfhlpfaaDoor.QA Go.Proofs.YtambnodgfhlpfaaDoor.A Go.Proofs.YtambnodgfhlpfaaDoor.QB Go.Proofs.YtambnodgfhlpfaaDoor.QE Go.Proofs.YtambnodgfhlpfaaDoor.P

theorem len_set (l : Vars) (t u : ByteArray) : (setV l t u).length ≤ l.length + 1 := by
  unfold setV
  split
  · rw [List.length_set]; omega
  · rw [List.length_append, List.length_cons, List.length_take, List.length_drop]; omega
theorem late {K : Nat} {l : Vars} {t u : ByteArray} (x7 : Bool) : dragomanlaw10_ArithVars.j0 (K + 1) l t u x7 true = some x7 := by rw [dragomanlaw10_ArithVars.j0, if_pos rfl]
theorem body {K M : Nat} {l : Vars} {t u : ByteArray} (hl : l.length ≤ 30) (hM : M ≤ 1000000000000000000) (hs : ∀ x, x ∈ l → x.f0.size ≤ M) (hK : M + 500 < K) : dragomanlaw10_ArithVars.j0 (K + 1 + 1) l t u true false = some true := by
  have e1 : ∀ J, M + 100 < J → dragomanref10_Right.f J l = some (rightB l 0 l.length) := fun J hJ => right_of (by omega) hM hs l.length 0 J (by omega) (by omega)
  have e2 : ∀ J, 100 < J → arith_Right.f J l = some (rightB l 0 l.length) := fun J hJ => right_prog (by omega) (fun x hx => Nat.le_trans (hs x hx) hM) l.length 0 J (by omega) (by omega)
  rw [dragomanlaw10_ArithVars.j0, if_neg (by decide), e1 _ (by omega), Option.bind_some, e2 _ (by omega), Option.bind_some, if_neg (by simp)]
  rw [dragomanlaw10_ArithVars.j1]
  cases hr : rightB l 0 l.length with
  | false =>
    rw [if_pos (by decide), if_pos rfl, e2 _ (by omega), Option.bind_some, hr]
    rfl
  | true =>
    have hso := sorted_right hr
    have eF : arith_Find.f l t = some (findV l t, isAt l t) := by unfold arith_Find.f; rw [if_pos (by omega)]
    have eS : arith_Set.f l t u = some (setV l t u) := by unfold arith_Set.f; rw [if_pos (by omega)]
    have dF : dragomanref10_Find.f K l t = some (findV l t, isAt l t) := find_doc (by omega) hso l.length 0 K (by omega) (by omega) (fun j hj => by omega)
    have hple := place_le (l := l) t
    have dS : dragomanref10_Set.f K l t u = some (setV l t u) := set_doc (by omega) hso (placeV l t) 0 K (by omega) (by omega)
    have hlen := len_set l t u
    have dE : dragomanref10_Same.f K (setV l t u) (setV l t u) = some true := by
      unfold dragomanref10_Same.f
      rw [if_pos rfl]
      exact same_doc (by omega) (setV l t u).length 0 K (by omega) (by omega)
    rw [if_neg (by decide), eF, Option.bind_some, dF, Option.bind_some, if_pos rfl, if_pos rfl, if_pos (by simp), eS, Option.bind_some, dS, Option.bind_some, dE]
    rfl
theorem vars (l : Vars) (t u : ByteArray) (hok : OkV l) (ht : t.size ≤ 140737488351232) (hu : u.size ≤ 140737488351232) : ∃ k, dragomanlaw10_ArithVars.f k l t u = some true := by
  obtain ⟨M, hM⟩ : ∃ M : Nat, M = 140737488355328 := ⟨_, rfl⟩
  refine ⟨M + 1000 + 1 + 1, ?_⟩
  have hsh : dragomanlaw10_shown.f (M + 1000 + 1 + 1) = some true := leo_up (fun j => dragomanlaw10_shown.mono j) shown_f (by omega)
  unfold dragomanlaw10_ArithVars.f
  rw [hsh, Option.bind_some]
  by_cases hl : (l.length : Int) > 30
  · rw [if_pos hl]; exact late true
  · rw [if_neg hl]
    cases decide (wrap64 ((t.size : Int) + (u.size : Int)) > 200) with
    | true => exact late true
    | false => exact body (M := M) (by omega) (by omega) (fun x hx => by have := (hok x hx).1; omega) (by omega)
end Go.Proofs.YtambnodgfhlpfaaDoor.P.VarsLaw
