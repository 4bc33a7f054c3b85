/- What texts that are written out come to; the statements on two numbers' figures in plain words. -/
import Derived.Test.YtambnodgfhlpfaaDoorPB
import Derived.Test.YtambnodgfhlpfaaDoorQBx1
set_option linter.unusedVariables false
set_option linter.unusedSimpArgs false
namespace Go.Proofs.YtambnodgfhlpfaaDoor.P
open Go.RowKit Go.Proofs.YtambnodgfhlpfaaDoorW.PrintWords Go.Proofs.YtambnodgfhlpfaaDoorW.PrintLast Go.Proofs.YtambnodgfhlpfaaDoor.G Go.Proofs.YtambnodgfhlpfaaDoor.QA Go.Proofs.YtambnodgfhlpfaaDoor.A Go.Proofs.YtambnodgfhlpfaaDoor.QB

def ca : ByteArray := ⟨#[97]⟩
def cb : ByteArray := ⟨#[98]⟩
def cc : ByteArray := ⟨#[99]⟩
/-- What Eval hands back. -/
def fin : Except Int Int → Int × Int
  | .ok n => (n, 0)
  | .error e => (0, e)
theorem eval_of {K : Nat} {s : ByteArray} {l : Vars} {nd : A.Node} {q : Nat} {n e : Int} (h : run s K (.lev 0) 0 0 = some (.ok (nd, q))) (hs : s.size ≤ 100) (hq : ¬ sk s q < s.size) (hl : l.length ≤ 100) (hf : fitB l = true)
    (hv : fin (valueV l nd) = (n, e)) : arith_Eval.f K s l = some (n, e) := by
  unfold arith_Eval.f evalV
  rw [if_pos ⟨by omega, by omega, hf⟩, h]
  dsimp only
  rw [if_neg hq]
  cases hx : valueV l nd with
  | ok v => rw [hx] at hv; exact congrArg some hv
  | error x => rw [hx] at hv; exact congrArg some hv
theorem i64_range {c : Int} (hc : (Lit.int .i64 c).wf = true) : I64 c := by
  simp [Lit.wf, IntKind.min, IntKind.max, IntKind.signed, IntKind.bits] at hc
  exact hc
/-- A text is a number's figures. -/
def Fig (t : ByteArray) (n : Int) : Prop := wholeV t = (n, (t.size : Int), 0) ∧ 0 < t.size ∧ t.size ≤ 22
theorem valueOf_fig {l : Vars} {x t : ByteArray} {n : Int} (h : findV l x = t) (hf : Fig t n) : valueOfV l x = .ok n := by
  unfold valueOfV
  rw [h, if_neg (by have := hf.2.1; omega), hf.1, if_pos ⟨rfl, by dsimp only; omega⟩]
theorem shown_f : dragomanlaw10_shown.f 60 = some true := by
  have h1 : arith_Eval.f 60 (⟨#[50, 32, 43, 32, 51, 32, 42, 32, 120]⟩ : ByteArray) [(⟨(⟨#[120]⟩ : ByteArray), (⟨#[52]⟩ : ByteArray)⟩ : S39)] = some (14, 0) := by decide +kernel
  have h2 : arith_Eval.f 60 (⟨#[49, 32, 124, 124, 32, 49, 32, 47, 32, 48]⟩ : ByteArray) [] = some (1, 0) := by decide +kernel
  unfold dragomanlaw10_shown.f
  rw [h1, Option.bind_some, h2, Option.bind_some]
  rfl

section
variable {K : Nat} {ta tb : ByteArray} {a b : Int} (ha : Fig ta a) (hb : Fig tb b)
include ha hb
theorem fit2 : fitB [(⟨ca, ta⟩ : S39), (⟨cb, tb⟩ : S39)] = true := by
  unfold fitB
  have := ha.2.2
  have := hb.2.2
  simp
  omega
theorem bin_ab {s : ByteArray} {o : Bop} {q : Nat} {n e : Int} (h : run s K (.lev 0) 0 0 = some (.ok (.bin o (.name ca) (.name cb), q))) (hs : s.size ≤ 100) (hq : ¬ sk s q < s.size)
    (hv : fin (if o = .lor ∧ a ≠ 0 ∨ o = .land ∧ a = 0 then (.ok (yesV (a != 0)) : Except Int Int) else twoV o a b) = (n, e)) :
    arith_Eval.f K s [(⟨ca, ta⟩ : S39), (⟨cb, tb⟩ : S39)] = some (n, e) := by
  refine eval_of h hs hq (by simp) (fit2 ha hb) ?_
  rw [← hv]
  have va : valueV [(⟨ca, ta⟩ : S39), (⟨cb, tb⟩ : S39)] (.name ca) = .ok a := valueOf_fig (by kernel_rfl) ha
  have vb : valueV [(⟨ca, ta⟩ : S39), (⟨cb, tb⟩ : S39)] (.name cb) = .ok b := valueOf_fig (by kernel_rfl) hb
  rw [valueV, va]
  dsimp only
  rw [vb]
end
set_option maxRecDepth 100000 in
theorem Pure.ArithFigures : dragomanlaw10_ArithFigures.Pure := by
  intro a b wa wb
  have Ia := i64_range wa
  have Ib := i64_range wb
  obtain ⟨ta, fa, ha⟩ := fig_f a Ia 60 (by omega)
  obtain ⟨tb, fb, hb⟩ := fig_f b Ib 60 (by omega)
  have k1 := bin_ab (K := 60) ha hb (s := ⟨#[97, 43, 98]⟩) (o := .add) (q := 3) (n := wrap64 (a + b)) (e := 0) (by kernel_rfl) (by decide) (by decide) rfl
  have k2 := bin_ab (K := 60) ha hb (s := ⟨#[97, 32, 45, 32, 98]⟩) (o := .sub) (q := 5) (n := wrap64 (a - b)) (e := 0) (by kernel_rfl) (by decide) (by decide) rfl
  have k3 := bin_ab (K := 60) ha hb (s := ⟨#[97, 42, 98]⟩) (o := .mul) (q := 3) (n := wrap64 (a * b)) (e := 0) (by kernel_rfl) (by decide) (by decide) rfl
  have k4 := bin_ab (K := 60) ha hb (s := ⟨#[97, 60, 98]⟩) (o := .lt) (q := 3) (n := yesV (decide (a < b))) (e := 0) (by kernel_rfl) (by decide) (by decide) rfl
  refine ⟨60, ?_⟩
  have hj : dragomanlaw10_ArithFigures.j0 60 a b true [(⟨ca, ta⟩ : S39), (⟨cb, tb⟩ : S39)] false = some true := by
    have g1 : ∀ n e, fin (twoV .div a b) = (n, e) → arith_Eval.f 59 ⟨#[97, 47, 98]⟩ [(⟨ca, ta⟩ : S39), (⟨cb, tb⟩ : S39)] = some (n, e) := fun n e h =>
      bin_ab ha hb (o := .div) (q := 3) (by kernel_rfl) (by decide) (by decide) h
    have g2 : ∀ n e, fin (twoV .mod a b) = (n, e) → arith_Eval.f 59 ⟨#[97, 32, 37, 32, 98]⟩ [(⟨ca, ta⟩ : S39), (⟨cb, tb⟩ : S39)] = some (n, e) := fun n e h =>
      bin_ab ha hb (o := .mod) (q := 5) (by kernel_rfl) (by decide) (by decide) h
    generalize hK : (60 : Nat) = K
    obtain rfl : K = 59 + 1 := hK.symm
    simp only [dragomanlaw10_ArithFigures.j0, Bool.false_eq_true, if_false]
    by_cases hb0 : b = 0
    · have d1 := g1 0 4 (by rw [twoV, if_pos hb0]; rfl)
      have d2 := g2 0 4 (by rw [twoV, if_pos hb0]; rfl)
      rw [d1, Option.bind_some, d2, Option.bind_some, if_pos hb0]
      rfl
    · have d1 := g1 (wrap64 (a.tdiv b)) 0 (by rw [twoV, if_neg hb0]; rfl)
      have d2 := g2 (a.tmod b) 0 (by rw [twoV, if_neg hb0]; rfl)
      rw [d1, Option.bind_some, d2, Option.bind_some, if_neg hb0, if_pos rfl]
      simp
  unfold dragomanlaw10_ArithFigures.f
  rw [shown_f, Option.bind_some, fa, Option.bind_some, fb, Option.bind_some, Option.bind_some]
  change (arith_Eval.f 60 _ [(⟨ca, ta⟩ : S39), (⟨cb, tb⟩ : S39)]).bind _ = _
  rw [k1, Option.bind_some]
  change (arith_Eval.f 60 _ [(⟨ca, ta⟩ : S39), (⟨cb, tb⟩ : S39)]).bind _ = _
  rw [k2, Option.bind_some]
  change (arith_Eval.f 60 _ [(⟨ca, ta⟩ : S39), (⟨cb, tb⟩ : S39)]).bind _ = _
  rw [k3, Option.bind_some]
  change (arith_Eval.f 60 _ [(⟨ca, ta⟩ : S39), (⟨cb, tb⟩ : S39)]).bind _ = _
  rw [k4, Option.bind_some]
  dsimp only
  rw [if_pos rfl, if_pos rfl, if_pos rfl, if_pos rfl, if_pos rfl, if_pos rfl, if_pos rfl]
  have hc : ((yesV (decide (a < b)) == 1) != decide (a < b)) = false := by by_cases h : a < b <;> simp [h, yesV]
  rw [hc]
  exact hj

set_option maxRecDepth 100000 in
theorem Pure.ArithOrders : dragomanlaw10_ArithOrders.Pure := by
  intro a b c wa wb wc
  obtain ⟨ta, fa, ha⟩ := fig_f a (i64_range wa) 60 (by omega)
  obtain ⟨tb, fb, hb⟩ := fig_f b (i64_range wb) 60 (by omega)
  obtain ⟨tc, fc, hc⟩ := fig_f c (i64_range wc) 60 (by omega)
  have hfit : fitB [(⟨ca, ta⟩ : S39), (⟨cb, tb⟩ : S39), (⟨cc, tc⟩ : S39)] = true := by
    unfold fitB
    have := ha.2.2
    have := hb.2.2
    have := hc.2.2
    simp
    omega
  have va : valueV [(⟨ca, ta⟩ : S39), (⟨cb, tb⟩ : S39), (⟨cc, tc⟩ : S39)] (.name ca) = .ok a := valueOf_fig (by kernel_rfl) ha
  have vb : valueV [(⟨ca, ta⟩ : S39), (⟨cb, tb⟩ : S39), (⟨cc, tc⟩ : S39)] (.name cb) = .ok b := valueOf_fig (by kernel_rfl) hb
  have vc : valueV [(⟨ca, ta⟩ : S39), (⟨cb, tb⟩ : S39), (⟨cc, tc⟩ : S39)] (.name cc) = .ok c := valueOf_fig (by kernel_rfl) hc
  have k1 := eval_of (K := 60) (s := ⟨#[97, 43, 98, 42, 99]⟩) (l := [(⟨ca, ta⟩ : S39), (⟨cb, tb⟩ : S39), (⟨cc, tc⟩ : S39)]) (nd := .bin .add (.name ca) (.bin .mul (.name cb) (.name cc))) (q := 5) (n := wrap64 (a + wrap64 (b * c))) (e := 0) (by kernel_rfl) (by decide) (by decide) (by simp) hfit
    (by simp [valueV, va, vb, vc, twoV, fin, show valueOfV _ ca = .ok a from va, show valueOfV _ cb = .ok b from vb, show valueOfV _ cc = .ok c from vc])
  have k2 := eval_of (K := 60) (s := ⟨#[40, 97, 41, 43, 40, 98, 42, 99, 41]⟩) (l := [(⟨ca, ta⟩ : S39), (⟨cb, tb⟩ : S39), (⟨cc, tc⟩ : S39)]) (nd := .bin .add (.name ca) (.bin .mul (.name cb) (.name cc))) (q := 9) (n := wrap64 (a + wrap64 (b * c))) (e := 0) (by kernel_rfl) (by decide) (by decide) (by simp) hfit
    (by simp [valueV, va, vb, vc, twoV, fin, show valueOfV _ ca = .ok a from va, show valueOfV _ cb = .ok b from vb, show valueOfV _ cc = .ok c from vc])
  have k3 := eval_of (K := 60) (s := ⟨#[99, 42, 98, 43, 97]⟩) (l := [(⟨ca, ta⟩ : S39), (⟨cb, tb⟩ : S39), (⟨cc, tc⟩ : S39)]) (nd := .bin .add (.bin .mul (.name cc) (.name cb)) (.name ca)) (q := 5) (n := wrap64 (wrap64 (c * b) + a)) (e := 0) (by kernel_rfl) (by decide) (by decide) (by simp) hfit
    (by simp [valueV, va, vb, vc, twoV, fin, show valueOfV _ ca = .ok a from va, show valueOfV _ cb = .ok b from vb, show valueOfV _ cc = .ok c from vc])
  have k4 := eval_of (K := 60) (s := ⟨#[97, 45, 98, 45, 99]⟩) (l := [(⟨ca, ta⟩ : S39), (⟨cb, tb⟩ : S39), (⟨cc, tc⟩ : S39)]) (nd := .bin .sub (.bin .sub (.name ca) (.name cb)) (.name cc)) (q := 5) (n := wrap64 (wrap64 (a - b) - c)) (e := 0) (by kernel_rfl) (by decide) (by decide) (by simp) hfit
    (by simp [valueV, va, vb, vc, twoV, fin, show valueOfV _ ca = .ok a from va, show valueOfV _ cb = .ok b from vb, show valueOfV _ cc = .ok c from vc])
  refine ⟨60, ?_⟩
  unfold dragomanlaw10_ArithOrders.f
  rw [shown_f, Option.bind_some, fa, Option.bind_some, fb, Option.bind_some, fc, Option.bind_some, Option.bind_some]
  change (arith_Eval.f 60 _ [(⟨ca, ta⟩ : S39), (⟨cb, tb⟩ : S39), (⟨cc, tc⟩ : S39)]).bind _ = _
  rw [k1, Option.bind_some]
  change (arith_Eval.f 60 _ [(⟨ca, ta⟩ : S39), (⟨cb, tb⟩ : S39), (⟨cc, tc⟩ : S39)]).bind _ = _
  rw [k2, Option.bind_some]
  change (arith_Eval.f 60 _ [(⟨ca, ta⟩ : S39), (⟨cb, tb⟩ : S39), (⟨cc, tc⟩ : S39)]).bind _ = _
  rw [k3, Option.bind_some]
  change (arith_Eval.f 60 _ [(⟨ca, ta⟩ : S39), (⟨cb, tb⟩ : S39), (⟨cc, tc⟩ : S39)]).bind _ = _
  rw [k4, Option.bind_some]
  dsimp only
  have e1 : wrap64 (a + wrap64 (b * c)) = wrap64 (wrap64 (c * b) + a) := by rw [Int.mul_comm c b, Int.add_comm]
  rw [if_pos rfl, if_pos rfl, if_pos rfl, if_pos rfl, if_pos rfl, if_pos rfl, if_pos e1]
  simp
end Go.Proofs.YtambnodgfhlpfaaDoor.P
