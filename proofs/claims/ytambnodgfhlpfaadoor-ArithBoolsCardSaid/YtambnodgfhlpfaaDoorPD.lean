/- The statement on comparisons in plain words. -/
import Derived.Test.YtambnodgfhlpfaaDoorPC
import Derived.Test.YtambnodgfhlpfaaDoorQCx1
set_option linter.unusedVariables false
set_option linter.unusedSimpArgs false
namespace Go.Proofs.YtambnodgfhlpfaaDoor.P
open Go.RowKit Go.Proofs.YtambnodgfhlpfaaDoorW.PrintWords Go.Proofs.YtambnodgfhlpfaaDoorW.PrintLast Go.Proofs.YtambnodgfhlpfaaDoor.G Go.Proofs.YtambnodgfhlpfaaDoor.QA Go.Proofs.YtambnodgfhlpfaaDoor.A Go.Proofs.YtambnodgfhlpfaaDoor.QB Go.Proofs.YtambnodgfhlpfaaDoor.QC

theorem ev_up {s : ByteArray} {l : Vars} {r : Int × Int} {K : Nat} (h : arith_Eval.f K s l = some r) : ∀ d, arith_Eval.f (K + d) s l = some r
  | 0 => h
  | d + 1 => arith_Eval.mono (K + d) s l r (ev_up h d)
theorem ev_le {s : ByteArray} {l : Vars} {r : Int × Int} {K K' : Nat} (h : arith_Eval.f K s l = some r) (hk : K ≤ K') : arith_Eval.f K' s l = some r := by
  have := ev_up h (K' - K)
  rwa [show K + (K' - K) = K' by omega] at this
theorem bstep {k i : Nat} {x5 : Bool} {L : List S39} {T : List ByteArray} {W : List Bool} {w : Bool} (hT : T.length = 9) (hW : W.length = 9) (hi : i < 9)
    (hE : arith_Eval.f k (rdOf ByteArray.empty T (i : Int)) L = some (yesV w, 0)) (hw : rdOf false W (i : Int) = w) :
    dragomanlaw10_ArithBools.l0 (k + 1) x5 L T W (i : Int) = dragomanlaw10_ArithBools.l0 k x5 L T W ((i + 1 : Nat) : Int) := by
  have hwr : wrap64 ((i : Int) + 1) = ((i + 1 : Nat) : Int) := by rw [wrap_id (by omega) (by omega)]; omega
  simp only [dragomanlaw10_ArithBools.l0]
  rw [if_pos (by omega), if_pos (by omega), hE, Option.bind_some, hwr, hw]
  cases w
  · rw [if_pos rfl, if_pos (by rfl), if_pos (by omega), if_neg (by decide)]
  · rw [if_pos rfl, if_neg (by decide), if_pos (by rfl), if_pos (by omega), if_neg (by decide)]
theorem bend {k : Nat} {x5 : Bool} {L : List S39} {T : List ByteArray} {W : List Bool} (hT : T.length = 9) : dragomanlaw10_ArithBools.l0 (k + 1) x5 L T W ((9 : Nat) : Int) = some x5 := by
  simp only [dragomanlaw10_ArithBools.l0]
  rw [if_neg (by omega)]
theorem bne_dec (b : Int) : (b != 0) = decide (b ≠ 0) := by by_cases h : b = 0 <;> simp [h, bne]
def texts : List ByteArray := [(⟨#[97, 60, 98]⟩ : ByteArray), (⟨#[97, 60, 61, 98]⟩ : ByteArray), (⟨#[97, 61, 61, 98]⟩ : ByteArray), (⟨#[97, 33, 61, 98]⟩ : ByteArray), (⟨#[97, 62, 98]⟩ : ByteArray), (⟨#[97, 62, 61, 98]⟩ : ByteArray), (⟨#[97, 38, 38, 98]⟩ : ByteArray), (⟨#[97, 124, 124, 98]⟩ : ByteArray), (⟨#[33, 97]⟩ : ByteArray)]
set_option maxRecDepth 100000 in
theorem bools_at {ta tb : ByteArray} {a b : Int} (ha : Fig ta a) (hb : Fig tb b) (x5 p6 p7 : Bool) (h6 : p6 = (decide (a ≠ 0) && decide (b ≠ 0))) (h7 : p7 = (decide (a ≠ 0) || decide (b ≠ 0))) :
    dragomanlaw10_ArithBools.l0 58 x5 [(⟨ca, ta⟩ : S39), (⟨cb, tb⟩ : S39)] texts [decide (a < b), decide (a ≤ b), (a == b), (a != b), decide (a > b), decide (a ≥ b), p6, p7, (a == 0)] ((0 : Nat) : Int) = some x5 := by
  have k0 := bin_ab (K := 30) ha hb (s := ⟨#[97, 60, 98]⟩) (o := .lt) (q := 3) (n := yesV (decide (a < b))) (e := 0) (by kernel_rfl) (by decide) (by decide) rfl
  have k1 := bin_ab (K := 30) ha hb (s := ⟨#[97, 60, 61, 98]⟩) (o := .le) (q := 4) (n := yesV (decide (a ≤ b))) (e := 0) (by kernel_rfl) (by decide) (by decide) rfl
  have k2 := bin_ab (K := 30) ha hb (s := ⟨#[97, 61, 61, 98]⟩) (o := .eq) (q := 4) (n := yesV (a == b)) (e := 0) (by kernel_rfl) (by decide) (by decide) rfl
  have k3 := bin_ab (K := 30) ha hb (s := ⟨#[97, 33, 61, 98]⟩) (o := .ne) (q := 4) (n := yesV (a != b)) (e := 0) (by kernel_rfl) (by decide) (by decide) rfl
  have k4 := bin_ab (K := 30) ha hb (s := ⟨#[97, 62, 98]⟩) (o := .gt) (q := 3) (n := yesV (decide (b < a))) (e := 0) (by kernel_rfl) (by decide) (by decide) rfl
  have k5 := bin_ab (K := 30) ha hb (s := ⟨#[97, 62, 61, 98]⟩) (o := .ge) (q := 4) (n := yesV (decide (b ≤ a))) (e := 0) (by kernel_rfl) (by decide) (by decide) rfl
  have k6 := bin_ab (K := 30) ha hb (s := ⟨#[97, 38, 38, 98]⟩) (o := .land) (q := 4) (n := yesV p6) (e := 0) (by kernel_rfl) (by decide) (by decide)
    (by subst h6; by_cases h : a = 0
        · rw [if_pos (.inr ⟨rfl, h⟩)]; simp [h, fin]
        · rw [if_neg (by simp [h])]; show (yesV (b != 0), (0 : Int)) = _; rw [bne_dec]; simp [h])
  have k7 := bin_ab (K := 30) ha hb (s := ⟨#[97, 124, 124, 98]⟩) (o := .lor) (q := 4) (n := yesV p7) (e := 0) (by kernel_rfl) (by decide) (by decide)
    (by subst h7; by_cases h : a = 0
        · rw [if_neg (by simp [h])]; show (yesV (b != 0), (0 : Int)) = _; rw [bne_dec]; simp [h]
        · rw [if_pos (.inl ⟨rfl, h⟩)]; show (yesV (a != 0), (0 : Int)) = _; rw [bne_dec]; simp [h])
  have va : valueV [(⟨ca, ta⟩ : S39), (⟨cb, tb⟩ : S39)] (.name ca) = .ok a := valueOf_fig (by kernel_rfl) ha
  have k8 := eval_of (K := 30) (s := ⟨#[33, 97]⟩) (l := [(⟨ca, ta⟩ : S39), (⟨cb, tb⟩ : S39)]) (nd := .un .not (.name ca)) (q := 2) (n := yesV (a == 0)) (e := 0) (by kernel_rfl) (by decide) (by decide) (by simp) (fit2 ha hb)
    (by rw [valueV, va]; rfl)
  rw [bstep (i := 0) rfl rfl (by omega) (ev_le k0 (by omega)) rfl, bstep (i := 1) rfl rfl (by omega) (ev_le k1 (by omega)) rfl, bstep (i := 2) rfl rfl (by omega) (ev_le k2 (by omega)) rfl, bstep (i := 3) rfl rfl (by omega) (ev_le k3 (by omega)) rfl,
    bstep (i := 4) rfl rfl (by omega) (ev_le k4 (by omega)) rfl, bstep (i := 5) rfl rfl (by omega) (ev_le k5 (by omega)) rfl, bstep (i := 6) rfl rfl (by omega) (ev_le k6 (by omega)) rfl, bstep (i := 7) rfl rfl (by omega) (ev_le k7 (by omega)) rfl,
    bstep (i := 8) rfl rfl (by omega) (ev_le k8 (by omega)) rfl]
  exact bend rfl
set_option maxRecDepth 100000 in
theorem Pure.ArithBools : dragomanlaw10_ArithBools.Pure := by
  intro a b wa wb
  obtain ⟨ta, fa, ha⟩ := fig_f a (i64_range wa) 60 (by omega)
  obtain ⟨tb, fb, hb⟩ := fig_f b (i64_range wb) 60 (by omega)
  refine ⟨60, ?_⟩
  have hj : ∀ W : List Bool, dragomanlaw10_ArithBools.l0 58 true [(⟨ca, ta⟩ : S39), (⟨cb, tb⟩ : S39)] texts W ((0 : Nat) : Int) = some true → dragomanlaw10_ArithBools.j0 60 true [(⟨ca, ta⟩ : S39), (⟨cb, tb⟩ : S39)] texts W = some true := by
    intro W h
    generalize hK : (60 : Nat) = K
    obtain rfl : K = 59 + 1 := hK.symm
    simp only [dragomanlaw10_ArithBools.j0]
    exact dragomanlaw10_ArithBools.mono_l 58 |>.2 _ _ _ _ _ _ h
  unfold dragomanlaw10_ArithBools.f
  rw [shown_f, Option.bind_some, fa, Option.bind_some, fb, Option.bind_some, Option.bind_some, Option.bind_some]
  by_cases h0 : a = 0
  · rw [if_pos h0]
    exact hj _ (bools_at ha hb true false (b != 0) (by simp [h0]) (by rw [bne_dec]; simp [h0]))
  · rw [if_neg h0]
    exact hj _ (bools_at ha hb true (b != 0) true (by rw [bne_dec]; simp [h0]) (by simp [h0]))
end Go.Proofs.YtambnodgfhlpfaaDoor.P
