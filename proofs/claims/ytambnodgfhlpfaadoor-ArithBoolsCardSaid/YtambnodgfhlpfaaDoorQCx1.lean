/- The Go functions of this part as Lean functions, each with a proof that a call of it comes to just what the Lean function does. Written by a program of the session's. Conditions: none but those in each theorem. -/
import Derived.Test.YtambnodgfhlpfaaDoorQCx0
namespace Go.Proofs.YtambnodgfhlpfaaDoor.QC
open Go.Proofs.YtambnodgfhlpfaaDoor.G Go.Proofs.YtambnodgfhlpfaaDoor.QA Go.Proofs.YtambnodgfhlpfaaDoor.A Go.Proofs.YtambnodgfhlpfaaDoor.QB
open Go.RowKit Go.Proofs.YtambnodgfhlpfaaDoorW.PrintWords Go.Proofs.YtambnodgfhlpfaaDoorW.PrintLast Go.Proofs.YtambnodgfhlpfaaDoorW.PrintMore
attribute [local go_sem] max2_int min2_int max_two min_two max_three min_three max_four min_four   -- for this text's walks alone
set_option linter.unusedVariables false
set_option linter.unusedSimpArgs false

-- GIVEN: function 11 (dragomanlaw10_shown)

-- GIVEN: function 13 (arith_Eval)

-- GIVEN: function 16 (dragomanlaw10_figures)

/-! ### dragomanlaw10_ArithBools: function 9 -/
mutual
def dragomanlaw10_ArithBools.j0 : Nat → Bool → List (S39) → List ByteArray → List Bool → Option (Bool)
  | 0, _, _, _, _ => none
  | k + 1, x5, x6, x7, x8 => dragomanlaw10_ArithBools.l0 k x5 x6 x7 x8 0
def dragomanlaw10_ArithBools.l0 : Nat → Bool → List (S39) → List ByteArray → List Bool → Int → Option (Bool)
  | 0, _, _, _, _, _ => none
  | k + 1, x5, x6, x7, x8, x9 => if x9 < (x7.length : Int) then (if 0 ≤ x9 then ((arith_Eval.f k (rdOf ByteArray.empty x7 x9) x6).bind fun bt117 => (if bt117.2 = 0 then (if bt117.1 = 0 then (if x9 < (x8.length : Int) then (if ((bt117.1 == 1) != (rdOf false x8 x9)) = true then (some false) else (dragomanlaw10_ArithBools.l0 k x5 x6 x7 x8 (wrap64 (x9 + 1)))) else (none)) else (if bt117.1 = 1 then (if x9 < (x8.length : Int) then (if ((bt117.1 == 1) != (rdOf false x8 x9)) = true then (some false) else (dragomanlaw10_ArithBools.l0 k x5 x6 x7 x8 (wrap64 (x9 + 1)))) else (none)) else (some false))) else (some false))) else (none)) else (some x5)
end
def dragomanlaw10_ArithBools.f (k : Nat) (a0 : Int) (a1 : Int) : Option (Bool) := (dragomanlaw10_shown.f k).bind fun t101 => ((dragomanlaw10_figures.f k a0).bind fun t102 => ((dragomanlaw10_figures.f k a1).bind fun t103 => ((some (([(⟨(⟨#[97]⟩ : ByteArray), t102⟩ : S39), (⟨(⟨#[98]⟩ : ByteArray), t103⟩ : S39)] : List (S39)) : List (S39))).bind fun y104 => ((some (([(⟨#[97, 60, 98]⟩ : ByteArray), (⟨#[97, 60, 61, 98]⟩ : ByteArray), (⟨#[97, 61, 61, 98]⟩ : ByteArray), (⟨#[97, 33, 61, 98]⟩ : ByteArray), (⟨#[97, 62, 98]⟩ : ByteArray), (⟨#[97, 62, 61, 98]⟩ : ByteArray), (⟨#[97, 38, 38, 98]⟩ : ByteArray), (⟨#[97, 124, 124, 98]⟩ : ByteArray), (⟨#[33, 97]⟩ : ByteArray)] : List ByteArray) : List ByteArray)).bind fun y107 => (if a0 = 0 then (dragomanlaw10_ArithBools.j0 k t101 y104 y107 (([decide (a0 < a1), decide (a0 ≤ a1), (a0 == a1), (a0 != a1), decide (a0 > a1), decide (a0 ≥ a1), false, (a1 != 0), (a0 == 0)] : List Bool))) else (dragomanlaw10_ArithBools.j0 k t101 y104 y107 (([decide (a0 < a1), decide (a0 ≤ a1), (a0 == a1), (a0 != a1), decide (a0 > a1), decide (a0 ≥ a1), (a1 != 0), true, (a0 == 0)] : List Bool))))))))
theorem dragomanlaw10_ArithBools.mono_l : ∀ k, (∀ y0 y1 y2 y3, LeO (dragomanlaw10_ArithBools.j0 k y0 y1 y2 y3) (dragomanlaw10_ArithBools.j0 (k + 1) y0 y1 y2 y3)) ∧ (∀ y0 y1 y2 y3 y4, LeO (dragomanlaw10_ArithBools.l0 k y0 y1 y2 y3 y4) (dragomanlaw10_ArithBools.l0 (k + 1) y0 y1 y2 y3 y4))
  | 0 => ⟨fun _ _ _ _ r h => by simp [dragomanlaw10_ArithBools.j0] at h, fun _ _ _ _ _ r h => by simp [dragomanlaw10_ArithBools.l0] at h⟩
  | k + 1 => by
    obtain ⟨ih0, ih1⟩ := dragomanlaw10_ArithBools.mono_l k
    refine ⟨?_, ?_⟩
    · intro y0 y1 y2 y3
      unfold dragomanlaw10_ArithBools.j0
      repeat' first
      | (with_reducible exact ih0 _ _ _ _)
      | (with_reducible exact ih1 _ _ _ _ _)
      | (with_reducible exact arith_Eval.mono _ _ _)
      | (with_reducible exact dragomanlaw10_figures.mono _ _)
      | (with_reducible exact dragomanlaw10_shown.mono _)
      | (with_reducible exact LeO.refl _)
      | (with_reducible exact LeO.none _)
      | (with_reducible refine LeO.ite ?_ ?_)
      | (with_reducible refine LeO.bind ?_ (fun _ => ?_))
      | exact ih0 _ _ _ _
      | exact ih1 _ _ _ _ _
      | exact arith_Eval.mono _ _ _
      | exact dragomanlaw10_figures.mono _ _
      | exact dragomanlaw10_shown.mono _
      | exact LeO.none _
      | refine LeO.ite ?_ ?_
      | refine LeO.bind ?_ (fun _ => ?_)
    · intro y0 y1 y2 y3 y4
      unfold dragomanlaw10_ArithBools.l0
      repeat' first
      | (with_reducible exact ih0 _ _ _ _)
      | (with_reducible exact ih1 _ _ _ _ _)
      | (with_reducible exact arith_Eval.mono _ _ _)
      | (with_reducible exact dragomanlaw10_figures.mono _ _)
      | (with_reducible exact dragomanlaw10_shown.mono _)
      | (with_reducible exact LeO.refl _)
      | (with_reducible exact LeO.none _)
      | (with_reducible refine LeO.ite ?_ ?_)
      | (with_reducible refine LeO.bind ?_ (fun _ => ?_))
      | exact ih0 _ _ _ _
      | exact ih1 _ _ _ _ _
      | exact arith_Eval.mono _ _ _
      | exact dragomanlaw10_figures.mono _ _
      | exact dragomanlaw10_shown.mono _
      | exact LeO.none _
      | refine LeO.ite ?_ ?_
      | refine LeO.bind ?_ (fun _ => ?_)
theorem dragomanlaw10_ArithBools.mono : ∀ a0 a1 k, LeO (dragomanlaw10_ArithBools.f k a0 a1) (dragomanlaw10_ArithBools.f (k + 1) a0 a1) := by
  intro a0 a1 k
  obtain ⟨ih0, ih1⟩ := dragomanlaw10_ArithBools.mono_l k
  unfold dragomanlaw10_ArithBools.f
  repeat' first
      | (with_reducible exact ih0 _ _ _ _)
      | (with_reducible exact ih1 _ _ _ _ _)
      | (with_reducible exact arith_Eval.mono _ _ _)
      | (with_reducible exact dragomanlaw10_figures.mono _ _)
      | (with_reducible exact dragomanlaw10_shown.mono _)
      | (with_reducible exact LeO.refl _)
      | (with_reducible exact LeO.none _)
      | (with_reducible refine LeO.ite ?_ ?_)
      | (with_reducible refine LeO.bind ?_ (fun _ => ?_))
      | exact ih0 _ _ _ _
      | exact ih1 _ _ _ _ _
      | exact arith_Eval.mono _ _ _
      | exact dragomanlaw10_figures.mono _ _
      | exact dragomanlaw10_shown.mono _
      | exact LeO.none _
      | refine LeO.ite ?_ ?_
      | refine LeO.bind ?_ (fun _ => ?_)
set_option maxHeartbeats 8000000 in
set_option maxRecDepth 100000 in
theorem dragomanlaw10_ArithBools.calls (k : Nat) (a0 : Int) (a1 : Int) (r : Bool) (w : World) (hG : GE w) (h : dragomanlaw10_ArithBools.f k a0 a1 = some r) :
    Calls Tryd.prog 9 #[.int .i64 a0, .int .i64 a1] w fun e w' => e = .returned (.bool r) ∧ Below w.heap.size w w' := by
  have hu39 := Tryd.underlying39
  have HB := Aside0.mk (Below.refl w.heap.size w)
  have H : ((dragomanlaw10_shown.f k).bind fun t101 => ((dragomanlaw10_figures.f k a0).bind fun t102 => ((dragomanlaw10_figures.f k a1).bind fun t103 => ((some (([(⟨(⟨#[97]⟩ : ByteArray), t102⟩ : S39), (⟨(⟨#[98]⟩ : ByteArray), t103⟩ : S39)] : List (S39)) : List (S39))).bind fun y104 => ((some (([(⟨#[97, 60, 98]⟩ : ByteArray), (⟨#[97, 60, 61, 98]⟩ : ByteArray), (⟨#[97, 61, 61, 98]⟩ : ByteArray), (⟨#[97, 33, 61, 98]⟩ : ByteArray), (⟨#[97, 62, 98]⟩ : ByteArray), (⟨#[97, 62, 61, 98]⟩ : ByteArray), (⟨#[97, 38, 38, 98]⟩ : ByteArray), (⟨#[97, 124, 124, 98]⟩ : ByteArray), (⟨#[33, 97]⟩ : ByteArray)] : List ByteArray) : List ByteArray)).bind fun y107 => (if a0 = 0 then (dragomanlaw10_ArithBools.j0 k t101 y104 y107 (([decide (a0 < a1), decide (a0 ≤ a1), (a0 == a1), (a0 != a1), decide (a0 > a1), decide (a0 ≥ a1), false, (a1 != 0), (a0 == 0)] : List Bool))) else (dragomanlaw10_ArithBools.j0 k t101 y104 y107 (([decide (a0 < a1), decide (a0 ≤ a1), (a0 == a1), (a0 != a1), decide (a0 > a1), decide (a0 ≥ a1), (a1 != 0), true, (a0 == 0)] : List Bool))))))))) = some r := h
  clear h
  replace H := Option.bind_eq_some_iff.mp H
  obtain ⟨t101, A30, H⟩ := H
  replace H : ((dragomanlaw10_figures.f k a0).bind fun t102 => ((dragomanlaw10_figures.f k a1).bind fun t103 => ((some (([(⟨(⟨#[97]⟩ : ByteArray), t102⟩ : S39), (⟨(⟨#[98]⟩ : ByteArray), t103⟩ : S39)] : List (S39)) : List (S39))).bind fun y104 => ((some (([(⟨#[97, 60, 98]⟩ : ByteArray), (⟨#[97, 60, 61, 98]⟩ : ByteArray), (⟨#[97, 61, 61, 98]⟩ : ByteArray), (⟨#[97, 33, 61, 98]⟩ : ByteArray), (⟨#[97, 62, 98]⟩ : ByteArray), (⟨#[97, 62, 61, 98]⟩ : ByteArray), (⟨#[97, 38, 38, 98]⟩ : ByteArray), (⟨#[97, 124, 124, 98]⟩ : ByteArray), (⟨#[33, 97]⟩ : ByteArray)] : List ByteArray) : List ByteArray)).bind fun y107 => (if a0 = 0 then (dragomanlaw10_ArithBools.j0 k t101 y104 y107 (([decide (a0 < a1), decide (a0 ≤ a1), (a0 == a1), (a0 != a1), decide (a0 > a1), decide (a0 ≥ a1), false, (a1 != 0), (a0 == 0)] : List Bool))) else (dragomanlaw10_ArithBools.j0 k t101 y104 y107 (([decide (a0 < a1), decide (a0 ≤ a1), (a0 == a1), (a0 != a1), decide (a0 > a1), decide (a0 ≥ a1), (a1 != 0), true, (a0 == 0)] : List Bool)))))))) = some r := H
  have A3 := Aside0.mk A30
  clear A30
  replace H := Option.bind_eq_some_iff.mp H
  obtain ⟨t102, A40, H⟩ := H
  replace H : ((dragomanlaw10_figures.f k a1).bind fun t103 => ((some (([(⟨(⟨#[97]⟩ : ByteArray), t102⟩ : S39), (⟨(⟨#[98]⟩ : ByteArray), t103⟩ : S39)] : List (S39)) : List (S39))).bind fun y104 => ((some (([(⟨#[97, 60, 98]⟩ : ByteArray), (⟨#[97, 60, 61, 98]⟩ : ByteArray), (⟨#[97, 61, 61, 98]⟩ : ByteArray), (⟨#[97, 33, 61, 98]⟩ : ByteArray), (⟨#[97, 62, 98]⟩ : ByteArray), (⟨#[97, 62, 61, 98]⟩ : ByteArray), (⟨#[97, 38, 38, 98]⟩ : ByteArray), (⟨#[97, 124, 124, 98]⟩ : ByteArray), (⟨#[33, 97]⟩ : ByteArray)] : List ByteArray) : List ByteArray)).bind fun y107 => (if a0 = 0 then (dragomanlaw10_ArithBools.j0 k t101 y104 y107 (([decide (a0 < a1), decide (a0 ≤ a1), (a0 == a1), (a0 != a1), decide (a0 > a1), decide (a0 ≥ a1), false, (a1 != 0), (a0 == 0)] : List Bool))) else (dragomanlaw10_ArithBools.j0 k t101 y104 y107 (([decide (a0 < a1), decide (a0 ≤ a1), (a0 == a1), (a0 != a1), decide (a0 > a1), decide (a0 ≥ a1), (a1 != 0), true, (a0 == 0)] : List Bool))))))) = some r := H
  have A4 := Aside0.mk A40
  clear A40
  replace H := Option.bind_eq_some_iff.mp H
  obtain ⟨t103, A50, H⟩ := H
  replace H : ((some (([(⟨(⟨#[97]⟩ : ByteArray), t102⟩ : S39), (⟨(⟨#[98]⟩ : ByteArray), t103⟩ : S39)] : List (S39)) : List (S39))).bind fun y104 => ((some (([(⟨#[97, 60, 98]⟩ : ByteArray), (⟨#[97, 60, 61, 98]⟩ : ByteArray), (⟨#[97, 61, 61, 98]⟩ : ByteArray), (⟨#[97, 33, 61, 98]⟩ : ByteArray), (⟨#[97, 62, 98]⟩ : ByteArray), (⟨#[97, 62, 61, 98]⟩ : ByteArray), (⟨#[97, 38, 38, 98]⟩ : ByteArray), (⟨#[97, 124, 124, 98]⟩ : ByteArray), (⟨#[33, 97]⟩ : ByteArray)] : List ByteArray) : List ByteArray)).bind fun y107 => (if a0 = 0 then (dragomanlaw10_ArithBools.j0 k t101 y104 y107 (([decide (a0 < a1), decide (a0 ≤ a1), (a0 == a1), (a0 != a1), decide (a0 > a1), decide (a0 ≥ a1), false, (a1 != 0), (a0 == 0)] : List Bool))) else (dragomanlaw10_ArithBools.j0 k t101 y104 y107 (([decide (a0 < a1), decide (a0 ≤ a1), (a0 == a1), (a0 != a1), decide (a0 > a1), decide (a0 ≥ a1), (a1 != 0), true, (a0 == 0)] : List Bool)))))) = some r := H
  have A5 := Aside0.mk A50
  clear A50
  obtain ⟨y104, hy104⟩ : ∃ y_ : List (S39), y_ = (([(⟨(⟨#[97]⟩ : ByteArray), t102⟩ : S39), (⟨(⟨#[98]⟩ : ByteArray), t103⟩ : S39)] : List (S39))) := ⟨_, rfl⟩
  replace H : ((some (([(⟨#[97, 60, 98]⟩ : ByteArray), (⟨#[97, 60, 61, 98]⟩ : ByteArray), (⟨#[97, 61, 61, 98]⟩ : ByteArray), (⟨#[97, 33, 61, 98]⟩ : ByteArray), (⟨#[97, 62, 98]⟩ : ByteArray), (⟨#[97, 62, 61, 98]⟩ : ByteArray), (⟨#[97, 38, 38, 98]⟩ : ByteArray), (⟨#[97, 124, 124, 98]⟩ : ByteArray), (⟨#[33, 97]⟩ : ByteArray)] : List ByteArray) : List ByteArray)).bind fun y107 => (if a0 = 0 then (dragomanlaw10_ArithBools.j0 k t101 y104 y107 (([decide (a0 < a1), decide (a0 ≤ a1), (a0 == a1), (a0 != a1), decide (a0 > a1), decide (a0 ≥ a1), false, (a1 != 0), (a0 == 0)] : List Bool))) else (dragomanlaw10_ArithBools.j0 k t101 y104 y107 (([decide (a0 < a1), decide (a0 ≤ a1), (a0 == a1), (a0 != a1), decide (a0 > a1), decide (a0 ≥ a1), (a1 != 0), true, (a0 == 0)] : List Bool))))) = some r := by first | (rw [hy104]; with_reducible exact H) | (have H2_ := (Option.bind_some _ _).symm.trans H; rw [hy104]; with_reducible exact H2_) | (have H2_ := (Option.bind_some _ _).symm.trans H; with_reducible exact H2_) | with_reducible exact H | (rw [hy104]; exact H) | exact H
  have Ny104 := Aside0.mk hy104
  clear hy104
  obtain ⟨y107, hy107⟩ : ∃ y_ : List ByteArray, y_ = (([(⟨#[97, 60, 98]⟩ : ByteArray), (⟨#[97, 60, 61, 98]⟩ : ByteArray), (⟨#[97, 61, 61, 98]⟩ : ByteArray), (⟨#[97, 33, 61, 98]⟩ : ByteArray), (⟨#[97, 62, 98]⟩ : ByteArray), (⟨#[97, 62, 61, 98]⟩ : ByteArray), (⟨#[97, 38, 38, 98]⟩ : ByteArray), (⟨#[97, 124, 124, 98]⟩ : ByteArray), (⟨#[33, 97]⟩ : ByteArray)] : List ByteArray)) := ⟨_, rfl⟩
  replace H : (if a0 = 0 then (dragomanlaw10_ArithBools.j0 k t101 y104 y107 (([decide (a0 < a1), decide (a0 ≤ a1), (a0 == a1), (a0 != a1), decide (a0 > a1), decide (a0 ≥ a1), false, (a1 != 0), (a0 == 0)] : List Bool))) else (dragomanlaw10_ArithBools.j0 k t101 y104 y107 (([decide (a0 < a1), decide (a0 ≤ a1), (a0 == a1), (a0 != a1), decide (a0 > a1), decide (a0 ≥ a1), (a1 != 0), true, (a0 == 0)] : List Bool)))) = some r := by first | (rw [hy107]; with_reducible exact H) | (have H2_ := (Option.bind_some _ _).symm.trans H; rw [hy107]; with_reducible exact H2_) | (have H2_ := (Option.bind_some _ _).symm.trans H; with_reducible exact H2_) | with_reducible exact H | (rw [hy107]; exact H) | exact H
  have Ny107 := Aside0.mk hy107
  clear hy107
  have HC6 := Aside0.mk H
  clear H
  go_enter Tryd.func9, Tryd.ntmps9
  go_upto_region 4 with (first | ((with_reducible refine gate_callee (f := 11) rfl ?_); refine goesL_ (some 12) rfl rfl Tryd.func11 (by kernel_rfl) rfl #[] rfl (by (try simp only [List.map_toArray, List.map_cons, List.map_nil]); first | done | rfl | (simp only [List.length_drop, List.length_take]; rfl)) ?_; (with_reducible refine (dragomanlaw10_shown.calls k  t101 _ ?side1 A3.out).mono ?_); (case side1 => refine GE.below hG ?_; repeat (first | (with_reducible first | exact HB.out | apply below_alloc | apply pw_below_drewN | apply below_drew1) | exact HB.out)); rintro e w7 ⟨rfl, hb⟩; refine ⟨_, rfl, ?_⟩; have n0_ := Aside0.mk (below_step (by repeat (first | (with_reducible first | exact HB.out | apply below_alloc | apply pw_below_drewN | apply below_drew1) | exact HB.out)) hb); clear HB; have HB := n0_; clear n0_; (try clear hb); (try clear hb2); (try clear hk); (try clear hi)) | ((with_reducible refine gate_callee (f := 16) rfl ?_); refine goesL_ (some 14) rfl rfl Tryd.func16 (by kernel_rfl) rfl #[.int .i64 a0] rfl (by (try simp only [List.map_toArray, List.map_cons, List.map_nil]); first | done | rfl | (simp only [List.length_drop, List.length_take]; rfl)) ?_; (with_reducible refine (dragomanlaw10_figures.calls k a0 t102 _ A4.out).mono ?_); rintro e w8 ⟨rfl, hb⟩; refine ⟨_, rfl, ?_⟩; have n0_ := Aside0.mk (below_step (by repeat (first | (with_reducible first | exact HB.out | apply below_alloc | apply pw_below_drewN | apply below_drew1) | exact HB.out)) hb); clear HB; have HB := n0_; clear n0_; (try clear hb); (try clear hb2); (try clear hk); (try clear hi)) | ((with_reducible refine gate_callee (f := 16) rfl ?_); refine goesL_ (some 17) rfl rfl Tryd.func16 (by kernel_rfl) rfl #[.int .i64 a1] rfl (by (try simp only [List.map_toArray, List.map_cons, List.map_nil]); first | done | rfl | (simp only [List.length_drop, List.length_take]; rfl)) ?_; (with_reducible refine (dragomanlaw10_figures.calls k a1 t103 _ A5.out).mono ?_); rintro e w9 ⟨rfl, hb⟩; refine ⟨_, rfl, ?_⟩; have n0_ := Aside0.mk (below_step (by repeat (first | (with_reducible first | exact HB.out | apply below_alloc | apply pw_below_drewN | apply below_drew1) | exact HB.out)) hb); clear HB; have HB := n0_; clear n0_; (try clear hb); (try clear hb2); (try clear hk); (try clear hi)) | ((with_reducible refine gate_dst (N := 19) rfl ?_); refine Kd.R_lit k39 _ 39 ?hg (N := 19) ?hd (xs := ([(⟨(⟨#[97]⟩ : ByteArray), t102⟩ : S39), (⟨(⟨#[98]⟩ : ByteArray), t103⟩ : S39)] : List (S39))) (inner := [.string (⟨#[97]⟩ : ByteArray), .string t102, .string (⟨#[98]⟩ : ByteArray), .string t103]) (ok := fun _ => True) (okp := fun _ => True) ?hr ?hp (fun _ hk => hk) trivial (Below.refl _ _) (Nat.le_refl _) (by simp) ?_; (case hd => rfl); (case hg => rfl); (case hr => first | (go_simp; done) | (go_simp; rfl)); (case hp => exact (Reps.c2 (show Kd.M k39 _ _ _ (⟨(⟨#[97]⟩ : ByteArray), t102⟩ : S39) [.string (⟨#[97]⟩ : ByteArray), .string t102] from (k39_mkM _ _ _ (⟨(⟨#[97]⟩ : ByteArray), t102⟩ : S39) )) (Reps.c2 (show Kd.M k39 _ _ _ (⟨(⟨#[98]⟩ : ByteArray), t103⟩ : S39) [.string (⟨#[98]⟩ : ByteArray), .string t103] from (k39_mkM _ _ _ (⟨(⟨#[98]⟩ : ByteArray), t103⟩ : S39) )) (Reps.none _ _)))); intro v105 w10 ho11 hb hg_ hnew_; clear hg_ hnew_; (first | rw [← Ny104.out] at ho11 | (simp only [Int.reduceToNat] at ho11; rw [← Ny104.out] at ho11)); have n0_ := Aside0.mk (Kd.R_lower ho11 (below_size (by repeat (first | (with_reducible first | exact HB.out | apply below_alloc | apply pw_below_drewN | apply below_drew1) | exact HB.out)))); have n1_ := Aside0.mk (below_step (by repeat (first | (with_reducible first | exact HB.out | apply below_alloc | apply pw_below_drewN | apply below_drew1) | exact HB.out)) hb); clear HB; have HO106 := n0_; have HB := n1_; clear n0_ n1_; clear hb ho11) | ((with_reducible refine gate_dst (N := 20) rfl ?_); refine Kd.R_lit Kd.string _ 9 ?hg (N := 20) ?hd (xs := ([(⟨#[97, 60, 98]⟩ : ByteArray), (⟨#[97, 60, 61, 98]⟩ : ByteArray), (⟨#[97, 61, 61, 98]⟩ : ByteArray), (⟨#[97, 33, 61, 98]⟩ : ByteArray), (⟨#[97, 62, 98]⟩ : ByteArray), (⟨#[97, 62, 61, 98]⟩ : ByteArray), (⟨#[97, 38, 38, 98]⟩ : ByteArray), (⟨#[97, 124, 124, 98]⟩ : ByteArray), (⟨#[33, 97]⟩ : ByteArray)] : List ByteArray)) (inner := [.string (⟨#[97, 60, 98]⟩ : ByteArray), .string (⟨#[97, 60, 61, 98]⟩ : ByteArray), .string (⟨#[97, 61, 61, 98]⟩ : ByteArray), .string (⟨#[97, 33, 61, 98]⟩ : ByteArray), .string (⟨#[97, 62, 98]⟩ : ByteArray), .string (⟨#[97, 62, 61, 98]⟩ : ByteArray), .string (⟨#[97, 38, 38, 98]⟩ : ByteArray), .string (⟨#[97, 124, 124, 98]⟩ : ByteArray), .string (⟨#[33, 97]⟩ : ByteArray)]) (ok := fun _ => True) (okp := fun _ => True) ?hr ?hp (fun _ hk => hk) trivial (Below.refl _ _) (Nat.le_refl _) (by simp) ?_; (case hd => rfl); (case hg => rfl); (case hr => first | (go_simp; done) | (go_simp; rfl)); (case hp => exact (Reps.one (show Kd.M Kd.string _ _ _ (⟨#[97, 60, 98]⟩ : ByteArray) [.string (⟨#[97, 60, 98]⟩ : ByteArray)] from rfl) (Reps.one (show Kd.M Kd.string _ _ _ (⟨#[97, 60, 61, 98]⟩ : ByteArray) [.string (⟨#[97, 60, 61, 98]⟩ : ByteArray)] from rfl) (Reps.one (show Kd.M Kd.string _ _ _ (⟨#[97, 61, 61, 98]⟩ : ByteArray) [.string (⟨#[97, 61, 61, 98]⟩ : ByteArray)] from rfl) (Reps.one (show Kd.M Kd.string _ _ _ (⟨#[97, 33, 61, 98]⟩ : ByteArray) [.string (⟨#[97, 33, 61, 98]⟩ : ByteArray)] from rfl) (Reps.one (show Kd.M Kd.string _ _ _ (⟨#[97, 62, 98]⟩ : ByteArray) [.string (⟨#[97, 62, 98]⟩ : ByteArray)] from rfl) (Reps.one (show Kd.M Kd.string _ _ _ (⟨#[97, 62, 61, 98]⟩ : ByteArray) [.string (⟨#[97, 62, 61, 98]⟩ : ByteArray)] from rfl) (Reps.one (show Kd.M Kd.string _ _ _ (⟨#[97, 38, 38, 98]⟩ : ByteArray) [.string (⟨#[97, 38, 38, 98]⟩ : ByteArray)] from rfl) (Reps.one (show Kd.M Kd.string _ _ _ (⟨#[97, 124, 124, 98]⟩ : ByteArray) [.string (⟨#[97, 124, 124, 98]⟩ : ByteArray)] from rfl) (Reps.one (show Kd.M Kd.string _ _ _ (⟨#[33, 97]⟩ : ByteArray) [.string (⟨#[33, 97]⟩ : ByteArray)] from rfl) (Reps.none _ _))))))))))); intro v108 w12 ho13 hb hg_ hnew_; clear hg_ hnew_; (first | rw [← Ny107.out] at ho13 | (simp only [Int.reduceToNat] at ho13; rw [← Ny107.out] at ho13)); have n0_ := Aside0.mk (Kd.R_below (by (with_reducible repeat (first | apply Kd.R_alloc | apply Kd.R_drewN | apply Kd.R_drew)); exact HO106.out) hb); have n1_ := Aside0.mk (Kd.R_lower ho13 (below_size (by repeat (first | (with_reducible first | exact HB.out | apply below_alloc | apply pw_below_drewN | apply below_drew1) | exact HB.out)))); have n2_ := Aside0.mk (below_step (by repeat (first | (with_reducible first | exact HB.out | apply below_alloc | apply pw_below_drewN | apply below_drew1) | exact HB.out)) hb); clear HO106; clear HB; have HO106 := n0_; have HO109 := n1_; have HB := n2_; clear n0_ n1_ n2_; clear hb ho13))
  (try simp only [Act.put, List.setIfInBounds_toArray, List.set_cons_zero, List.set_cons_succ])
  go_cut [8] (fun v8 wc => ∃ (kq : Nat) (x8_5 : List Bool), Aside0 (dragomanlaw10_ArithBools.j0 kq t101 y104 y107 x8_5 = some r) ∧ Aside0 (kq ≤ k) ∧ Aside0 (Kd.R k39 39 wc w.heap.size (fun _ => True) v105 y104) ∧ Aside0 (Kd.R Kd.string 9 wc w.heap.size (fun _ => True) v108 y107) ∧ Aside0 (Kd.R Kd.bool 4 wc w.heap.size (fun _ => True) v8 x8_5) ∧ Aside0 (Below w.heap.size w wc))
  case first =>
    have H := HC6.out
    clear HC6
    by_cases c14 : a0 = 0
    · rw [if_pos c14] at H
      have c14b0 : (a0 == 0) = true := beq_iff_eq.mpr c14
      have c14b1 : (a0 != 0) = false := bne_eq_false_iff_eq.mpr c14
      clear c14
      (first | rw [c14b0] | (simp only [i64_w, i32_w]; rw [c14b0]) | skip)
      obtain ⟨y110, hy110⟩ : ∃ y_ : List Bool, y_ = (([decide (a0 < a1), decide (a0 ≤ a1), (a0 == a1), (a0 != a1), decide (a0 > a1), decide (a0 ≥ a1), false, (a1 != 0), (a0 == 0)] : List Bool)) := ⟨_, rfl⟩
      replace H : (dragomanlaw10_ArithBools.j0 k t101 y104 y107 y110) = some r := by first | (rw [hy110]; with_reducible exact H) | (have H2_ := (Option.bind_some _ _).symm.trans H; rw [hy110]; with_reducible exact H2_) | (have H2_ := (Option.bind_some _ _).symm.trans H; with_reducible exact H2_) | with_reducible exact H | (rw [hy110]; exact H) | exact H
      have Ny110 := Aside0.mk hy110
      clear hy110
      have H' := Aside0.mk H
      clear H
      go_wp2_with (first | ((with_reducible refine gate_dst (N := 53) rfl ?_); refine Kd.R_lit Kd.bool _ 4 ?hg (N := 53) ?hd (xs := ([decide (a0 < a1), decide (a0 ≤ a1), (a0 == a1), (a0 != a1), decide (a0 > a1), decide (a0 ≥ a1), false, (a1 != 0), (a0 == 0)] : List Bool)) (inner := [.bool (decide (a0 < a1)), .bool (decide (a0 ≤ a1)), .bool (a0 == a1), .bool (a0 != a1), .bool (decide (a0 > a1)), .bool (decide (a0 ≥ a1)), .bool false, .bool (a1 != 0), .bool (a0 == 0)]) (ok := fun _ => True) (okp := fun _ => True) ?hr ?hp (fun _ hk => hk) trivial (Below.refl _ _) (Nat.le_refl _) (by simp) ?_; (case hd => rfl); (case hg => rfl); (case hr => first | (go_simp; done) | (go_simp; rfl)); (case hp => exact (Reps.one (show Kd.M Kd.bool _ _ _ (decide (a0 < a1)) [.bool (decide (a0 < a1))] from rfl) (Reps.one (show Kd.M Kd.bool _ _ _ (decide (a0 ≤ a1)) [.bool (decide (a0 ≤ a1))] from rfl) (Reps.one (show Kd.M Kd.bool _ _ _ (a0 == a1) [.bool (a0 == a1)] from rfl) (Reps.one (show Kd.M Kd.bool _ _ _ (a0 != a1) [.bool (a0 != a1)] from rfl) (Reps.one (show Kd.M Kd.bool _ _ _ (decide (a0 > a1)) [.bool (decide (a0 > a1))] from rfl) (Reps.one (show Kd.M Kd.bool _ _ _ (decide (a0 ≥ a1)) [.bool (decide (a0 ≥ a1))] from rfl) (Reps.one (show Kd.M Kd.bool _ _ _ false [.bool false] from rfl) (Reps.one (show Kd.M Kd.bool _ _ _ (a1 != 0) [.bool (a1 != 0)] from rfl) (Reps.one (show Kd.M Kd.bool _ _ _ (a0 == 0) [.bool (a0 == 0)] from rfl) (Reps.none _ _))))))))))); intro v111 w15 ho16 hb hg_ hnew_; clear hg_ hnew_; (first | rw [← Ny110.out] at ho16 | (simp only [Int.reduceToNat] at ho16; rw [← Ny110.out] at ho16)); have n0_ := Aside0.mk (Kd.R_below (by (with_reducible repeat (first | apply Kd.R_alloc | apply Kd.R_drewN | apply Kd.R_drew)); exact HO106.out) hb); have n1_ := Aside0.mk (Kd.R_below (by (with_reducible repeat (first | apply Kd.R_alloc | apply Kd.R_drewN | apply Kd.R_drew)); exact HO109.out) hb); have n2_ := Aside0.mk (Kd.R_lower ho16 (below_size (by repeat (first | (with_reducible first | exact HB.out | apply below_alloc | apply pw_below_drewN | apply below_drew1) | exact HB.out)))); have n3_ := Aside0.mk (below_step (by repeat (first | (with_reducible first | exact HB.out | apply below_alloc | apply pw_below_drewN | apply below_drew1) | exact HB.out)) hb); clear HO106; clear HO109; clear HB; have HO106 := n0_; have HO109 := n1_; have HO112 := n2_; have HB := n3_; clear n0_ n1_ n2_ n3_; clear hb ho16))
      go_meet
      case rel => exact ⟨_, (y110), H', ⟨by first | omega | exact Nat.le_refl _⟩, ⟨by (with_reducible repeat (first | apply Kd.R_alloc | apply Kd.R_drewN | apply Kd.R_drew)); exact HO106.out⟩, ⟨by (with_reducible repeat (first | apply Kd.R_alloc | apply Kd.R_drewN | apply Kd.R_drew)); exact HO109.out⟩, ⟨by (with_reducible repeat (first | apply Kd.R_alloc | apply Kd.R_drewN | apply Kd.R_drew)); exact HO112.out⟩, ⟨by repeat (first | (with_reducible first | exact HB.out | apply below_alloc | apply pw_below_drewN | apply below_drew1) | exact HB.out)⟩⟩
    · rw [if_neg c14] at H
      have c14b0 : (a0 == 0) = false := beq_eq_false_iff_ne.mpr c14
      have c14b1 : (a0 != 0) = true := bne_iff_ne.mpr c14
      (first | rw [c14b0] | (simp only [i64_w, i32_w]; rw [c14b0]) | skip)
      obtain ⟨y113, hy113⟩ : ∃ y_ : List Bool, y_ = (([decide (a0 < a1), decide (a0 ≤ a1), (a0 == a1), (a0 != a1), decide (a0 > a1), decide (a0 ≥ a1), (a1 != 0), true, (a0 == 0)] : List Bool)) := ⟨_, rfl⟩
      replace H : (dragomanlaw10_ArithBools.j0 k t101 y104 y107 y113) = some r := by first | (rw [hy113]; with_reducible exact H) | (have H2_ := (Option.bind_some _ _).symm.trans H; rw [hy113]; with_reducible exact H2_) | (have H2_ := (Option.bind_some _ _).symm.trans H; with_reducible exact H2_) | with_reducible exact H | (rw [hy113]; exact H) | exact H
      have Ny113 := Aside0.mk hy113
      clear hy113
      have H' := Aside0.mk H
      clear H
      go_wp2_with (first | ((with_reducible refine gate_dst (N := 53) rfl ?_); refine Kd.R_lit Kd.bool _ 4 ?hg (N := 53) ?hd (xs := ([decide (a0 < a1), decide (a0 ≤ a1), (a0 == a1), (a0 != a1), decide (a0 > a1), decide (a0 ≥ a1), (a1 != 0), true, (a0 == 0)] : List Bool)) (inner := [.bool (decide (a0 < a1)), .bool (decide (a0 ≤ a1)), .bool (a0 == a1), .bool (a0 != a1), .bool (decide (a0 > a1)), .bool (decide (a0 ≥ a1)), .bool (a1 != 0), .bool true, .bool (a0 == 0)]) (ok := fun _ => True) (okp := fun _ => True) ?hr ?hp (fun _ hk => hk) trivial (Below.refl _ _) (Nat.le_refl _) (by simp) ?_; (case hd => rfl); (case hg => rfl); (case hr => first | (go_simp; done) | (go_simp; rfl)); (case hp => exact (Reps.one (show Kd.M Kd.bool _ _ _ (decide (a0 < a1)) [.bool (decide (a0 < a1))] from rfl) (Reps.one (show Kd.M Kd.bool _ _ _ (decide (a0 ≤ a1)) [.bool (decide (a0 ≤ a1))] from rfl) (Reps.one (show Kd.M Kd.bool _ _ _ (a0 == a1) [.bool (a0 == a1)] from rfl) (Reps.one (show Kd.M Kd.bool _ _ _ (a0 != a1) [.bool (a0 != a1)] from rfl) (Reps.one (show Kd.M Kd.bool _ _ _ (decide (a0 > a1)) [.bool (decide (a0 > a1))] from rfl) (Reps.one (show Kd.M Kd.bool _ _ _ (decide (a0 ≥ a1)) [.bool (decide (a0 ≥ a1))] from rfl) (Reps.one (show Kd.M Kd.bool _ _ _ (a1 != 0) [.bool (a1 != 0)] from rfl) (Reps.one (show Kd.M Kd.bool _ _ _ true [.bool true] from rfl) (Reps.one (show Kd.M Kd.bool _ _ _ (a0 == 0) [.bool (a0 == 0)] from rfl) (Reps.none _ _))))))))))); intro v114 w17 ho18 hb hg_ hnew_; clear hg_ hnew_; (first | rw [← Ny113.out] at ho18 | (simp only [Int.reduceToNat] at ho18; rw [← Ny113.out] at ho18)); have n0_ := Aside0.mk (Kd.R_below (by (with_reducible repeat (first | apply Kd.R_alloc | apply Kd.R_drewN | apply Kd.R_drew)); exact HO106.out) hb); have n1_ := Aside0.mk (Kd.R_below (by (with_reducible repeat (first | apply Kd.R_alloc | apply Kd.R_drewN | apply Kd.R_drew)); exact HO109.out) hb); have n2_ := Aside0.mk (Kd.R_lower ho18 (below_size (by repeat (first | (with_reducible first | exact HB.out | apply below_alloc | apply pw_below_drewN | apply below_drew1) | exact HB.out)))); have n3_ := Aside0.mk (below_step (by repeat (first | (with_reducible first | exact HB.out | apply below_alloc | apply pw_below_drewN | apply below_drew1) | exact HB.out)) hb); clear HO106; clear HO109; clear HB; have HO106 := n0_; have HO109 := n1_; have HO115 := n2_; have HB := n3_; clear n0_ n1_ n2_ n3_; clear hb ho18))
      go_meet
      case rel => exact ⟨_, (y113), H', ⟨by first | omega | exact Nat.le_refl _⟩, ⟨by (with_reducible repeat (first | apply Kd.R_alloc | apply Kd.R_drewN | apply Kd.R_drew)); exact HO106.out⟩, ⟨by (with_reducible repeat (first | apply Kd.R_alloc | apply Kd.R_drewN | apply Kd.R_drew)); exact HO109.out⟩, ⟨by (with_reducible repeat (first | apply Kd.R_alloc | apply Kd.R_drewN | apply Kd.R_drew)); exact HO115.out⟩, ⟨by repeat (first | (with_reducible first | exact HB.out | apply below_alloc | apply pw_below_drewN | apply below_drew1) | exact HB.out)⟩⟩
  case rest =>
    clear HC6
    try clear c1
    try clear c2
    try clear p2
    try clear c9
    try clear c11
    try clear c14
    try clear c14b0
    try clear c14b1
    try clear c16
    obtain ⟨kq, x8_5, HA, HJ5, HO_6, HO_7, HO_8, HB⟩ := hcut
    cases kq with
    | zero => exact absurd HA.out (by simp [dragomanlaw10_ArithBools.j0])
    | succ kj5 =>
      have H := HA.out
      clear HA
      simp only [dragomanlaw10_ArithBools.j0] at H
      have H' := Aside0.mk H
      clear H
      go_wp2
      go_loopg [9] kj5 (fun kq v9 w' => ∃ (x9_2 : Int), v9 = .int .i64 x9_2 ∧ Aside0 (dragomanlaw10_ArithBools.l0 kq t101 y104 y107 x8_5 x9_2 = some r) ∧ Aside0 (kq ≤ kj5) ∧ Aside0 (Kd.R k39 39 w' w.heap.size (fun _ => True) v105 y104) ∧ Aside0 (Kd.R Kd.string 9 w' w.heap.size (fun _ => True) v108 y107) ∧ Aside0 (Kd.R Kd.bool 4 w' w.heap.size (fun _ => True) u8 x8_5) ∧ Aside0 (Below w.heap.size w w'))
      case atStart => exact ⟨(0), (by first | rfl | (simp; done) | (simp [*]; done)), H', ⟨Nat.le_refl _⟩, ⟨by (with_reducible repeat (first | apply Kd.R_alloc | apply Kd.R_drewN | apply Kd.R_drew)); exact HO_6.out⟩, ⟨by (with_reducible repeat (first | apply Kd.R_alloc | apply Kd.R_drewN | apply Kd.R_drew)); exact HO_7.out⟩, ⟨by (with_reducible repeat (first | apply Kd.R_alloc | apply Kd.R_drewN | apply Kd.R_drew)); exact HO_8.out⟩, ⟨by repeat (first | (with_reducible first | exact HB.out | apply below_alloc | apply pw_below_drewN | apply below_drew1) | exact HB.out)⟩⟩
      case round =>
        clear H'
        try clear c1
        try clear c2
        try clear p2
        try clear c9
        try clear c11
        try clear c14
        try clear c14b0
        try clear c14b1
        try clear c16
        try clear p2
        obtain ⟨x9_2, rfl, HA, HK2, HO_6, HO_7, HO_8, HB⟩ := hrel
        cases gk with
        | zero => exact absurd HA.out (by simp [dragomanlaw10_ArithBools.l0])
        | succ k2 =>
          have H := HA.out
          clear HA
          simp only [dragomanlaw10_ArithBools.l0] at H
          by_cases c19 : x9_2 < (y107.length : Int)
          · rw [if_pos c19] at H
            have c19b0 : decide (x9_2 < (y107.length : Int)) = true := decide_eq_true c19
            clear c19
            by_cases c20 : 0 ≤ x9_2
            · rw [if_pos c20] at H
              have c20b0 : decide (0 ≤ x9_2) = true := decide_eq_true c20
              clear c20
              replace H := Option.bind_eq_some_iff.mp H
              obtain ⟨⟨t117, t118⟩, A210, H⟩ := H
              replace H : (if t118 = 0 then (if t117 = 0 then (if x9_2 < (x8_5.length : Int) then (if ((t117 == 1) != (rdOf false x8_5 x9_2)) = true then (some false) else (dragomanlaw10_ArithBools.l0 k2 t101 y104 y107 x8_5 (wrap64 (x9_2 + 1)))) else (none)) else (if t117 = 1 then (if x9_2 < (x8_5.length : Int) then (if ((t117 == 1) != (rdOf false x8_5 x9_2)) = true then (some false) else (dragomanlaw10_ArithBools.l0 k2 t101 y104 y107 x8_5 (wrap64 (x9_2 + 1)))) else (none)) else (some false))) else (some false)) = some r := H
              have A21 := Aside0.mk A210
              clear A210
              by_cases c22 : t118 = 0
              · rw [if_pos c22] at H
                have c22b0 : (t118 == 0) = true := beq_iff_eq.mpr c22
                have c22b1 : (t118 != 0) = false := bne_eq_false_iff_eq.mpr c22
                clear c22
                by_cases c23 : t117 = 0
                · rw [if_pos c23] at H
                  have c23b0 : (t117 == 0) = true := beq_iff_eq.mpr c23
                  have c23b1 : (t117 != 0) = false := bne_eq_false_iff_eq.mpr c23
                  clear c23
                  by_cases c24 : x9_2 < (x8_5.length : Int)
                  · rw [if_pos c24] at H
                    have c24b0 : decide (x9_2 < (x8_5.length : Int)) = true := decide_eq_true c24
                    clear c24
                    by_cases c25 : ((t117 == 1) != (rdOf false x8_5 x9_2)) = true
                    · rw [if_pos c25] at H
                      have c25b0 : ((t117 == 1) != (rdOf false x8_5 x9_2)) = true := c25
                      (try (have c25b1 : decide ((t117 == 1) = (rdOf false x8_5 x9_2)) = false := by simpa using c25))
                      (try (have c25b2 : ((t117 == 1) == (rdOf false x8_5 x9_2)) = false := by simpa using c25))
                      (try (have c25b3 : ¬ ((t117 == 1) = (rdOf false x8_5 x9_2)) := by simpa using c25))
                      (try (have c25b9 : (!rdOf false x8_5 x9_2) = true := by rw [show (t117 == 1) = true from by assumption] at c25; simpa using c25))
                      (try (have c25b8 : rdOf false x8_5 x9_2 = false := by rw [show (t117 == 1) = true from by assumption] at c25; simpa using c25))
                      clear c25
                      obtain rfl := Option.some.inj H
                      obtain ⟨Ao26, co26, eo26⟩ := Kd.R_slice HO_7.out
                      subst eo26
                      have p116 : 0 ≤ (x9_2 : Int) := of_decide_eq_true (by first | (with_reducible assumption) | assumption)
                      have q116 : x9_2 < (y107.length : Int) := of_decide_eq_true (by first | (with_reducible assumption) | assumption)
                      obtain ⟨ad116, e116, hx116_0⟩ := Kd.at_string (Kd.R_reads' HO_7.out).2.2 x9_2 p116 q116
                      cases e116
                      replace p116 := eq_true p116
                      replace q116 := eq_true q116
                      obtain ⟨Ao27, co27, eo27⟩ := Kd.R_slice HO_6.out
                      subst eo27
                      go_wp2_with (first | ((with_reducible refine gate_callee (f := 13) rfl ?_); refine goesL_ (some 66) rfl rfl Tryd.func13 (by kernel_rfl) rfl #[.string (rdOf ByteArray.empty y107 x9_2), .slice Ao27 y104.length co27] rfl (by (try simp only [List.map_toArray, List.map_cons, List.map_nil]); first | done | rfl | (simp only [List.length_drop, List.length_take]; rfl)) ?_; (with_reducible refine (arith_Eval.calls k2 (rdOf ByteArray.empty y107 x9_2) _ _ y104 t117 t118 _ ?side1 ?side2 ?side3 A21.out).mono ?_); (case side1 => refine GE.below hG ?_; repeat (first | (with_reducible first | exact HB.out | apply below_alloc | apply pw_below_drewN | apply below_drew1) | exact HB.out)); (case side2 => repeat (first | exact (Kd.R_reads' HO_6.out).2.2 | (with_reducible refine Kd.C_alloc ?_ _) | (with_reducible refine Kd.C_drewN ?_ _) | (with_reducible refine Kd.C_drew ?_))); (case side3 => exact (Kd.R_reads' HO_6.out).2.1); rintro e w28 ⟨rfl, hb⟩; refine ⟨_, rfl, ?_⟩; have n0_ := Aside0.mk (Kd.R_below (by (with_reducible repeat (first | apply Kd.R_alloc | apply Kd.R_drewN | apply Kd.R_drew)); exact HO_6.out) hb); have n1_ := Aside0.mk (Kd.R_below (by (with_reducible repeat (first | apply Kd.R_alloc | apply Kd.R_drewN | apply Kd.R_drew)); exact HO_7.out) hb); have n2_ := Aside0.mk (Kd.R_below (by (with_reducible repeat (first | apply Kd.R_alloc | apply Kd.R_drewN | apply Kd.R_drew)); exact HO_8.out) hb); have n3_ := Aside0.mk (below_step (by repeat (first | (with_reducible first | exact HB.out | apply below_alloc | apply pw_below_drewN | apply below_drew1) | exact HB.out)) hb); clear HO_6; clear HO_7; clear HO_8; clear HB; have HO_6 := n0_; have HO_7 := n1_; have HO_8 := n2_; have HB := n3_; clear n0_ n1_ n2_ n3_; (try clear hb); (try clear hb2); (try clear hk); (try clear hi); obtain ⟨Ao29, co29, eo29⟩ := Kd.R_slice HO_8.out; subst eo29; have p119 : 0 ≤ (x9_2 : Int) := of_decide_eq_true (by first | (with_reducible assumption) | assumption); have q119 : x9_2 < (x8_5.length : Int) := of_decide_eq_true (by first | (with_reducible assumption) | assumption); obtain ⟨ad119, e119, hx119_0⟩ := Kd.at_bool (Kd.R_reads' HO_8.out).2.2 x9_2 p119 q119; cases e119; replace p119 := eq_true p119; replace q119 := eq_true q119))
                      go_ret
                      exact ⟨by first | rfl | (simp [errW_none, errW_some] <;> rfl) | (simp [*, errW_none, errW_some] <;> rfl), by repeat (first | (with_reducible first | exact HB.out | apply below_alloc | apply pw_below_drewN | apply below_drew1) | exact HB.out)⟩
                    · rw [if_neg c25] at H
                      (try (have c25b9 : (!rdOf false x8_5 x9_2) = false := by rw [show (t117 == 1) = true from by assumption] at c25; simpa using c25))
                      (try (have c25b8 : rdOf false x8_5 x9_2 = true := by rw [show (t117 == 1) = true from by assumption] at c25; simpa using c25))
                      have c25b0 : ((t117 == 1) != (rdOf false x8_5 x9_2)) = false := by simpa using c25
                      (try (have c25b1 : decide ((t117 == 1) = (rdOf false x8_5 x9_2)) = true := by simpa using c25))
                      (try (have c25b2 : ((t117 == 1) == (rdOf false x8_5 x9_2)) = true := by simpa using c25))
                      clear c25
                      have H' := Aside0.mk H
                      clear H
                      obtain ⟨Ao30, co30, eo30⟩ := Kd.R_slice HO_7.out
                      subst eo30
                      have p116 : 0 ≤ (x9_2 : Int) := of_decide_eq_true (by first | (with_reducible assumption) | assumption)
                      have q116 : x9_2 < (y107.length : Int) := of_decide_eq_true (by first | (with_reducible assumption) | assumption)
                      obtain ⟨ad116, e116, hx116_0⟩ := Kd.at_string (Kd.R_reads' HO_7.out).2.2 x9_2 p116 q116
                      cases e116
                      replace p116 := eq_true p116
                      replace q116 := eq_true q116
                      obtain ⟨Ao31, co31, eo31⟩ := Kd.R_slice HO_6.out
                      subst eo31
                      go_wp2_with (first | ((with_reducible refine gate_callee (f := 13) rfl ?_); refine goesL_ (some 66) rfl rfl Tryd.func13 (by kernel_rfl) rfl #[.string (rdOf ByteArray.empty y107 x9_2), .slice Ao31 y104.length co31] rfl (by (try simp only [List.map_toArray, List.map_cons, List.map_nil]); first | done | rfl | (simp only [List.length_drop, List.length_take]; rfl)) ?_; (with_reducible refine (arith_Eval.calls k2 (rdOf ByteArray.empty y107 x9_2) _ _ y104 t117 t118 _ ?side1 ?side2 ?side3 A21.out).mono ?_); (case side1 => refine GE.below hG ?_; repeat (first | (with_reducible first | exact HB.out | apply below_alloc | apply pw_below_drewN | apply below_drew1) | exact HB.out)); (case side2 => repeat (first | exact (Kd.R_reads' HO_6.out).2.2 | (with_reducible refine Kd.C_alloc ?_ _) | (with_reducible refine Kd.C_drewN ?_ _) | (with_reducible refine Kd.C_drew ?_))); (case side3 => exact (Kd.R_reads' HO_6.out).2.1); rintro e w32 ⟨rfl, hb⟩; refine ⟨_, rfl, ?_⟩; have n0_ := Aside0.mk (Kd.R_below (by (with_reducible repeat (first | apply Kd.R_alloc | apply Kd.R_drewN | apply Kd.R_drew)); exact HO_6.out) hb); have n1_ := Aside0.mk (Kd.R_below (by (with_reducible repeat (first | apply Kd.R_alloc | apply Kd.R_drewN | apply Kd.R_drew)); exact HO_7.out) hb); have n2_ := Aside0.mk (Kd.R_below (by (with_reducible repeat (first | apply Kd.R_alloc | apply Kd.R_drewN | apply Kd.R_drew)); exact HO_8.out) hb); have n3_ := Aside0.mk (below_step (by repeat (first | (with_reducible first | exact HB.out | apply below_alloc | apply pw_below_drewN | apply below_drew1) | exact HB.out)) hb); clear HO_6; clear HO_7; clear HO_8; clear HB; have HO_6 := n0_; have HO_7 := n1_; have HO_8 := n2_; have HB := n3_; clear n0_ n1_ n2_ n3_; (try clear hb); (try clear hb2); (try clear hk); (try clear hi); obtain ⟨Ao33, co33, eo33⟩ := Kd.R_slice HO_8.out; subst eo33; have p119 : 0 ≤ (x9_2 : Int) := of_decide_eq_true (by first | (with_reducible assumption) | assumption); have q119 : x9_2 < (x8_5.length : Int) := of_decide_eq_true (by first | (with_reducible assumption) | assumption); obtain ⟨ad119, e119, hx119_0⟩ := Kd.at_bool (Kd.R_reads' HO_8.out).2.2 x9_2 p119 q119; cases e119; replace p119 := eq_true p119; replace q119 := eq_true q119))
                      go_roundg k2
                      case measure => have := HJ5.out; have := HK2.out; omega
                      case rel => exact ⟨(wrap64 (x9_2 + 1)), (by first | rfl | (simp; done) | (simp [*]; done)), H', ⟨by have := HJ5.out; have := HK2.out; omega⟩, ⟨by (with_reducible repeat (first | apply Kd.R_alloc | apply Kd.R_drewN | apply Kd.R_drew)); exact HO_6.out⟩, ⟨by (with_reducible repeat (first | apply Kd.R_alloc | apply Kd.R_drewN | apply Kd.R_drew)); exact HO_7.out⟩, ⟨by (with_reducible repeat (first | apply Kd.R_alloc | apply Kd.R_drewN | apply Kd.R_drew)); exact HO_8.out⟩, ⟨by repeat (first | (with_reducible first | exact HB.out | apply below_alloc | apply pw_below_drewN | apply below_drew1) | exact HB.out)⟩⟩
                  · rw [if_neg c24] at H
                    exact absurd H (by simp)
                · rw [if_neg c23] at H
                  have c23b0 : (t117 == 0) = false := beq_eq_false_iff_ne.mpr c23
                  have c23b1 : (t117 != 0) = true := bne_iff_ne.mpr c23
                  by_cases c34 : t117 = 1
                  · rw [if_pos c34] at H
                    have c34b0 : (t117 == 1) = true := beq_iff_eq.mpr c34
                    have c34b1 : (t117 != 1) = false := bne_eq_false_iff_eq.mpr c34
                    clear c34
                    by_cases c35 : x9_2 < (x8_5.length : Int)
                    · rw [if_pos c35] at H
                      have c35b0 : decide (x9_2 < (x8_5.length : Int)) = true := decide_eq_true c35
                      clear c35
                      by_cases c36 : ((t117 == 1) != (rdOf false x8_5 x9_2)) = true
                      · rw [if_pos c36] at H
                        have c36b0 : ((t117 == 1) != (rdOf false x8_5 x9_2)) = true := c36
                        (try (have c36b1 : decide ((t117 == 1) = (rdOf false x8_5 x9_2)) = false := by simpa using c36))
                        (try (have c36b2 : ((t117 == 1) == (rdOf false x8_5 x9_2)) = false := by simpa using c36))
                        (try (have c36b3 : ¬ ((t117 == 1) = (rdOf false x8_5 x9_2)) := by simpa using c36))
                        (try (have c36b9 : (!rdOf false x8_5 x9_2) = true := by rw [show (t117 == 1) = true from by assumption] at c36; simpa using c36))
                        (try (have c36b8 : rdOf false x8_5 x9_2 = false := by rw [show (t117 == 1) = true from by assumption] at c36; simpa using c36))
                        clear c36
                        obtain rfl := Option.some.inj H
                        obtain ⟨Ao37, co37, eo37⟩ := Kd.R_slice HO_7.out
                        subst eo37
                        have p116 : 0 ≤ (x9_2 : Int) := of_decide_eq_true (by first | (with_reducible assumption) | assumption)
                        have q116 : x9_2 < (y107.length : Int) := of_decide_eq_true (by first | (with_reducible assumption) | assumption)
                        obtain ⟨ad116, e116, hx116_0⟩ := Kd.at_string (Kd.R_reads' HO_7.out).2.2 x9_2 p116 q116
                        cases e116
                        replace p116 := eq_true p116
                        replace q116 := eq_true q116
                        obtain ⟨Ao38, co38, eo38⟩ := Kd.R_slice HO_6.out
                        subst eo38
                        go_wp2_with (first | ((with_reducible refine gate_callee (f := 13) rfl ?_); refine goesL_ (some 66) rfl rfl Tryd.func13 (by kernel_rfl) rfl #[.string (rdOf ByteArray.empty y107 x9_2), .slice Ao38 y104.length co38] rfl (by (try simp only [List.map_toArray, List.map_cons, List.map_nil]); first | done | rfl | (simp only [List.length_drop, List.length_take]; rfl)) ?_; (with_reducible refine (arith_Eval.calls k2 (rdOf ByteArray.empty y107 x9_2) _ _ y104 t117 t118 _ ?side1 ?side2 ?side3 A21.out).mono ?_); (case side1 => refine GE.below hG ?_; repeat (first | (with_reducible first | exact HB.out | apply below_alloc | apply pw_below_drewN | apply below_drew1) | exact HB.out)); (case side2 => repeat (first | exact (Kd.R_reads' HO_6.out).2.2 | (with_reducible refine Kd.C_alloc ?_ _) | (with_reducible refine Kd.C_drewN ?_ _) | (with_reducible refine Kd.C_drew ?_))); (case side3 => exact (Kd.R_reads' HO_6.out).2.1); rintro e w39 ⟨rfl, hb⟩; refine ⟨_, rfl, ?_⟩; have n0_ := Aside0.mk (Kd.R_below (by (with_reducible repeat (first | apply Kd.R_alloc | apply Kd.R_drewN | apply Kd.R_drew)); exact HO_6.out) hb); have n1_ := Aside0.mk (Kd.R_below (by (with_reducible repeat (first | apply Kd.R_alloc | apply Kd.R_drewN | apply Kd.R_drew)); exact HO_7.out) hb); have n2_ := Aside0.mk (Kd.R_below (by (with_reducible repeat (first | apply Kd.R_alloc | apply Kd.R_drewN | apply Kd.R_drew)); exact HO_8.out) hb); have n3_ := Aside0.mk (below_step (by repeat (first | (with_reducible first | exact HB.out | apply below_alloc | apply pw_below_drewN | apply below_drew1) | exact HB.out)) hb); clear HO_6; clear HO_7; clear HO_8; clear HB; have HO_6 := n0_; have HO_7 := n1_; have HO_8 := n2_; have HB := n3_; clear n0_ n1_ n2_ n3_; (try clear hb); (try clear hb2); (try clear hk); (try clear hi); obtain ⟨Ao40, co40, eo40⟩ := Kd.R_slice HO_8.out; subst eo40; have p120 : 0 ≤ (x9_2 : Int) := of_decide_eq_true (by first | (with_reducible assumption) | assumption); have q120 : x9_2 < (x8_5.length : Int) := of_decide_eq_true (by first | (with_reducible assumption) | assumption); obtain ⟨ad120, e120, hx120_0⟩ := Kd.at_bool (Kd.R_reads' HO_8.out).2.2 x9_2 p120 q120; cases e120; replace p120 := eq_true p120; replace q120 := eq_true q120))
                        go_ret
                        exact ⟨by first | rfl | (simp [errW_none, errW_some] <;> rfl) | (simp [*, errW_none, errW_some] <;> rfl), by repeat (first | (with_reducible first | exact HB.out | apply below_alloc | apply pw_below_drewN | apply below_drew1) | exact HB.out)⟩
                      · rw [if_neg c36] at H
                        (try (have c36b9 : (!rdOf false x8_5 x9_2) = false := by rw [show (t117 == 1) = true from by assumption] at c36; simpa using c36))
                        (try (have c36b8 : rdOf false x8_5 x9_2 = true := by rw [show (t117 == 1) = true from by assumption] at c36; simpa using c36))
                        have c36b0 : ((t117 == 1) != (rdOf false x8_5 x9_2)) = false := by simpa using c36
                        (try (have c36b1 : decide ((t117 == 1) = (rdOf false x8_5 x9_2)) = true := by simpa using c36))
                        (try (have c36b2 : ((t117 == 1) == (rdOf false x8_5 x9_2)) = true := by simpa using c36))
                        clear c36
                        have H' := Aside0.mk H
                        clear H
                        obtain ⟨Ao41, co41, eo41⟩ := Kd.R_slice HO_7.out
                        subst eo41
                        have p116 : 0 ≤ (x9_2 : Int) := of_decide_eq_true (by first | (with_reducible assumption) | assumption)
                        have q116 : x9_2 < (y107.length : Int) := of_decide_eq_true (by first | (with_reducible assumption) | assumption)
                        obtain ⟨ad116, e116, hx116_0⟩ := Kd.at_string (Kd.R_reads' HO_7.out).2.2 x9_2 p116 q116
                        cases e116
                        replace p116 := eq_true p116
                        replace q116 := eq_true q116
                        obtain ⟨Ao42, co42, eo42⟩ := Kd.R_slice HO_6.out
                        subst eo42
                        go_wp2_with (first | ((with_reducible refine gate_callee (f := 13) rfl ?_); refine goesL_ (some 66) rfl rfl Tryd.func13 (by kernel_rfl) rfl #[.string (rdOf ByteArray.empty y107 x9_2), .slice Ao42 y104.length co42] rfl (by (try simp only [List.map_toArray, List.map_cons, List.map_nil]); first | done | rfl | (simp only [List.length_drop, List.length_take]; rfl)) ?_; (with_reducible refine (arith_Eval.calls k2 (rdOf ByteArray.empty y107 x9_2) _ _ y104 t117 t118 _ ?side1 ?side2 ?side3 A21.out).mono ?_); (case side1 => refine GE.below hG ?_; repeat (first | (with_reducible first | exact HB.out | apply below_alloc | apply pw_below_drewN | apply below_drew1) | exact HB.out)); (case side2 => repeat (first | exact (Kd.R_reads' HO_6.out).2.2 | (with_reducible refine Kd.C_alloc ?_ _) | (with_reducible refine Kd.C_drewN ?_ _) | (with_reducible refine Kd.C_drew ?_))); (case side3 => exact (Kd.R_reads' HO_6.out).2.1); rintro e w43 ⟨rfl, hb⟩; refine ⟨_, rfl, ?_⟩; have n0_ := Aside0.mk (Kd.R_below (by (with_reducible repeat (first | apply Kd.R_alloc | apply Kd.R_drewN | apply Kd.R_drew)); exact HO_6.out) hb); have n1_ := Aside0.mk (Kd.R_below (by (with_reducible repeat (first | apply Kd.R_alloc | apply Kd.R_drewN | apply Kd.R_drew)); exact HO_7.out) hb); have n2_ := Aside0.mk (Kd.R_below (by (with_reducible repeat (first | apply Kd.R_alloc | apply Kd.R_drewN | apply Kd.R_drew)); exact HO_8.out) hb); have n3_ := Aside0.mk (below_step (by repeat (first | (with_reducible first | exact HB.out | apply below_alloc | apply pw_below_drewN | apply below_drew1) | exact HB.out)) hb); clear HO_6; clear HO_7; clear HO_8; clear HB; have HO_6 := n0_; have HO_7 := n1_; have HO_8 := n2_; have HB := n3_; clear n0_ n1_ n2_ n3_; (try clear hb); (try clear hb2); (try clear hk); (try clear hi); obtain ⟨Ao44, co44, eo44⟩ := Kd.R_slice HO_8.out; subst eo44; have p120 : 0 ≤ (x9_2 : Int) := of_decide_eq_true (by first | (with_reducible assumption) | assumption); have q120 : x9_2 < (x8_5.length : Int) := of_decide_eq_true (by first | (with_reducible assumption) | assumption); obtain ⟨ad120, e120, hx120_0⟩ := Kd.at_bool (Kd.R_reads' HO_8.out).2.2 x9_2 p120 q120; cases e120; replace p120 := eq_true p120; replace q120 := eq_true q120))
                        go_roundg k2
                        case measure => have := HJ5.out; have := HK2.out; omega
                        case rel => exact ⟨(wrap64 (x9_2 + 1)), (by first | rfl | (simp; done) | (simp [*]; done)), H', ⟨by have := HJ5.out; have := HK2.out; omega⟩, ⟨by (with_reducible repeat (first | apply Kd.R_alloc | apply Kd.R_drewN | apply Kd.R_drew)); exact HO_6.out⟩, ⟨by (with_reducible repeat (first | apply Kd.R_alloc | apply Kd.R_drewN | apply Kd.R_drew)); exact HO_7.out⟩, ⟨by (with_reducible repeat (first | apply Kd.R_alloc | apply Kd.R_drewN | apply Kd.R_drew)); exact HO_8.out⟩, ⟨by repeat (first | (with_reducible first | exact HB.out | apply below_alloc | apply pw_below_drewN | apply below_drew1) | exact HB.out)⟩⟩
                    · rw [if_neg c35] at H
                      exact absurd H (by simp)
                  · rw [if_neg c34] at H
                    have c34b0 : (t117 == 1) = false := beq_eq_false_iff_ne.mpr c34
                    have c34b1 : (t117 != 1) = true := bne_iff_ne.mpr c34
                    obtain rfl := Option.some.inj H
                    obtain ⟨Ao45, co45, eo45⟩ := Kd.R_slice HO_7.out
                    subst eo45
                    have p116 : 0 ≤ (x9_2 : Int) := of_decide_eq_true (by first | (with_reducible assumption) | assumption)
                    have q116 : x9_2 < (y107.length : Int) := of_decide_eq_true (by first | (with_reducible assumption) | assumption)
                    obtain ⟨ad116, e116, hx116_0⟩ := Kd.at_string (Kd.R_reads' HO_7.out).2.2 x9_2 p116 q116
                    cases e116
                    replace p116 := eq_true p116
                    replace q116 := eq_true q116
                    obtain ⟨Ao46, co46, eo46⟩ := Kd.R_slice HO_6.out
                    subst eo46
                    go_wp2_with (first | ((with_reducible refine gate_callee (f := 13) rfl ?_); refine goesL_ (some 66) rfl rfl Tryd.func13 (by kernel_rfl) rfl #[.string (rdOf ByteArray.empty y107 x9_2), .slice Ao46 y104.length co46] rfl (by (try simp only [List.map_toArray, List.map_cons, List.map_nil]); first | done | rfl | (simp only [List.length_drop, List.length_take]; rfl)) ?_; (with_reducible refine (arith_Eval.calls k2 (rdOf ByteArray.empty y107 x9_2) _ _ y104 t117 t118 _ ?side1 ?side2 ?side3 A21.out).mono ?_); (case side1 => refine GE.below hG ?_; repeat (first | (with_reducible first | exact HB.out | apply below_alloc | apply pw_below_drewN | apply below_drew1) | exact HB.out)); (case side2 => repeat (first | exact (Kd.R_reads' HO_6.out).2.2 | (with_reducible refine Kd.C_alloc ?_ _) | (with_reducible refine Kd.C_drewN ?_ _) | (with_reducible refine Kd.C_drew ?_))); (case side3 => exact (Kd.R_reads' HO_6.out).2.1); rintro e w47 ⟨rfl, hb⟩; refine ⟨_, rfl, ?_⟩; have n0_ := Aside0.mk (Kd.R_below (by (with_reducible repeat (first | apply Kd.R_alloc | apply Kd.R_drewN | apply Kd.R_drew)); exact HO_6.out) hb); have n1_ := Aside0.mk (Kd.R_below (by (with_reducible repeat (first | apply Kd.R_alloc | apply Kd.R_drewN | apply Kd.R_drew)); exact HO_7.out) hb); have n2_ := Aside0.mk (Kd.R_below (by (with_reducible repeat (first | apply Kd.R_alloc | apply Kd.R_drewN | apply Kd.R_drew)); exact HO_8.out) hb); have n3_ := Aside0.mk (below_step (by repeat (first | (with_reducible first | exact HB.out | apply below_alloc | apply pw_below_drewN | apply below_drew1) | exact HB.out)) hb); clear HO_6; clear HO_7; clear HO_8; clear HB; have HO_6 := n0_; have HO_7 := n1_; have HO_8 := n2_; have HB := n3_; clear n0_ n1_ n2_ n3_; (try clear hb); (try clear hb2); (try clear hk); (try clear hi)))
                    go_ret
                    exact ⟨by first | rfl | (simp [errW_none, errW_some] <;> rfl) | (simp [*, errW_none, errW_some] <;> rfl), by repeat (first | (with_reducible first | exact HB.out | apply below_alloc | apply pw_below_drewN | apply below_drew1) | exact HB.out)⟩
              · rw [if_neg c22] at H
                have c22b0 : (t118 == 0) = false := beq_eq_false_iff_ne.mpr c22
                have c22b1 : (t118 != 0) = true := bne_iff_ne.mpr c22
                obtain rfl := Option.some.inj H
                obtain ⟨Ao48, co48, eo48⟩ := Kd.R_slice HO_7.out
                subst eo48
                have p116 : 0 ≤ (x9_2 : Int) := of_decide_eq_true (by first | (with_reducible assumption) | assumption)
                have q116 : x9_2 < (y107.length : Int) := of_decide_eq_true (by first | (with_reducible assumption) | assumption)
                obtain ⟨ad116, e116, hx116_0⟩ := Kd.at_string (Kd.R_reads' HO_7.out).2.2 x9_2 p116 q116
                cases e116
                replace p116 := eq_true p116
                replace q116 := eq_true q116
                obtain ⟨Ao49, co49, eo49⟩ := Kd.R_slice HO_6.out
                subst eo49
                go_wp2_with (first | ((with_reducible refine gate_callee (f := 13) rfl ?_); refine goesL_ (some 66) rfl rfl Tryd.func13 (by kernel_rfl) rfl #[.string (rdOf ByteArray.empty y107 x9_2), .slice Ao49 y104.length co49] rfl (by (try simp only [List.map_toArray, List.map_cons, List.map_nil]); first | done | rfl | (simp only [List.length_drop, List.length_take]; rfl)) ?_; (with_reducible refine (arith_Eval.calls k2 (rdOf ByteArray.empty y107 x9_2) _ _ y104 t117 t118 _ ?side1 ?side2 ?side3 A21.out).mono ?_); (case side1 => refine GE.below hG ?_; repeat (first | (with_reducible first | exact HB.out | apply below_alloc | apply pw_below_drewN | apply below_drew1) | exact HB.out)); (case side2 => repeat (first | exact (Kd.R_reads' HO_6.out).2.2 | (with_reducible refine Kd.C_alloc ?_ _) | (with_reducible refine Kd.C_drewN ?_ _) | (with_reducible refine Kd.C_drew ?_))); (case side3 => exact (Kd.R_reads' HO_6.out).2.1); rintro e w50 ⟨rfl, hb⟩; refine ⟨_, rfl, ?_⟩; have n0_ := Aside0.mk (Kd.R_below (by (with_reducible repeat (first | apply Kd.R_alloc | apply Kd.R_drewN | apply Kd.R_drew)); exact HO_6.out) hb); have n1_ := Aside0.mk (Kd.R_below (by (with_reducible repeat (first | apply Kd.R_alloc | apply Kd.R_drewN | apply Kd.R_drew)); exact HO_7.out) hb); have n2_ := Aside0.mk (Kd.R_below (by (with_reducible repeat (first | apply Kd.R_alloc | apply Kd.R_drewN | apply Kd.R_drew)); exact HO_8.out) hb); have n3_ := Aside0.mk (below_step (by repeat (first | (with_reducible first | exact HB.out | apply below_alloc | apply pw_below_drewN | apply below_drew1) | exact HB.out)) hb); clear HO_6; clear HO_7; clear HO_8; clear HB; have HO_6 := n0_; have HO_7 := n1_; have HO_8 := n2_; have HB := n3_; clear n0_ n1_ n2_ n3_; (try clear hb); (try clear hb2); (try clear hk); (try clear hi)))
                go_ret
                exact ⟨by first | rfl | (simp [errW_none, errW_some] <;> rfl) | (simp [*, errW_none, errW_some] <;> rfl), by repeat (first | (with_reducible first | exact HB.out | apply below_alloc | apply pw_below_drewN | apply below_drew1) | exact HB.out)⟩
            · rw [if_neg c20] at H
              exact absurd H (by simp)
          · rw [if_neg c19] at H
            have c19b0 : decide (x9_2 < (y107.length : Int)) = false := decide_eq_false c19
            clear c19
            obtain rfl := Option.some.inj H
            obtain ⟨Ao51, co51, eo51⟩ := Kd.R_slice HO_7.out
            subst eo51
            go_wp2
            go_ret
            exact ⟨by first | rfl | (simp [errW_none, errW_some] <;> rfl) | (simp [*, errW_none, errW_some] <;> rfl), by repeat (first | (with_reducible first | exact HB.out | apply below_alloc | apply pw_below_drewN | apply below_drew1) | exact HB.out)⟩

/-- THE ONE PURE STATEMENT of dragomanlaw10_ArithBools: yours. -/
def dragomanlaw10_ArithBools.Pure : Prop := ∀ (a0 : Int) (a1 : Int), (Lit.int .i64 a0).wf = true → (Lit.int .i64 a1).wf = true → ∃ k, dragomanlaw10_ArithBools.f k a0 a1 = some true
theorem dragomanlaw10_ArithBools.walk (P : dragomanlaw10_ArithBools.Pure) (a0 : Int) (a1 : Int) (w : World) (w0 : (Lit.int .i64 a0).wf = true) (w1 : (Lit.int .i64 a1).wf = true) (hG : GE w) :
    Calls Tryd.prog 9 #[.int .i64 a0, .int .i64 a1] w fun e w' => e = .returned (.bool true) ∧ Below w.heap.size w w' := by
  obtain ⟨k, h⟩ := P a0 a1 w0 w1
  refine (dragomanlaw10_ArithBools.calls k a0 a1 true w hG h).mono ?_
  rintro e w' ⟨rfl, hd⟩
  exact ⟨rfl, hd⟩

end Go.Proofs.YtambnodgfhlpfaaDoor.QC
