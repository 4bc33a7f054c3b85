/- The Go functions of this part as Lean functions, each with a proof that a call of it comes to just what the Lean function does. Written by a program of the session's. Conditions: none but those in each theorem. -/
import Derived.Test.YtgodmbcebpbdiaaDoorQA
import Derived.Test.YtgodmbcebpbdiaaDoorQAx5
namespace Go.Proofs.YtgodmbcebpbdiaaDoor.QA
open Go.Proofs.YtgodmbcebpbdiaaDoor.G
open Go.RowKit Go.Proofs.YtgodmbcebpbdiaaDoorW.PrintWords Go.Proofs.YtgodmbcebpbdiaaDoorW.PrintLast Go.Proofs.YtgodmbcebpbdiaaDoorW.PrintMore
attribute [local go_sem] max2_int min2_int max_two min_two max_three min_three max_four min_four   -- for this text's walks alone
set_option linter.unusedVariables false
set_option linter.unusedSimpArgs false

/-! ### dragomanlaw02_DecWholes: function 8 -/
mutual
def dragomanlaw02_DecWholes.j0 : Nat → Int → Bool → Int → Int → Bool → Option (Bool)
  | 0, _, _, _, _, _ => none
  | k + 1, x0, x5, x6, x7, x58 => if x58 = true then (some false) else (if x7 = 0 then ((dec_Text.f k x6).bind fun t169 => (dragomanlaw02_DecWholes.l0 k x0 x5 x6 t169 0)) else (if x5 = true then (if x7 = 3 then (if x0 > 9223372036854 then (some true) else (some (decide (x0 < (-9223372036854))))) else (some false)) else (some false)))
def dragomanlaw02_DecWholes.l0 : Nat → Int → Bool → Int → ByteArray → Int → Option (Bool)
  | 0, _, _, _, _, _ => none
  | k + 1, x0, x5, x6, x13, x14 => if x14 < (x13.size : Int) then (if 0 ≤ x14 then (if (bt x13 x14) = 46 then (some false) else (dragomanlaw02_DecWholes.l0 k x0 x5 x6 x13 (wrap64 (x14 + 1)))) else (none)) else (if x5 = true then ((dec_Trunc.f x6).bind fun t170 => (some (t170 == x0))) else (some false))
end
def dragomanlaw02_DecWholes.f (k : Nat) (a0 : Int) (a1 : Int) : Option (Bool) := (dragomanlaw02_shown.f k).bind fun t161 => ((dec_Whole.f a0).bind fun bt162 => ((dec_Trunc.f a1).bind fun t164 => ((dec_Whole.f t164).bind fun bt165 => ((dec_Sub.f a1 bt165.1).bind fun bt167 => (if bt165.2 = 0 then (if bt167.2 = 0 then (if bt167.1 ≤ (-1000000) then (dragomanlaw02_DecWholes.j0 k a0 t161 bt162.1 bt162.2 true) else (if bt167.1 ≥ 1000000 then (dragomanlaw02_DecWholes.j0 k a0 t161 bt162.1 bt162.2 true) else (if bt167.1 = 0 then (dragomanlaw02_DecWholes.j0 k a0 t161 bt162.1 bt162.2 false) else (dragomanlaw02_DecWholes.j0 k a0 t161 bt162.1 bt162.2 ((decide (bt167.1 < 0)) != (decide (a1 < 0))))))) else (dragomanlaw02_DecWholes.j0 k a0 t161 bt162.1 bt162.2 true)) else (dragomanlaw02_DecWholes.j0 k a0 t161 bt162.1 bt162.2 true))))))
theorem dragomanlaw02_DecWholes.mono_l : ∀ k, (∀ y0 y1 y2 y3 y4, LeO (dragomanlaw02_DecWholes.j0 k y0 y1 y2 y3 y4) (dragomanlaw02_DecWholes.j0 (k + 1) y0 y1 y2 y3 y4)) ∧ (∀ y0 y1 y2 y3 y4, LeO (dragomanlaw02_DecWholes.l0 k y0 y1 y2 y3 y4) (dragomanlaw02_DecWholes.l0 (k + 1) y0 y1 y2 y3 y4))
  | 0 => ⟨fun _ _ _ _ _ r h => by simp [dragomanlaw02_DecWholes.j0] at h, fun _ _ _ _ _ r h => by simp [dragomanlaw02_DecWholes.l0] at h⟩
  | k + 1 => by
    obtain ⟨ih0, ih1⟩ := dragomanlaw02_DecWholes.mono_l k
    refine ⟨?_, ?_⟩
    · intro y0 y1 y2 y3 y4
      unfold dragomanlaw02_DecWholes.j0
      repeat' first
      | (with_reducible exact ih0 _ _ _ _ _)
      | (with_reducible exact ih1 _ _ _ _ _)
      | (with_reducible exact dec_Text.mono _ _)
      | (with_reducible exact dragomanlaw02_shown.mono _)
      | (with_reducible exact LeO.refl _)
      | (with_reducible exact LeO.none _)
      | (with_reducible refine LeO.ite ?_ ?_)
      | (with_reducible refine LeO.bind ?_ (fun _ => ?_))
      | exact ih0 _ _ _ _ _
      | exact ih1 _ _ _ _ _
      | exact dec_Text.mono _ _
      | exact dragomanlaw02_shown.mono _
      | exact LeO.none _
      | refine LeO.ite ?_ ?_
      | refine LeO.bind ?_ (fun _ => ?_)
    · intro y0 y1 y2 y3 y4
      unfold dragomanlaw02_DecWholes.l0
      repeat' first
      | (with_reducible exact ih0 _ _ _ _ _)
      | (with_reducible exact ih1 _ _ _ _ _)
      | (with_reducible exact dec_Text.mono _ _)
      | (with_reducible exact dragomanlaw02_shown.mono _)
      | (with_reducible exact LeO.refl _)
      | (with_reducible exact LeO.none _)
      | (with_reducible refine LeO.ite ?_ ?_)
      | (with_reducible refine LeO.bind ?_ (fun _ => ?_))
      | exact ih0 _ _ _ _ _
      | exact ih1 _ _ _ _ _
      | exact dec_Text.mono _ _
      | exact dragomanlaw02_shown.mono _
      | exact LeO.none _
      | refine LeO.ite ?_ ?_
      | refine LeO.bind ?_ (fun _ => ?_)
theorem dragomanlaw02_DecWholes.mono : ∀ a0 a1 k, LeO (dragomanlaw02_DecWholes.f k a0 a1) (dragomanlaw02_DecWholes.f (k + 1) a0 a1) := by
  intro a0 a1 k
  obtain ⟨ih0, ih1⟩ := dragomanlaw02_DecWholes.mono_l k
  unfold dragomanlaw02_DecWholes.f
  repeat' first
      | (with_reducible exact ih0 _ _ _ _ _)
      | (with_reducible exact ih1 _ _ _ _ _)
      | (with_reducible exact dec_Text.mono _ _)
      | (with_reducible exact dragomanlaw02_shown.mono _)
      | (with_reducible exact LeO.refl _)
      | (with_reducible exact LeO.none _)
      | (with_reducible refine LeO.ite ?_ ?_)
      | (with_reducible refine LeO.bind ?_ (fun _ => ?_))
      | exact ih0 _ _ _ _ _
      | exact ih1 _ _ _ _ _
      | exact dec_Text.mono _ _
      | exact dragomanlaw02_shown.mono _
      | exact LeO.none _
      | refine LeO.ite ?_ ?_
      | refine LeO.bind ?_ (fun _ => ?_)
set_option maxHeartbeats 8000000 in
set_option maxRecDepth 100000 in
theorem dragomanlaw02_DecWholes.calls (k : Nat) (a0 : Int) (a1 : Int) (r : Bool) (w : World) (hG : GT w) (h : dragomanlaw02_DecWholes.f k a0 a1 = some r) :
    Calls Tryd.prog 8 #[.int .i64 a0, .int .i64 a1] w fun e w' => e = .returned (.bool r) ∧ Below w.heap.size w w' := by
  have HB := Aside0.mk (Below.refl w.heap.size w)
  have H : ((dragomanlaw02_shown.f k).bind fun t161 => ((dec_Whole.f a0).bind fun bt162 => ((dec_Trunc.f a1).bind fun t164 => ((dec_Whole.f t164).bind fun bt165 => ((dec_Sub.f a1 bt165.1).bind fun bt167 => (if bt165.2 = 0 then (if bt167.2 = 0 then (if bt167.1 ≤ (-1000000) then (dragomanlaw02_DecWholes.j0 k a0 t161 bt162.1 bt162.2 true) else (if bt167.1 ≥ 1000000 then (dragomanlaw02_DecWholes.j0 k a0 t161 bt162.1 bt162.2 true) else (if bt167.1 = 0 then (dragomanlaw02_DecWholes.j0 k a0 t161 bt162.1 bt162.2 false) else (dragomanlaw02_DecWholes.j0 k a0 t161 bt162.1 bt162.2 ((decide (bt167.1 < 0)) != (decide (a1 < 0))))))) else (dragomanlaw02_DecWholes.j0 k a0 t161 bt162.1 bt162.2 true)) else (dragomanlaw02_DecWholes.j0 k a0 t161 bt162.1 bt162.2 true))))))) = some r := h
  clear h
  replace H := Option.bind_eq_some_iff.mp H
  obtain ⟨t161, A30, H⟩ := H
  replace H : ((dec_Whole.f a0).bind fun bt162 => ((dec_Trunc.f a1).bind fun t164 => ((dec_Whole.f t164).bind fun bt165 => ((dec_Sub.f a1 bt165.1).bind fun bt167 => (if bt165.2 = 0 then (if bt167.2 = 0 then (if bt167.1 ≤ (-1000000) then (dragomanlaw02_DecWholes.j0 k a0 t161 bt162.1 bt162.2 true) else (if bt167.1 ≥ 1000000 then (dragomanlaw02_DecWholes.j0 k a0 t161 bt162.1 bt162.2 true) else (if bt167.1 = 0 then (dragomanlaw02_DecWholes.j0 k a0 t161 bt162.1 bt162.2 false) else (dragomanlaw02_DecWholes.j0 k a0 t161 bt162.1 bt162.2 ((decide (bt167.1 < 0)) != (decide (a1 < 0))))))) else (dragomanlaw02_DecWholes.j0 k a0 t161 bt162.1 bt162.2 true)) else (dragomanlaw02_DecWholes.j0 k a0 t161 bt162.1 bt162.2 true)))))) = some r := H
  have A3 := Aside0.mk A30
  clear A30
  replace H := Option.bind_eq_some_iff.mp H
  obtain ⟨⟨t162, t163⟩, A40, H⟩ := H
  replace H : ((dec_Trunc.f a1).bind fun t164 => ((dec_Whole.f t164).bind fun bt165 => ((dec_Sub.f a1 bt165.1).bind fun bt167 => (if bt165.2 = 0 then (if bt167.2 = 0 then (if bt167.1 ≤ (-1000000) then (dragomanlaw02_DecWholes.j0 k a0 t161 t162 t163 true) else (if bt167.1 ≥ 1000000 then (dragomanlaw02_DecWholes.j0 k a0 t161 t162 t163 true) else (if bt167.1 = 0 then (dragomanlaw02_DecWholes.j0 k a0 t161 t162 t163 false) else (dragomanlaw02_DecWholes.j0 k a0 t161 t162 t163 ((decide (bt167.1 < 0)) != (decide (a1 < 0))))))) else (dragomanlaw02_DecWholes.j0 k a0 t161 t162 t163 true)) else (dragomanlaw02_DecWholes.j0 k a0 t161 t162 t163 true))))) = some r := H
  have A4 := Aside0.mk A40
  clear A40
  replace H := Option.bind_eq_some_iff.mp H
  obtain ⟨t164, A50, H⟩ := H
  replace H : ((dec_Whole.f t164).bind fun bt165 => ((dec_Sub.f a1 bt165.1).bind fun bt167 => (if bt165.2 = 0 then (if bt167.2 = 0 then (if bt167.1 ≤ (-1000000) then (dragomanlaw02_DecWholes.j0 k a0 t161 t162 t163 true) else (if bt167.1 ≥ 1000000 then (dragomanlaw02_DecWholes.j0 k a0 t161 t162 t163 true) else (if bt167.1 = 0 then (dragomanlaw02_DecWholes.j0 k a0 t161 t162 t163 false) else (dragomanlaw02_DecWholes.j0 k a0 t161 t162 t163 ((decide (bt167.1 < 0)) != (decide (a1 < 0))))))) else (dragomanlaw02_DecWholes.j0 k a0 t161 t162 t163 true)) else (dragomanlaw02_DecWholes.j0 k a0 t161 t162 t163 true)))) = some r := H
  have A5 := Aside0.mk A50
  clear A50
  replace H := Option.bind_eq_some_iff.mp H
  obtain ⟨⟨t165, t166⟩, A60, H⟩ := H
  replace H : ((dec_Sub.f a1 t165).bind fun bt167 => (if t166 = 0 then (if bt167.2 = 0 then (if bt167.1 ≤ (-1000000) then (dragomanlaw02_DecWholes.j0 k a0 t161 t162 t163 true) else (if bt167.1 ≥ 1000000 then (dragomanlaw02_DecWholes.j0 k a0 t161 t162 t163 true) else (if bt167.1 = 0 then (dragomanlaw02_DecWholes.j0 k a0 t161 t162 t163 false) else (dragomanlaw02_DecWholes.j0 k a0 t161 t162 t163 ((decide (bt167.1 < 0)) != (decide (a1 < 0))))))) else (dragomanlaw02_DecWholes.j0 k a0 t161 t162 t163 true)) else (dragomanlaw02_DecWholes.j0 k a0 t161 t162 t163 true))) = some r := H
  have A6 := Aside0.mk A60
  clear A60
  replace H := Option.bind_eq_some_iff.mp H
  obtain ⟨⟨t167, t168⟩, A70, H⟩ := H
  replace H : (if t166 = 0 then (if t168 = 0 then (if t167 ≤ (-1000000) then (dragomanlaw02_DecWholes.j0 k a0 t161 t162 t163 true) else (if t167 ≥ 1000000 then (dragomanlaw02_DecWholes.j0 k a0 t161 t162 t163 true) else (if t167 = 0 then (dragomanlaw02_DecWholes.j0 k a0 t161 t162 t163 false) else (dragomanlaw02_DecWholes.j0 k a0 t161 t162 t163 ((decide (t167 < 0)) != (decide (a1 < 0))))))) else (dragomanlaw02_DecWholes.j0 k a0 t161 t162 t163 true)) else (dragomanlaw02_DecWholes.j0 k a0 t161 t162 t163 true)) = some r := H
  have A7 := Aside0.mk A70
  clear A70
  have HC8 := Aside0.mk H
  clear H
  go_enter Tryd.func8, Tryd.ntmps8
  go_upto_region 6 with (first | ((with_reducible refine gate_callee (f := 12) rfl ?_); refine goesL_ (some 15) rfl rfl Tryd.func12 (by kernel_rfl) rfl #[] rfl (by (try simp only [List.map_toArray, List.map_cons, List.map_nil]); first | done | rfl | (simp only [List.length_drop, List.length_take]; rfl)) ?_; (with_reducible refine (dragomanlaw02_shown.calls k  t161 _ ?side1 A3.out).mono ?_); (case side1 => refine GT.below hG ?_; repeat (first | (with_reducible first | exact HB.out | apply below_alloc | apply pw_below_drewN | apply below_drew1) | exact HB.out)); rintro e w9 ⟨rfl, hb⟩; refine ⟨_, rfl, ?_⟩; have n0_ := Aside0.mk (below_step (by repeat (first | (with_reducible first | exact HB.out | apply below_alloc | apply pw_below_drewN | apply below_drew1) | exact HB.out)) hb); clear HB; have HB := n0_; clear n0_; (try clear hb); (try clear hb2); (try clear hk); (try clear hi)) | ((with_reducible refine gate_callee (f := 20) rfl ?_); refine goesL_ (some 18) rfl rfl Tryd.func20 (by kernel_rfl) rfl #[.int .i64 a0] rfl (by (try simp only [List.map_toArray, List.map_cons, List.map_nil]); first | done | rfl | (simp only [List.length_drop, List.length_take]; rfl)) ?_; (with_reducible refine (dec_Whole.calls a0 t162 t163 _ A4.out).mono ?_); rintro e w10 ⟨rfl, hb⟩; refine ⟨_, rfl, ?_⟩; have n0_ := Aside0.mk (below_step (by repeat (first | (with_reducible first | exact HB.out | apply below_alloc | apply pw_below_drewN | apply below_drew1) | exact HB.out)) hb); clear HB; have HB := n0_; clear n0_; (try clear hb); (try clear hb2); (try clear hk); (try clear hi)) | ((with_reducible refine gate_callee (f := 21) rfl ?_); refine goesL_ (some 22) rfl rfl Tryd.func21 (by kernel_rfl) rfl #[.int .i64 a1] rfl (by (try simp only [List.map_toArray, List.map_cons, List.map_nil]); first | done | rfl | (simp only [List.length_drop, List.length_take]; rfl)) ?_; (with_reducible refine (dec_Trunc.calls a1 t164 _ A5.out).mono ?_); rintro e w' ⟨rfl, ⟨nd, rfl⟩⟩; refine ⟨_, rfl, ?_⟩) | ((with_reducible refine gate_callee (f := 20) rfl ?_); refine goesL_ (some 25) rfl rfl Tryd.func20 (by kernel_rfl) rfl #[.int .i64 t164] rfl (by (try simp only [List.map_toArray, List.map_cons, List.map_nil]); first | done | rfl | (simp only [List.length_drop, List.length_take]; rfl)) ?_; (with_reducible refine (dec_Whole.calls t164 t165 t166 _ A6.out).mono ?_); rintro e w11 ⟨rfl, hb⟩; refine ⟨_, rfl, ?_⟩; have n0_ := Aside0.mk (below_step (by repeat (first | (with_reducible first | exact HB.out | apply below_alloc | apply pw_below_drewN | apply below_drew1) | exact HB.out)) hb); clear HB; have HB := n0_; clear n0_; (try clear hb); (try clear hb2); (try clear hk); (try clear hi)) | ((with_reducible refine gate_callee (f := 22) rfl ?_); refine goesL_ (some 31) rfl rfl Tryd.func22 (by kernel_rfl) rfl #[.int .i64 a1, .int .i64 t165] rfl (by (try simp only [List.map_toArray, List.map_cons, List.map_nil]); first | done | rfl | (simp only [List.length_drop, List.length_take]; rfl)) ?_; (with_reducible refine (dec_Sub.calls a1 t165 t167 t168 _ A7.out).mono ?_); rintro e w12 ⟨rfl, hb⟩; refine ⟨_, rfl, ?_⟩; have n0_ := Aside0.mk (below_step (by repeat (first | (with_reducible first | exact HB.out | apply below_alloc | apply pw_below_drewN | apply below_drew1) | exact HB.out)) hb); clear HB; have HB := n0_; clear n0_; (try clear hb); (try clear hb2); (try clear hk); (try clear hi)))
  (try simp only [Act.put, List.setIfInBounds_toArray, List.set_cons_zero, List.set_cons_succ])
  go_cut [58] (fun v58 wc => ∃ (kq : Nat) (x58_7 : Bool), v58 = .bool x58_7 ∧ Aside0 (dragomanlaw02_DecWholes.j0 kq a0 t161 t162 t163 x58_7 = some r) ∧ Aside0 (kq ≤ k) ∧ Aside0 (Below w.heap.size w wc))
  case first =>
    have H := HC8.out
    clear HC8
    by_cases c13 : t166 = 0
    · rw [if_pos c13] at H
      have c13b0 : (t166 == 0) = true := beq_iff_eq.mpr c13
      have c13b1 : (t166 != 0) = false := bne_eq_false_iff_eq.mpr c13
      clear c13
      (first | rw [c13b0] | (simp only [i64_w, i32_w]; rw [c13b0]) | skip)
      by_cases c14 : t168 = 0
      · rw [if_pos c14] at H
        have c14b0 : (t168 == 0) = true := beq_iff_eq.mpr c14
        have c14b1 : (t168 != 0) = false := bne_eq_false_iff_eq.mpr c14
        clear c14
        by_cases c15 : t167 ≤ (-1000000)
        · rw [if_pos c15] at H
          have c15b0 : decide (t167 ≤ (-1000000)) = true := decide_eq_true c15
          clear c15
          have H' := Aside0.mk H
          clear H
          go_wp2
          go_meet
          case rel => exact ⟨_, (true), (by first | rfl | (simp; done) | (simp [*]; done)), H', ⟨by first | omega | exact Nat.le_refl _⟩, ⟨by repeat (first | (with_reducible first | exact HB.out | apply below_alloc | apply pw_below_drewN | apply below_drew1) | exact HB.out)⟩⟩
        · rw [if_neg c15] at H
          have c15b0 : decide (t167 ≤ (-1000000)) = false := decide_eq_false c15
          clear c15
          by_cases c16 : t167 ≥ 1000000
          · rw [if_pos c16] at H
            have c16b0 : decide (1000000 ≤ t167) = true := decide_eq_true c16
            clear c16
            have H' := Aside0.mk H
            clear H
            go_wp2
            go_meet
            case rel => exact ⟨_, (true), (by first | rfl | (simp; done) | (simp [*]; done)), H', ⟨by first | omega | exact Nat.le_refl _⟩, ⟨by repeat (first | (with_reducible first | exact HB.out | apply below_alloc | apply pw_below_drewN | apply below_drew1) | exact HB.out)⟩⟩
          · rw [if_neg c16] at H
            have c16b0 : decide (1000000 ≤ t167) = false := decide_eq_false c16
            clear c16
            by_cases c17 : t167 = 0
            · rw [if_pos c17] at H
              have c17b0 : (t167 == 0) = true := beq_iff_eq.mpr c17
              have c17b1 : (t167 != 0) = false := bne_eq_false_iff_eq.mpr c17
              clear c17
              have H' := Aside0.mk H
              clear H
              go_wp2
              go_meet
              case rel => exact ⟨_, (false), (by first | rfl | (simp; done) | (simp [*]; done)), H', ⟨by first | omega | exact Nat.le_refl _⟩, ⟨by repeat (first | (with_reducible first | exact HB.out | apply below_alloc | apply pw_below_drewN | apply below_drew1) | exact HB.out)⟩⟩
            · rw [if_neg c17] at H
              have c17b0 : (t167 == 0) = false := beq_eq_false_iff_ne.mpr c17
              have c17b1 : (t167 != 0) = true := bne_iff_ne.mpr c17
              have H' := Aside0.mk H
              clear H
              go_wp2
              go_meet
              case rel => exact ⟨_, (((decide (t167 < 0)) != (decide (a1 < 0)))), (by first | rfl | (simp; done) | (simp [*]; done)), H', ⟨by first | omega | exact Nat.le_refl _⟩, ⟨by repeat (first | (with_reducible first | exact HB.out | apply below_alloc | apply pw_below_drewN | apply below_drew1) | exact HB.out)⟩⟩
      · rw [if_neg c14] at H
        have c14b0 : (t168 == 0) = false := beq_eq_false_iff_ne.mpr c14
        have c14b1 : (t168 != 0) = true := bne_iff_ne.mpr c14
        have H' := Aside0.mk H
        clear H
        go_wp2
        go_meet
        case rel => exact ⟨_, (true), (by first | rfl | (simp; done) | (simp [*]; done)), H', ⟨by first | omega | exact Nat.le_refl _⟩, ⟨by repeat (first | (with_reducible first | exact HB.out | apply below_alloc | apply pw_below_drewN | apply below_drew1) | exact HB.out)⟩⟩
    · rw [if_neg c13] at H
      have c13b0 : (t166 == 0) = false := beq_eq_false_iff_ne.mpr c13
      have c13b1 : (t166 != 0) = true := bne_iff_ne.mpr c13
      (first | rw [c13b0] | (simp only [i64_w, i32_w]; rw [c13b0]) | skip)
      have H' := Aside0.mk H
      clear H
      go_wp2
      go_meet
      case rel => exact ⟨_, (true), (by first | rfl | (simp; done) | (simp [*]; done)), H', ⟨by first | omega | exact Nat.le_refl _⟩, ⟨by repeat (first | (with_reducible first | exact HB.out | apply below_alloc | apply pw_below_drewN | apply below_drew1) | exact HB.out)⟩⟩
  case rest =>
    clear HC8
    try clear c1
    try clear c2
    try clear p2
    try clear c8
    try clear c12
    try clear c13
    try clear c13b0
    try clear c13b1
    try clear c14
    try clear c14b0
    try clear c14b1
    try clear c15
    try clear c15b0
    try clear c16
    try clear c16b0
    try clear c17
    try clear c17b0
    try clear c17b1
    obtain ⟨kq, x58_7, rfl, HA, HJ7, HB⟩ := hcut
    cases kq with
    | zero => exact absurd HA.out (by simp [dragomanlaw02_DecWholes.j0])
    | succ kj7 =>
      have H := HA.out
      clear HA
      simp only [dragomanlaw02_DecWholes.j0] at H
      by_cases c18 : x58_7 = true
      · subst c18
        have H1 : (some false) = some r := by rw [if_pos rfl] at H; exact H
        clear H
        have H := H1
        clear H1
        obtain rfl := Option.some.inj H
        go_wp2
        go_ret
        exact ⟨by first | rfl | (simp [errW_none, errW_some] <;> rfl) | (simp [*, errW_none, errW_some] <;> rfl), by repeat (first | (with_reducible first | exact HB.out | apply below_alloc | apply pw_below_drewN | apply below_drew1) | exact HB.out)⟩
      · replace c18 := Bool.eq_false_iff.mpr c18
        subst c18
        have H1 : (if t163 = 0 then ((dec_Text.f kj7 t162).bind fun t169 => (dragomanlaw02_DecWholes.l0 kj7 a0 t161 t162 t169 0)) else (if t161 = true then (if t163 = 3 then (if a0 > 9223372036854 then (some true) else (some (decide (a0 < (-9223372036854))))) else (some false)) else (some false))) = some r := by rw [if_neg (show ¬ (false = true) by decide)] at H; exact H
        clear H
        have H := H1
        clear H1
        by_cases c19 : t163 = 0
        · rw [if_pos c19] at H
          have c19b0 : (t163 == 0) = true := beq_iff_eq.mpr c19
          have c19b1 : (t163 != 0) = false := bne_eq_false_iff_eq.mpr c19
          clear c19
          replace H := Option.bind_eq_some_iff.mp H
          obtain ⟨t169, A200, H⟩ := H
          replace H : (dragomanlaw02_DecWholes.l0 kj7 a0 t161 t162 t169 0) = some r := H
          have A20 := Aside0.mk A200
          clear A200
          have H' := Aside0.mk H
          clear H
          go_wp2_with (first | ((with_reducible refine gate_callee (f := 15) rfl ?_); refine goesL_ (some 75) rfl rfl Tryd.func15 (by kernel_rfl) rfl #[.int .i64 t162] rfl (by (try simp only [List.map_toArray, List.map_cons, List.map_nil]); first | done | rfl | (simp only [List.length_drop, List.length_take]; rfl)) ?_; (with_reducible refine (dec_Text.calls kj7 t162 t169 _ ?side1 A20.out).mono ?_); (case side1 => refine GT.below hG ?_; repeat (first | (with_reducible first | exact HB.out | apply below_alloc | apply pw_below_drewN | apply below_drew1) | exact HB.out)); rintro e w21 ⟨rfl, hb⟩; refine ⟨_, rfl, ?_⟩; have n0_ := Aside0.mk (below_step (by repeat (first | (with_reducible first | exact HB.out | apply below_alloc | apply pw_below_drewN | apply below_drew1) | exact HB.out)) hb); clear HB; have HB := n0_; clear n0_; (try clear hb); (try clear hb2); (try clear hk); (try clear hi)))
          go_loopg [14] kj7 (fun kq v14 w' => ∃ (x14_2 : Int), v14 = .int .i64 x14_2 ∧ Aside0 (dragomanlaw02_DecWholes.l0 kq a0 t161 t162 t169 x14_2 = some r) ∧ Aside0 (kq ≤ kj7) ∧ Aside0 (Below w.heap.size w w'))
          case atStart => exact ⟨(0), (by first | rfl | (simp; done) | (simp [*]; done)), H', ⟨Nat.le_refl _⟩, ⟨by repeat (first | (with_reducible first | exact HB.out | apply below_alloc | apply pw_below_drewN | apply below_drew1) | exact HB.out)⟩⟩
          case round =>
            clear H'
            try clear c1
            try clear c2
            try clear p2
            try clear c8
            try clear c12
            try clear c13
            try clear c13b0
            try clear c13b1
            try clear c14
            try clear c14b0
            try clear c14b1
            try clear c15
            try clear c15b0
            try clear c16
            try clear c16b0
            try clear c17
            try clear c17b0
            try clear c17b1
            try clear c18
            try clear c19
            try clear c19b0
            try clear c19b1
            try clear c20
            try clear c21
            try clear p2
            obtain ⟨x14_2, rfl, HA, HK2, HB⟩ := hrel
            cases gk with
            | zero => exact absurd HA.out (by simp [dragomanlaw02_DecWholes.l0])
            | succ k2 =>
              have H := HA.out
              clear HA
              simp only [dragomanlaw02_DecWholes.l0] at H
              by_cases c22 : x14_2 < (t169.size : Int)
              · rw [if_pos c22] at H
                have c22b0 : decide (x14_2 < (t169.size : Int)) = true := decide_eq_true c22
                clear c22
                by_cases c23 : 0 ≤ x14_2
                · rw [if_pos c23] at H
                  have c23b0 : decide (0 ≤ x14_2) = true := decide_eq_true c23
                  clear c23
                  by_cases c25 : (bt t169 x14_2) = 46
                  · rw [if_pos c25] at H
                    have c25b0 : ((bt t169 x14_2) == 46) = true := beq_iff_eq.mpr c25
                    have c25b1 : ((bt t169 x14_2) != 46) = false := bne_eq_false_iff_eq.mpr c25
                    clear c25
                    obtain rfl := Option.some.inj H
                    have p24 : 0 ≤ (x14_2 : Int) := of_decide_eq_true (by first | (with_reducible assumption) | assumption)
                    have q24 : x14_2 < (t169.size : Int) := of_decide_eq_true (by first | (with_reducible assumption) | assumption)
                    have hx24 := bt_at t169 x14_2
                    replace p24 := eq_true p24
                    replace q24 := eq_true q24
                    go_wp2
                    go_ret
                    exact ⟨by first | rfl | (simp [errW_none, errW_some] <;> rfl) | (simp [*, errW_none, errW_some] <;> rfl), by repeat (first | (with_reducible first | exact HB.out | apply below_alloc | apply pw_below_drewN | apply below_drew1) | exact HB.out)⟩
                  · rw [if_neg c25] at H
                    have c25b0 : ((bt t169 x14_2) == 46) = false := beq_eq_false_iff_ne.mpr c25
                    have c25b1 : ((bt t169 x14_2) != 46) = true := bne_iff_ne.mpr c25
                    have H' := Aside0.mk H
                    clear H
                    have p24 : 0 ≤ (x14_2 : Int) := of_decide_eq_true (by first | (with_reducible assumption) | assumption)
                    have q24 : x14_2 < (t169.size : Int) := of_decide_eq_true (by first | (with_reducible assumption) | assumption)
                    have hx24 := bt_at t169 x14_2
                    replace p24 := eq_true p24
                    replace q24 := eq_true q24
                    go_wp2
                    go_roundg k2
                    case measure => have := HJ7.out; have := HK2.out; omega
                    case rel => exact ⟨(wrap64 (x14_2 + 1)), (by first | rfl | (simp; done) | (simp [*]; done)), H', ⟨by have := HJ7.out; have := HK2.out; omega⟩, ⟨by repeat (first | (with_reducible first | exact HB.out | apply below_alloc | apply pw_below_drewN | apply below_drew1) | exact HB.out)⟩⟩
                · rw [if_neg c23] at H
                  exact absurd H (by simp)
              · rw [if_neg c22] at H
                have c22b0 : decide (x14_2 < (t169.size : Int)) = false := decide_eq_false c22
                clear c22
                by_cases c26 : t161 = true
                · subst c26
                  have H1 : ((dec_Trunc.f t162).bind fun t170 => (some (t170 == a0))) = some r := by rw [if_pos rfl] at H; exact H
                  clear H
                  have H := H1
                  clear H1
                  replace H := Option.bind_eq_some_iff.mp H
                  obtain ⟨t170, A270, H⟩ := H
                  replace H : (some (t170 == a0)) = some r := H
                  have A27 := Aside0.mk A270
                  clear A270
                  obtain rfl := Option.some.inj H
                  go_wp2_with (first | (go_at_call 21; (with_reducible refine (dec_Trunc.calls t162 t170 _ A27.out).mono ?_); rintro e w' ⟨rfl, ⟨nd, rfl⟩⟩))
                  go_ret
                  exact ⟨by first | rfl | (simp [errW_none, errW_some] <;> rfl) | (simp [*, errW_none, errW_some] <;> rfl), by repeat (first | (with_reducible first | exact HB.out | apply below_alloc | apply pw_below_drewN | apply below_drew1) | exact HB.out)⟩
                · replace c26 := Bool.eq_false_iff.mpr c26
                  subst c26
                  have H1 : (some false) = some r := by rw [if_neg (show ¬ (false = true) by decide)] at H; exact H
                  clear H
                  have H := H1
                  clear H1
                  obtain rfl := Option.some.inj H
                  go_wp2
                  go_ret
                  exact ⟨by first | rfl | (simp [errW_none, errW_some] <;> rfl) | (simp [*, errW_none, errW_some] <;> rfl), by repeat (first | (with_reducible first | exact HB.out | apply below_alloc | apply pw_below_drewN | apply below_drew1) | exact HB.out)⟩
        · rw [if_neg c19] at H
          have c19b0 : (t163 == 0) = false := beq_eq_false_iff_ne.mpr c19
          have c19b1 : (t163 != 0) = true := bne_iff_ne.mpr c19
          by_cases c28 : t161 = true
          · subst c28
            have H1 : (if t163 = 3 then (if a0 > 9223372036854 then (some true) else (some (decide (a0 < (-9223372036854))))) else (some false)) = some r := by rw [if_pos rfl] at H; exact H
            clear H
            have H := H1
            clear H1
            by_cases c29 : t163 = 3
            · rw [if_pos c29] at H
              have c29b0 : (t163 == 3) = true := beq_iff_eq.mpr c29
              have c29b1 : (t163 != 3) = false := bne_eq_false_iff_eq.mpr c29
              clear c29
              by_cases c30 : a0 > 9223372036854
              · rw [if_pos c30] at H
                have c30b0 : decide (9223372036854 < a0) = true := decide_eq_true c30
                clear c30
                obtain rfl := Option.some.inj H
                go_wp2
                go_ret
                exact ⟨by first | rfl | (simp [errW_none, errW_some] <;> rfl) | (simp [*, errW_none, errW_some] <;> rfl), by repeat (first | (with_reducible first | exact HB.out | apply below_alloc | apply pw_below_drewN | apply below_drew1) | exact HB.out)⟩
              · rw [if_neg c30] at H
                have c30b0 : decide (9223372036854 < a0) = false := decide_eq_false c30
                clear c30
                obtain rfl := Option.some.inj H
                go_wp2
                go_ret
                exact ⟨by first | rfl | (simp [errW_none, errW_some] <;> rfl) | (simp [*, errW_none, errW_some] <;> rfl), by repeat (first | (with_reducible first | exact HB.out | apply below_alloc | apply pw_below_drewN | apply below_drew1) | exact HB.out)⟩
            · rw [if_neg c29] at H
              have c29b0 : (t163 == 3) = false := beq_eq_false_iff_ne.mpr c29
              have c29b1 : (t163 != 3) = true := bne_iff_ne.mpr c29
              obtain rfl := Option.some.inj H
              go_wp2
              go_ret
              exact ⟨by first | rfl | (simp [errW_none, errW_some] <;> rfl) | (simp [*, errW_none, errW_some] <;> rfl), by repeat (first | (with_reducible first | exact HB.out | apply below_alloc | apply pw_below_drewN | apply below_drew1) | exact HB.out)⟩
          · replace c28 := Bool.eq_false_iff.mpr c28
            subst c28
            have H1 : (some false) = some r := by rw [if_neg (show ¬ (false = true) by decide)] at H; exact H
            clear H
            have H := H1
            clear H1
            obtain rfl := Option.some.inj H
            go_wp2
            go_ret
            exact ⟨by first | rfl | (simp [errW_none, errW_some] <;> rfl) | (simp [*, errW_none, errW_some] <;> rfl), by repeat (first | (with_reducible first | exact HB.out | apply below_alloc | apply pw_below_drewN | apply below_drew1) | exact HB.out)⟩

/-- THE ONE PURE STATEMENT of dragomanlaw02_DecWholes: yours. -/
def dragomanlaw02_DecWholes.Pure : Prop := ∀ (a0 : Int) (a1 : Int), (Lit.int .i64 a0).wf = true → (Lit.int .i64 a1).wf = true → ∃ k, dragomanlaw02_DecWholes.f k a0 a1 = some true
theorem dragomanlaw02_DecWholes.walk (P : dragomanlaw02_DecWholes.Pure) (a0 : Int) (a1 : Int) (w : World) (w0 : (Lit.int .i64 a0).wf = true) (w1 : (Lit.int .i64 a1).wf = true) (hG : GT w) :
    Calls Tryd.prog 8 #[.int .i64 a0, .int .i64 a1] w fun e w' => e = .returned (.bool true) ∧ Below w.heap.size w w' := by
  obtain ⟨k, h⟩ := P a0 a1 w0 w1
  refine (dragomanlaw02_DecWholes.calls k a0 a1 true w hG h).mono ?_
  rintro e w' ⟨rfl, hd⟩
  exact ⟨rfl, hd⟩

end Go.Proofs.YtgodmbcebpbdiaaDoor.QA
