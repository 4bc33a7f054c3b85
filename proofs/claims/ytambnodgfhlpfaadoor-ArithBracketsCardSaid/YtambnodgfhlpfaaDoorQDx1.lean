/- The Go functions of this part as Lean functions, each with a proof that a call of it comes to just what the Lean function does. Written by a program of the session's. Conditions: none but those in each theorem. -/
import Derived.Test.YtambnodgfhlpfaaDoorQDx0
namespace Go.Proofs.YtambnodgfhlpfaaDoor.QD
open Go.Proofs.YtambnodgfhlpfaaDoor.G Go.Proofs.YtambnodgfhlpfaaDoor.QA Go.Proofs.YtambnodgfhlpfaaDoor.A Go.Proofs.YtambnodgfhlpfaaDoor.QB
open Go.RowKit Go.Proofs.YtambnodgfhlpfaaDoorW.PrintWords Go.Proofs.YtambnodgfhlpfaaDoorW.PrintLast Go.Proofs.YtambnodgfhlpfaaDoorW.PrintMore
attribute [local go_sem] max2_int min2_int max_two min_two max_three min_three max_four min_four   -- for this text's walks alone
set_option linter.unusedVariables false
set_option linter.unusedSimpArgs false

-- GIVEN: function 11 (dragomanlaw10_shown)

-- GIVEN: function 12 (dragomanlaw10_few)

-- GIVEN: function 13 (arith_Eval)

/-! ### dragomanlaw10_ArithBrackets: function 6 -/
mutual
def dragomanlaw10_ArithBrackets.j0 : Nat → ByteArray → List (S39) → Bool → Bool → Option (Bool)
  | 0, _, _, _, _ => none
  | k + 1, x0, x1, x5, x25 => if x25 = true then (some x5) else ((arith_Eval.f k x0 x1).bind fun bt103 => (if 1 + x0.size ≤ 9223372036854775807 then (if ((⟨#[40]⟩ : ByteArray) ++ x0).size + 1 ≤ 9223372036854775807 then ((arith_Eval.f k (((⟨#[40]⟩ : ByteArray) ++ x0) ++ (⟨#[41]⟩ : ByteArray)) x1).bind fun bt105 => (if 3 + x0.size ≤ 9223372036854775807 then (if ((⟨#[33, 33, 40]⟩ : ByteArray) ++ x0).size + 1 ≤ 9223372036854775807 then ((arith_Eval.f k (((⟨#[33, 33, 40]⟩ : ByteArray) ++ x0) ++ (⟨#[41]⟩ : ByteArray)) x1).bind fun bt107 => (if ((⟨#[40]⟩ : ByteArray) ++ x0).size + 3 ≤ 9223372036854775807 then (if (((⟨#[40]⟩ : ByteArray) ++ x0) ++ (⟨#[41, 45, 40]⟩ : ByteArray)).size + x0.size ≤ 9223372036854775807 then (if ((((⟨#[40]⟩ : ByteArray) ++ x0) ++ (⟨#[41, 45, 40]⟩ : ByteArray)) ++ x0).size + 1 ≤ 9223372036854775807 then ((arith_Eval.f k (((((⟨#[40]⟩ : ByteArray) ++ x0) ++ (⟨#[41, 45, 40]⟩ : ByteArray)) ++ x0) ++ (⟨#[41]⟩ : ByteArray)) x1).bind fun bt109 => (if bt103.2 = 0 then (if bt105.2 = 7 then (dragomanlaw10_ArithBrackets.j1 k x5 bt103.1 bt105.1 bt105.2 bt107.1 bt107.2 bt109.1 bt109.2 true) else (dragomanlaw10_ArithBrackets.j1 k x5 bt103.1 bt105.1 bt105.2 bt107.1 bt107.2 bt109.1 bt109.2 (bt107.2 == 7))) else (dragomanlaw10_ArithBrackets.j1 k x5 bt103.1 bt105.1 bt105.2 bt107.1 bt107.2 bt109.1 bt109.2 true))) else (none)) else (none)) else (none))) else (none)) else (none))) else (none)) else (none)))
def dragomanlaw10_ArithBrackets.j1 : Nat → Bool → Int → Int → Int → Int → Int → Int → Int → Bool → Option (Bool)
  | 0, _, _, _, _, _, _, _, _, _ => none
  | k + 1, x5, x7, x9, x10, x11, x12, x13, x14, x69 => if x69 = true then (some x5) else (if x7 = 0 then (if x5 = true then (if x10 = 0 then (if x9 = x7 then (if x12 = 0 then (if x11 = 0 then (if x14 = 0 then (some (x13 == 0)) else (some false)) else (some false)) else (some false)) else (some false)) else (some false)) else (some false)) else (if x5 = true then (if x10 = 0 then (if x9 = x7 then (if x12 = 0 then (if x11 = 1 then (if x14 = 0 then (some (x13 == 0)) else (some false)) else (some false)) else (some false)) else (some false)) else (some false)) else (some false)))
end
def dragomanlaw10_ArithBrackets.f (k : Nat) (a0 : ByteArray) (l1 : List (S39)) : Option (Bool) := (dragomanlaw10_shown.f k).bind fun t101 => ((dragomanlaw10_few.f k l1).bind fun t102 => (if t102 = true then (dragomanlaw10_ArithBrackets.j0 k a0 l1 t101 (decide ((a0.size : Int) > 400))) else (dragomanlaw10_ArithBrackets.j0 k a0 l1 t101 true)))
theorem dragomanlaw10_ArithBrackets.mono_l : ∀ k, (∀ y0 y1 y2 y3, LeO (dragomanlaw10_ArithBrackets.j0 k y0 y1 y2 y3) (dragomanlaw10_ArithBrackets.j0 (k + 1) y0 y1 y2 y3)) ∧ (∀ y0 y1 y2 y3 y4 y5 y6 y7 y8, LeO (dragomanlaw10_ArithBrackets.j1 k y0 y1 y2 y3 y4 y5 y6 y7 y8) (dragomanlaw10_ArithBrackets.j1 (k + 1) y0 y1 y2 y3 y4 y5 y6 y7 y8))
  | 0 => ⟨fun _ _ _ _ r h => by simp [dragomanlaw10_ArithBrackets.j0] at h, fun _ _ _ _ _ _ _ _ _ r h => by simp [dragomanlaw10_ArithBrackets.j1] at h⟩
  | k + 1 => by
    obtain ⟨ih0, ih1⟩ := dragomanlaw10_ArithBrackets.mono_l k
    refine ⟨?_, ?_⟩
    · intro y0 y1 y2 y3
      unfold dragomanlaw10_ArithBrackets.j0
      repeat' first
      | (with_reducible exact ih0 _ _ _ _)
      | (with_reducible exact ih1 _ _ _ _ _ _ _ _ _)
      | (with_reducible exact arith_Eval.mono _ _ _)
      | (with_reducible exact dragomanlaw10_few.mono _ _)
      | (with_reducible exact dragomanlaw10_shown.mono _)
      | (with_reducible exact LeO.refl _)
      | (with_reducible exact LeO.none _)
      | (with_reducible refine LeO.ite ?_ ?_)
      | (with_reducible refine LeO.bind ?_ (fun _ => ?_))
      | exact ih0 _ _ _ _
      | exact ih1 _ _ _ _ _ _ _ _ _
      | exact arith_Eval.mono _ _ _
      | exact dragomanlaw10_few.mono _ _
      | exact dragomanlaw10_shown.mono _
      | exact LeO.none _
      | refine LeO.ite ?_ ?_
      | refine LeO.bind ?_ (fun _ => ?_)
    · intro y0 y1 y2 y3 y4 y5 y6 y7 y8
      unfold dragomanlaw10_ArithBrackets.j1
      repeat' first
      | (with_reducible exact ih0 _ _ _ _)
      | (with_reducible exact ih1 _ _ _ _ _ _ _ _ _)
      | (with_reducible exact arith_Eval.mono _ _ _)
      | (with_reducible exact dragomanlaw10_few.mono _ _)
      | (with_reducible exact dragomanlaw10_shown.mono _)
      | (with_reducible exact LeO.refl _)
      | (with_reducible exact LeO.none _)
      | (with_reducible refine LeO.ite ?_ ?_)
      | (with_reducible refine LeO.bind ?_ (fun _ => ?_))
      | exact ih0 _ _ _ _
      | exact ih1 _ _ _ _ _ _ _ _ _
      | exact arith_Eval.mono _ _ _
      | exact dragomanlaw10_few.mono _ _
      | exact dragomanlaw10_shown.mono _
      | exact LeO.none _
      | refine LeO.ite ?_ ?_
      | refine LeO.bind ?_ (fun _ => ?_)
theorem dragomanlaw10_ArithBrackets.mono : ∀ a0 a1 k, LeO (dragomanlaw10_ArithBrackets.f k a0 a1) (dragomanlaw10_ArithBrackets.f (k + 1) a0 a1) := by
  intro a0 a1 k
  obtain ⟨ih0, ih1⟩ := dragomanlaw10_ArithBrackets.mono_l k
  unfold dragomanlaw10_ArithBrackets.f
  repeat' first
      | (with_reducible exact ih0 _ _ _ _)
      | (with_reducible exact ih1 _ _ _ _ _ _ _ _ _)
      | (with_reducible exact arith_Eval.mono _ _ _)
      | (with_reducible exact dragomanlaw10_few.mono _ _)
      | (with_reducible exact dragomanlaw10_shown.mono _)
      | (with_reducible exact LeO.refl _)
      | (with_reducible exact LeO.none _)
      | (with_reducible refine LeO.ite ?_ ?_)
      | (with_reducible refine LeO.bind ?_ (fun _ => ?_))
      | exact ih0 _ _ _ _
      | exact ih1 _ _ _ _ _ _ _ _ _
      | exact arith_Eval.mono _ _ _
      | exact dragomanlaw10_few.mono _ _
      | exact dragomanlaw10_shown.mono _
      | exact LeO.none _
      | refine LeO.ite ?_ ?_
      | refine LeO.bind ?_ (fun _ => ?_)
set_option maxHeartbeats 8000000 in
set_option maxRecDepth 100000 in
theorem dragomanlaw10_ArithBrackets.calls (k : Nat) (a0 : ByteArray) (A1 : Option Addr) (c1 : Nat) (l1 : List (S39)) (r : Bool) (w : World) (hG : GE w) (hr1 : Kd.C k39 w A1 l1.length l1) (hc1 : l1.length ≤ c1) (h : dragomanlaw10_ArithBrackets.f k a0 l1 = some r) :
    Calls Tryd.prog 6 #[.string a0, .slice A1 l1.length c1] w fun e w' => e = .returned (.bool r) ∧ Below w.heap.size w w' := by
  have HR1 := Aside0.mk hr1
  have HC1 := Aside0.mk hc1
  clear hr1 hc1
  have HB := Aside0.mk (Below.refl w.heap.size w)
  have H : ((dragomanlaw10_shown.f k).bind fun t101 => ((dragomanlaw10_few.f k l1).bind fun t102 => (if t102 = true then (dragomanlaw10_ArithBrackets.j0 k a0 l1 t101 (decide ((a0.size : Int) > 400))) else (dragomanlaw10_ArithBrackets.j0 k a0 l1 t101 true)))) = some r := h
  clear h
  replace H := Option.bind_eq_some_iff.mp H
  obtain ⟨t101, A30, H⟩ := H
  replace H : ((dragomanlaw10_few.f k l1).bind fun t102 => (if t102 = true then (dragomanlaw10_ArithBrackets.j0 k a0 l1 t101 (decide ((a0.size : Int) > 400))) else (dragomanlaw10_ArithBrackets.j0 k a0 l1 t101 true))) = some r := H
  have A3 := Aside0.mk A30
  clear A30
  replace H := Option.bind_eq_some_iff.mp H
  obtain ⟨t102, A40, H⟩ := H
  replace H : (if t102 = true then (dragomanlaw10_ArithBrackets.j0 k a0 l1 t101 (decide ((a0.size : Int) > 400))) else (dragomanlaw10_ArithBrackets.j0 k a0 l1 t101 true)) = some r := H
  have A4 := Aside0.mk A40
  clear A40
  have HC5 := Aside0.mk H
  clear H
  go_enter Tryd.func6, Tryd.ntmps6
  go_upto_region 3 with (first | ((with_reducible refine gate_callee (f := 11) rfl ?_); refine goesL_ (some 16) rfl rfl Tryd.func11 (by kernel_rfl) rfl #[] rfl (by (try simp only [List.map_toArray, List.map_cons, List.map_nil]); first | done | rfl | (simp only [List.length_drop, List.length_take]; rfl)) ?_; (with_reducible refine (dragomanlaw10_shown.calls k  t101 _ ?side1 A3.out).mono ?_); (case side1 => refine GE.below hG ?_; repeat (first | (with_reducible first | exact HB.out | apply below_alloc | apply pw_below_drewN | apply below_drew1) | exact HB.out)); rintro e w6 ⟨rfl, hb⟩; refine ⟨_, rfl, ?_⟩; have n0_ := Aside0.mk (below_step (by repeat (first | (with_reducible first | exact HB.out | apply below_alloc | apply pw_below_drewN | apply below_drew1) | exact HB.out)) hb); clear HB; have HB := n0_; clear n0_; (try clear hb); (try clear hb2); (try clear hk); (try clear hi)) | ((with_reducible refine gate_callee (f := 12) rfl ?_); refine goesL_ (some 18) rfl rfl Tryd.func12 (by kernel_rfl) rfl #[.slice A1 l1.length c1] rfl (by (try simp only [List.map_toArray, List.map_cons, List.map_nil]); first | done | rfl | (simp only [List.length_drop, List.length_take]; rfl)) ?_; (with_reducible refine (dragomanlaw10_few.calls k _ _ l1 t102 _ ?side1 ?side2 A4.out).mono ?_); (case side1 => repeat (first | exact (Kd.C_below HR1.out HB.out) | (with_reducible refine Kd.C_alloc ?_ _) | (with_reducible refine Kd.C_drewN ?_ _) | (with_reducible refine Kd.C_drew ?_))); (case side2 => exact HC1.out); rintro e w' ⟨rfl, ⟨nd, rfl⟩⟩; refine ⟨_, rfl, ?_⟩))
  (try simp only [Act.put, List.setIfInBounds_toArray, List.set_cons_zero, List.set_cons_succ])
  go_cut [25] (fun v25 wc => ∃ (kq : Nat) (x25_4 : Bool), v25 = .bool x25_4 ∧ Aside0 (dragomanlaw10_ArithBrackets.j0 kq a0 l1 t101 x25_4 = some r) ∧ Aside0 (kq ≤ k) ∧ Aside0 (Below w.heap.size w wc))
  case first =>
    have H := HC5.out
    clear HC5
    by_cases c7 : t102 = true
    · subst c7
      have H1 : (dragomanlaw10_ArithBrackets.j0 k a0 l1 t101 (decide ((a0.size : Int) > 400))) = some r := by rw [if_pos rfl] at H; exact H
      clear H
      have H := H1
      clear H1
      have H' := Aside0.mk H
      clear H
      go_wp2
      go_meet
      case rel => exact ⟨_, (decide ((a0.size : Int) > 400)), (by first | rfl | (simp; done) | (simp [*]; done)), H', ⟨by first | omega | exact Nat.le_refl _⟩, ⟨by repeat (first | (with_reducible first | exact HB.out | apply below_alloc | apply pw_below_drewN | apply below_drew1) | exact HB.out)⟩⟩
    · replace c7 := Bool.eq_false_iff.mpr c7
      subst c7
      have H1 : (dragomanlaw10_ArithBrackets.j0 k a0 l1 t101 true) = some r := by rw [if_neg (show ¬ (false = true) by decide)] at H; exact H
      clear H
      have H := H1
      clear H1
      have H' := Aside0.mk H
      clear H
      go_wp2
      go_meet
      case rel => exact ⟨_, (true), (by first | rfl | (simp; done) | (simp [*]; done)), H', ⟨by first | omega | exact Nat.le_refl _⟩, ⟨by repeat (first | (with_reducible first | exact HB.out | apply below_alloc | apply pw_below_drewN | apply below_drew1) | exact HB.out)⟩⟩
  case rest =>
    clear HC5
    try clear c1
    try clear p2
    try clear c6
    try clear c7
    obtain ⟨kq, x25_4, rfl, HA, HJ4, HB⟩ := hcut
    cases kq with
    | zero => exact absurd HA.out (by simp [dragomanlaw10_ArithBrackets.j0])
    | succ kj4 =>
      have H := HA.out
      clear HA
      simp only [dragomanlaw10_ArithBrackets.j0] at H
      by_cases c8 : x25_4 = true
      · subst c8
        have H1 : (some t101) = some r := by rw [if_pos rfl] at H; exact H
        clear H
        have H := H1
        clear H1
        obtain rfl := Option.some.inj H
        go_wp2
        go_ret
        exact ⟨by first | rfl | (simp [errW_none, errW_some] <;> rfl) | (simp [*, errW_none, errW_some] <;> rfl), by repeat (first | (with_reducible first | exact HB.out | apply below_alloc | apply pw_below_drewN | apply below_drew1) | exact HB.out)⟩
      · replace c8 := Bool.eq_false_iff.mpr c8
        subst c8
        have H1 : ((arith_Eval.f kj4 a0 l1).bind fun bt103 => (if 1 + a0.size ≤ 9223372036854775807 then (if ((⟨#[40]⟩ : ByteArray) ++ a0).size + 1 ≤ 9223372036854775807 then ((arith_Eval.f kj4 (((⟨#[40]⟩ : ByteArray) ++ a0) ++ (⟨#[41]⟩ : ByteArray)) l1).bind fun bt105 => (if 3 + a0.size ≤ 9223372036854775807 then (if ((⟨#[33, 33, 40]⟩ : ByteArray) ++ a0).size + 1 ≤ 9223372036854775807 then ((arith_Eval.f kj4 (((⟨#[33, 33, 40]⟩ : ByteArray) ++ a0) ++ (⟨#[41]⟩ : ByteArray)) l1).bind fun bt107 => (if ((⟨#[40]⟩ : ByteArray) ++ a0).size + 3 ≤ 9223372036854775807 then (if (((⟨#[40]⟩ : ByteArray) ++ a0) ++ (⟨#[41, 45, 40]⟩ : ByteArray)).size + a0.size ≤ 9223372036854775807 then (if ((((⟨#[40]⟩ : ByteArray) ++ a0) ++ (⟨#[41, 45, 40]⟩ : ByteArray)) ++ a0).size + 1 ≤ 9223372036854775807 then ((arith_Eval.f kj4 (((((⟨#[40]⟩ : ByteArray) ++ a0) ++ (⟨#[41, 45, 40]⟩ : ByteArray)) ++ a0) ++ (⟨#[41]⟩ : ByteArray)) l1).bind fun bt109 => (if bt103.2 = 0 then (if bt105.2 = 7 then (dragomanlaw10_ArithBrackets.j1 kj4 t101 bt103.1 bt105.1 bt105.2 bt107.1 bt107.2 bt109.1 bt109.2 true) else (dragomanlaw10_ArithBrackets.j1 kj4 t101 bt103.1 bt105.1 bt105.2 bt107.1 bt107.2 bt109.1 bt109.2 (bt107.2 == 7))) else (dragomanlaw10_ArithBrackets.j1 kj4 t101 bt103.1 bt105.1 bt105.2 bt107.1 bt107.2 bt109.1 bt109.2 true))) else (none)) else (none)) else (none))) else (none)) else (none))) else (none)) else (none))) = some r := by rw [if_neg (show ¬ (false = true) by decide)] at H; exact H
        clear H
        have H := H1
        clear H1
        replace H := Option.bind_eq_some_iff.mp H
        obtain ⟨⟨t103, t104⟩, A90, H⟩ := H
        replace H : (if 1 + a0.size ≤ 9223372036854775807 then (if ((⟨#[40]⟩ : ByteArray) ++ a0).size + 1 ≤ 9223372036854775807 then ((arith_Eval.f kj4 (((⟨#[40]⟩ : ByteArray) ++ a0) ++ (⟨#[41]⟩ : ByteArray)) l1).bind fun bt105 => (if 3 + a0.size ≤ 9223372036854775807 then (if ((⟨#[33, 33, 40]⟩ : ByteArray) ++ a0).size + 1 ≤ 9223372036854775807 then ((arith_Eval.f kj4 (((⟨#[33, 33, 40]⟩ : ByteArray) ++ a0) ++ (⟨#[41]⟩ : ByteArray)) l1).bind fun bt107 => (if ((⟨#[40]⟩ : ByteArray) ++ a0).size + 3 ≤ 9223372036854775807 then (if (((⟨#[40]⟩ : ByteArray) ++ a0) ++ (⟨#[41, 45, 40]⟩ : ByteArray)).size + a0.size ≤ 9223372036854775807 then (if ((((⟨#[40]⟩ : ByteArray) ++ a0) ++ (⟨#[41, 45, 40]⟩ : ByteArray)) ++ a0).size + 1 ≤ 9223372036854775807 then ((arith_Eval.f kj4 (((((⟨#[40]⟩ : ByteArray) ++ a0) ++ (⟨#[41, 45, 40]⟩ : ByteArray)) ++ a0) ++ (⟨#[41]⟩ : ByteArray)) l1).bind fun bt109 => (if t104 = 0 then (if bt105.2 = 7 then (dragomanlaw10_ArithBrackets.j1 kj4 t101 t103 bt105.1 bt105.2 bt107.1 bt107.2 bt109.1 bt109.2 true) else (dragomanlaw10_ArithBrackets.j1 kj4 t101 t103 bt105.1 bt105.2 bt107.1 bt107.2 bt109.1 bt109.2 (bt107.2 == 7))) else (dragomanlaw10_ArithBrackets.j1 kj4 t101 t103 bt105.1 bt105.2 bt107.1 bt107.2 bt109.1 bt109.2 true))) else (none)) else (none)) else (none))) else (none)) else (none))) else (none)) else (none)) = some r := H
        have A9 := Aside0.mk A90
        clear A90
        by_cases c10 : 1 + a0.size ≤ 9223372036854775807
        · rw [if_pos c10] at H
          have c10b0 := eq_true c10
          have c10b1 : decide (1 + a0.size ≤ 9223372036854775807) = true := decide_eq_true c10
          try have c10b2 : (9223372036854775807 < 1 + a0.size) = False := eq_false (Nat.not_lt.2 c10)
          try (have c10b3 := c10b2; simp only [ByteArray.size_append, ByteArray.size_extract, Nat.min_self] at c10b3)
          by_cases c11 : ((⟨#[40]⟩ : ByteArray) ++ a0).size + 1 ≤ 9223372036854775807
          · rw [if_pos c11] at H
            have c11b0 := eq_true c11
            have c11b1 : decide (((⟨#[40]⟩ : ByteArray) ++ a0).size + 1 ≤ 9223372036854775807) = true := decide_eq_true c11
            try have c11b2 : (9223372036854775807 < ((⟨#[40]⟩ : ByteArray) ++ a0).size + 1) = False := eq_false (Nat.not_lt.2 c11)
            try (have c11b3 := c11b2; simp only [ByteArray.size_append, ByteArray.size_extract, Nat.min_self] at c11b3)
            have c11b4 : (9223372036854775807 < 1 + a0.size + 1) = False := by simp only [ByteArray.size_append] at c11b2; exact c11b2
            replace H := Option.bind_eq_some_iff.mp H
            obtain ⟨⟨t105, t106⟩, A120, H⟩ := H
            replace H : (if 3 + a0.size ≤ 9223372036854775807 then (if ((⟨#[33, 33, 40]⟩ : ByteArray) ++ a0).size + 1 ≤ 9223372036854775807 then ((arith_Eval.f kj4 (((⟨#[33, 33, 40]⟩ : ByteArray) ++ a0) ++ (⟨#[41]⟩ : ByteArray)) l1).bind fun bt107 => (if ((⟨#[40]⟩ : ByteArray) ++ a0).size + 3 ≤ 9223372036854775807 then (if (((⟨#[40]⟩ : ByteArray) ++ a0) ++ (⟨#[41, 45, 40]⟩ : ByteArray)).size + a0.size ≤ 9223372036854775807 then (if ((((⟨#[40]⟩ : ByteArray) ++ a0) ++ (⟨#[41, 45, 40]⟩ : ByteArray)) ++ a0).size + 1 ≤ 9223372036854775807 then ((arith_Eval.f kj4 (((((⟨#[40]⟩ : ByteArray) ++ a0) ++ (⟨#[41, 45, 40]⟩ : ByteArray)) ++ a0) ++ (⟨#[41]⟩ : ByteArray)) l1).bind fun bt109 => (if t104 = 0 then (if t106 = 7 then (dragomanlaw10_ArithBrackets.j1 kj4 t101 t103 t105 t106 bt107.1 bt107.2 bt109.1 bt109.2 true) else (dragomanlaw10_ArithBrackets.j1 kj4 t101 t103 t105 t106 bt107.1 bt107.2 bt109.1 bt109.2 (bt107.2 == 7))) else (dragomanlaw10_ArithBrackets.j1 kj4 t101 t103 t105 t106 bt107.1 bt107.2 bt109.1 bt109.2 true))) else (none)) else (none)) else (none))) else (none)) else (none)) = some r := H
            have A12 := Aside0.mk A120
            clear A120
            by_cases c13 : 3 + a0.size ≤ 9223372036854775807
            · rw [if_pos c13] at H
              have c13b0 := eq_true c13
              have c13b1 : decide (3 + a0.size ≤ 9223372036854775807) = true := decide_eq_true c13
              try have c13b2 : (9223372036854775807 < 3 + a0.size) = False := eq_false (Nat.not_lt.2 c13)
              try (have c13b3 := c13b2; simp only [ByteArray.size_append, ByteArray.size_extract, Nat.min_self] at c13b3)
              by_cases c14 : ((⟨#[33, 33, 40]⟩ : ByteArray) ++ a0).size + 1 ≤ 9223372036854775807
              · rw [if_pos c14] at H
                have c14b0 := eq_true c14
                have c14b1 : decide (((⟨#[33, 33, 40]⟩ : ByteArray) ++ a0).size + 1 ≤ 9223372036854775807) = true := decide_eq_true c14
                try have c14b2 : (9223372036854775807 < ((⟨#[33, 33, 40]⟩ : ByteArray) ++ a0).size + 1) = False := eq_false (Nat.not_lt.2 c14)
                try (have c14b3 := c14b2; simp only [ByteArray.size_append, ByteArray.size_extract, Nat.min_self] at c14b3)
                have c14b4 : (9223372036854775807 < 3 + a0.size + 1) = False := by simp only [ByteArray.size_append] at c14b2; exact c14b2
                replace H := Option.bind_eq_some_iff.mp H
                obtain ⟨⟨t107, t108⟩, A150, H⟩ := H
                replace H : (if ((⟨#[40]⟩ : ByteArray) ++ a0).size + 3 ≤ 9223372036854775807 then (if (((⟨#[40]⟩ : ByteArray) ++ a0) ++ (⟨#[41, 45, 40]⟩ : ByteArray)).size + a0.size ≤ 9223372036854775807 then (if ((((⟨#[40]⟩ : ByteArray) ++ a0) ++ (⟨#[41, 45, 40]⟩ : ByteArray)) ++ a0).size + 1 ≤ 9223372036854775807 then ((arith_Eval.f kj4 (((((⟨#[40]⟩ : ByteArray) ++ a0) ++ (⟨#[41, 45, 40]⟩ : ByteArray)) ++ a0) ++ (⟨#[41]⟩ : ByteArray)) l1).bind fun bt109 => (if t104 = 0 then (if t106 = 7 then (dragomanlaw10_ArithBrackets.j1 kj4 t101 t103 t105 t106 t107 t108 bt109.1 bt109.2 true) else (dragomanlaw10_ArithBrackets.j1 kj4 t101 t103 t105 t106 t107 t108 bt109.1 bt109.2 (t108 == 7))) else (dragomanlaw10_ArithBrackets.j1 kj4 t101 t103 t105 t106 t107 t108 bt109.1 bt109.2 true))) else (none)) else (none)) else (none)) = some r := H
                have A15 := Aside0.mk A150
                clear A150
                by_cases c16 : ((⟨#[40]⟩ : ByteArray) ++ a0).size + 3 ≤ 9223372036854775807
                · rw [if_pos c16] at H
                  have c16b0 := eq_true c16
                  have c16b1 : decide (((⟨#[40]⟩ : ByteArray) ++ a0).size + 3 ≤ 9223372036854775807) = true := decide_eq_true c16
                  try have c16b2 : (9223372036854775807 < ((⟨#[40]⟩ : ByteArray) ++ a0).size + 3) = False := eq_false (Nat.not_lt.2 c16)
                  try (have c16b3 := c16b2; simp only [ByteArray.size_append, ByteArray.size_extract, Nat.min_self] at c16b3)
                  have c16b4 : (9223372036854775807 < 1 + a0.size + 3) = False := by simp only [ByteArray.size_append] at c16b2; exact c16b2
                  by_cases c17 : (((⟨#[40]⟩ : ByteArray) ++ a0) ++ (⟨#[41, 45, 40]⟩ : ByteArray)).size + a0.size ≤ 9223372036854775807
                  · rw [if_pos c17] at H
                    have c17b0 := eq_true c17
                    have c17b1 : decide ((((⟨#[40]⟩ : ByteArray) ++ a0) ++ (⟨#[41, 45, 40]⟩ : ByteArray)).size + a0.size ≤ 9223372036854775807) = true := decide_eq_true c17
                    try have c17b2 : (9223372036854775807 < (((⟨#[40]⟩ : ByteArray) ++ a0) ++ (⟨#[41, 45, 40]⟩ : ByteArray)).size + a0.size) = False := eq_false (Nat.not_lt.2 c17)
                    try (have c17b3 := c17b2; simp only [ByteArray.size_append, ByteArray.size_extract, Nat.min_self] at c17b3)
                    have c17b4 : (9223372036854775807 < 1 + a0.size + 3 + a0.size) = False := by simp only [ByteArray.size_append] at c17b2; exact c17b2
                    by_cases c18 : ((((⟨#[40]⟩ : ByteArray) ++ a0) ++ (⟨#[41, 45, 40]⟩ : ByteArray)) ++ a0).size + 1 ≤ 9223372036854775807
                    · rw [if_pos c18] at H
                      have c18b0 := eq_true c18
                      have c18b1 : decide (((((⟨#[40]⟩ : ByteArray) ++ a0) ++ (⟨#[41, 45, 40]⟩ : ByteArray)) ++ a0).size + 1 ≤ 9223372036854775807) = true := decide_eq_true c18
                      try have c18b2 : (9223372036854775807 < ((((⟨#[40]⟩ : ByteArray) ++ a0) ++ (⟨#[41, 45, 40]⟩ : ByteArray)) ++ a0).size + 1) = False := eq_false (Nat.not_lt.2 c18)
                      try (have c18b3 := c18b2; simp only [ByteArray.size_append, ByteArray.size_extract, Nat.min_self] at c18b3)
                      have c18b4 : (9223372036854775807 < 1 + a0.size + 3 + a0.size + 1) = False := by simp only [ByteArray.size_append] at c18b2; exact c18b2
                      replace H := Option.bind_eq_some_iff.mp H
                      obtain ⟨⟨t109, t110⟩, A190, H⟩ := H
                      replace H : (if t104 = 0 then (if t106 = 7 then (dragomanlaw10_ArithBrackets.j1 kj4 t101 t103 t105 t106 t107 t108 t109 t110 true) else (dragomanlaw10_ArithBrackets.j1 kj4 t101 t103 t105 t106 t107 t108 t109 t110 (t108 == 7))) else (dragomanlaw10_ArithBrackets.j1 kj4 t101 t103 t105 t106 t107 t108 t109 t110 true)) = some r := H
                      have A19 := Aside0.mk A190
                      clear A190
                      have HC20 := Aside0.mk H
                      clear H
                      go_upto_region 9 with (first | ((with_reducible refine gate_callee (f := 13) rfl ?_); refine goesL_ (some 30) rfl rfl Tryd.func13 (by kernel_rfl) rfl #[.string a0, .slice A1 l1.length c1] rfl (by (try simp only [List.map_toArray, List.map_cons, List.map_nil]); first | done | rfl | (simp only [List.length_drop, List.length_take]; rfl)) ?_; (with_reducible refine (arith_Eval.calls kj4 a0 _ _ l1 t103 t104 _ ?side1 ?side2 ?side3 A9.out).mono ?_); (case side1 => refine GE.below hG ?_; repeat (first | (with_reducible first | exact HB.out | apply below_alloc | apply pw_below_drewN | apply below_drew1) | exact HB.out)); (case side2 => repeat (first | exact (Kd.C_below HR1.out HB.out) | (with_reducible refine Kd.C_alloc ?_ _) | (with_reducible refine Kd.C_drewN ?_ _) | (with_reducible refine Kd.C_drew ?_))); (case side3 => exact HC1.out); rintro e w21 ⟨rfl, hb⟩; refine ⟨_, rfl, ?_⟩; have n0_ := Aside0.mk (below_step (by repeat (first | (with_reducible first | exact HB.out | apply below_alloc | apply pw_below_drewN | apply below_drew1) | exact HB.out)) hb); clear HB; have HB := n0_; clear n0_; (try clear hb); (try clear hb2); (try clear hk); (try clear hi)) | ((with_reducible refine gate_callee (f := 13) rfl ?_); refine goesL_ (some 38) rfl rfl Tryd.func13 (by kernel_rfl) rfl #[.string (((⟨#[40]⟩ : ByteArray) ++ a0) ++ (⟨#[41]⟩ : ByteArray)), .slice A1 l1.length c1] rfl (by (try simp only [List.map_toArray, List.map_cons, List.map_nil]); first | done | rfl | (simp only [List.length_drop, List.length_take]; rfl)) ?_; (with_reducible refine (arith_Eval.calls kj4 (((⟨#[40]⟩ : ByteArray) ++ a0) ++ (⟨#[41]⟩ : ByteArray)) _ _ l1 t105 t106 _ ?side1 ?side2 ?side3 A12.out).mono ?_); (case side1 => refine GE.below hG ?_; repeat (first | (with_reducible first | exact HB.out | apply below_alloc | apply pw_below_drewN | apply below_drew1) | exact HB.out)); (case side2 => repeat (first | exact (Kd.C_below HR1.out HB.out) | (with_reducible refine Kd.C_alloc ?_ _) | (with_reducible refine Kd.C_drewN ?_ _) | (with_reducible refine Kd.C_drew ?_))); (case side3 => exact HC1.out); rintro e w22 ⟨rfl, hb⟩; refine ⟨_, rfl, ?_⟩; have n0_ := Aside0.mk (below_step (by repeat (first | (with_reducible first | exact HB.out | apply below_alloc | apply pw_below_drewN | apply below_drew1) | exact HB.out)) hb); clear HB; have HB := n0_; clear n0_; (try clear hb); (try clear hb2); (try clear hk); (try clear hi)) | ((with_reducible refine gate_callee (f := 13) rfl ?_); refine goesL_ (some 46) rfl rfl Tryd.func13 (by kernel_rfl) rfl #[.string (((⟨#[33, 33, 40]⟩ : ByteArray) ++ a0) ++ (⟨#[41]⟩ : ByteArray)), .slice A1 l1.length c1] rfl (by (try simp only [List.map_toArray, List.map_cons, List.map_nil]); first | done | rfl | (simp only [List.length_drop, List.length_take]; rfl)) ?_; (with_reducible refine (arith_Eval.calls kj4 (((⟨#[33, 33, 40]⟩ : ByteArray) ++ a0) ++ (⟨#[41]⟩ : ByteArray)) _ _ l1 t107 t108 _ ?side1 ?side2 ?side3 A15.out).mono ?_); (case side1 => refine GE.below hG ?_; repeat (first | (with_reducible first | exact HB.out | apply below_alloc | apply pw_below_drewN | apply below_drew1) | exact HB.out)); (case side2 => repeat (first | exact (Kd.C_below HR1.out HB.out) | (with_reducible refine Kd.C_alloc ?_ _) | (with_reducible refine Kd.C_drewN ?_ _) | (with_reducible refine Kd.C_drew ?_))); (case side3 => exact HC1.out); rintro e w23 ⟨rfl, hb⟩; refine ⟨_, rfl, ?_⟩; have n0_ := Aside0.mk (below_step (by repeat (first | (with_reducible first | exact HB.out | apply below_alloc | apply pw_below_drewN | apply below_drew1) | exact HB.out)) hb); clear HB; have HB := n0_; clear n0_; (try clear hb); (try clear hb2); (try clear hk); (try clear hi)) | ((with_reducible refine gate_callee (f := 13) rfl ?_); refine goesL_ (some 57) rfl rfl Tryd.func13 (by kernel_rfl) rfl #[.string (((((⟨#[40]⟩ : ByteArray) ++ a0) ++ (⟨#[41, 45, 40]⟩ : ByteArray)) ++ a0) ++ (⟨#[41]⟩ : ByteArray)), .slice A1 l1.length c1] rfl (by (try simp only [List.map_toArray, List.map_cons, List.map_nil]); first | done | rfl | (simp only [List.length_drop, List.length_take]; rfl)) ?_; (with_reducible refine (arith_Eval.calls kj4 (((((⟨#[40]⟩ : ByteArray) ++ a0) ++ (⟨#[41, 45, 40]⟩ : ByteArray)) ++ a0) ++ (⟨#[41]⟩ : ByteArray)) _ _ l1 t109 t110 _ ?side1 ?side2 ?side3 A19.out).mono ?_); (case side1 => refine GE.below hG ?_; repeat (first | (with_reducible first | exact HB.out | apply below_alloc | apply pw_below_drewN | apply below_drew1) | exact HB.out)); (case side2 => repeat (first | exact (Kd.C_below HR1.out HB.out) | (with_reducible refine Kd.C_alloc ?_ _) | (with_reducible refine Kd.C_drewN ?_ _) | (with_reducible refine Kd.C_drew ?_))); (case side3 => exact HC1.out); rintro e w24 ⟨rfl, hb⟩; refine ⟨_, rfl, ?_⟩; have n0_ := Aside0.mk (below_step (by repeat (first | (with_reducible first | exact HB.out | apply below_alloc | apply pw_below_drewN | apply below_drew1) | exact HB.out)) hb); clear HB; have HB := n0_; clear n0_; (try clear hb); (try clear hb2); (try clear hk); (try clear hi)))
                      (try simp only [Act.put, List.setIfInBounds_toArray, List.set_cons_zero, List.set_cons_succ])
                      go_cut [69] (fun v69 wc => ∃ (kq : Nat) (x69_19 : Bool), v69 = .bool x69_19 ∧ Aside0 (dragomanlaw10_ArithBrackets.j1 kq t101 t103 t105 t106 t107 t108 t109 t110 x69_19 = some r) ∧ Aside0 (kq ≤ kj4) ∧ Aside0 (Below w.heap.size w wc))
                      case first =>
                        have H := HC20.out
                        clear HC20
                        by_cases c25 : t104 = 0
                        · rw [if_pos c25] at H
                          have c25b0 : (t104 == 0) = true := beq_iff_eq.mpr c25
                          have c25b1 : (t104 != 0) = false := bne_eq_false_iff_eq.mpr c25
                          clear c25
                          (first | rw [c25b0] | (simp only [i64_w, i32_w]; rw [c25b0]) | skip)
                          by_cases c26 : t106 = 7
                          · rw [if_pos c26] at H
                            have c26b0 : (t106 == 7) = true := beq_iff_eq.mpr c26
                            have c26b1 : (t106 != 7) = false := bne_eq_false_iff_eq.mpr c26
                            clear c26
                            have H' := Aside0.mk H
                            clear H
                            go_wp2
                            go_meet
                            case rel => exact ⟨_, (true), (by first | rfl | (simp; done) | (simp [*]; done)), H', ⟨by have := HJ4.out; first | omega | exact Nat.le_refl _⟩, ⟨by repeat (first | (with_reducible first | exact HB.out | apply below_alloc | apply pw_below_drewN | apply below_drew1) | exact HB.out)⟩⟩
                          · rw [if_neg c26] at H
                            have c26b0 : (t106 == 7) = false := beq_eq_false_iff_ne.mpr c26
                            have c26b1 : (t106 != 7) = true := bne_iff_ne.mpr c26
                            have H' := Aside0.mk H
                            clear H
                            go_wp2
                            go_meet
                            case rel => exact ⟨_, ((t108 == 7)), (by first | rfl | (simp; done) | (simp [*]; done)), H', ⟨by have := HJ4.out; first | omega | exact Nat.le_refl _⟩, ⟨by repeat (first | (with_reducible first | exact HB.out | apply below_alloc | apply pw_below_drewN | apply below_drew1) | exact HB.out)⟩⟩
                        · rw [if_neg c25] at H
                          have c25b0 : (t104 == 0) = false := beq_eq_false_iff_ne.mpr c25
                          have c25b1 : (t104 != 0) = true := bne_iff_ne.mpr c25
                          (first | rw [c25b0] | (simp only [i64_w, i32_w]; rw [c25b0]) | skip)
                          have H' := Aside0.mk H
                          clear H
                          go_wp2
                          go_meet
                          case rel => exact ⟨_, (true), (by first | rfl | (simp; done) | (simp [*]; done)), H', ⟨by have := HJ4.out; first | omega | exact Nat.le_refl _⟩, ⟨by repeat (first | (with_reducible first | exact HB.out | apply below_alloc | apply pw_below_drewN | apply below_drew1) | exact HB.out)⟩⟩
                      case rest =>
                        clear HC20
                        try clear c1
                        try clear c2
                        try clear p2
                        try clear c6
                        try clear c7
                        try clear c8
                        try clear c10
                        try clear c10b0
                        try clear c10b1
                        try clear c10b2
                        try clear c11
                        try clear c11b0
                        try clear c11b1
                        try clear c11b2
                        try clear c12
                        try clear c13
                        try clear c13b0
                        try clear c13b1
                        try clear c13b2
                        try clear c14
                        try clear c14b0
                        try clear c14b1
                        try clear c14b2
                        try clear c16
                        try clear c16b0
                        try clear c16b1
                        try clear c16b2
                        try clear c17
                        try clear c17b0
                        try clear c17b1
                        try clear c17b2
                        try clear c18
                        try clear c18b0
                        try clear c18b1
                        try clear c18b2
                        try clear c25
                        try clear c25b0
                        try clear c25b1
                        try clear c26
                        try clear c26b0
                        try clear c26b1
                        try clear p2
                        obtain ⟨kq, x69_19, rfl, HA, HJ19, HB⟩ := hcut
                        cases kq with
                        | zero => exact absurd HA.out (by simp [dragomanlaw10_ArithBrackets.j1])
                        | succ kj19 =>
                          have H := HA.out
                          clear HA
                          simp only [dragomanlaw10_ArithBrackets.j1] at H
                          by_cases c27 : x69_19 = true
                          · subst c27
                            have H1 : (some t101) = some r := by rw [if_pos rfl] at H; exact H
                            clear H
                            have H := H1
                            clear H1
                            obtain rfl := Option.some.inj H
                            go_wp2
                            go_ret
                            exact ⟨by first | rfl | (simp [errW_none, errW_some] <;> rfl) | (simp [*, errW_none, errW_some] <;> rfl), by repeat (first | (with_reducible first | exact HB.out | apply below_alloc | apply pw_below_drewN | apply below_drew1) | exact HB.out)⟩
                          · replace c27 := Bool.eq_false_iff.mpr c27
                            subst c27
                            have H1 : (if t103 = 0 then (if t101 = true then (if t106 = 0 then (if t105 = t103 then (if t108 = 0 then (if t107 = 0 then (if t110 = 0 then (some (t109 == 0)) else (some false)) else (some false)) else (some false)) else (some false)) else (some false)) else (some false)) else (if t101 = true then (if t106 = 0 then (if t105 = t103 then (if t108 = 0 then (if t107 = 1 then (if t110 = 0 then (some (t109 == 0)) else (some false)) else (some false)) else (some false)) else (some false)) else (some false)) else (some false))) = some r := by rw [if_neg (show ¬ (false = true) by decide)] at H; exact H
                            clear H
                            have H := H1
                            clear H1
                            by_cases c28 : t103 = 0
                            · rw [if_pos c28] at H
                              have c28b0 : (t103 == 0) = true := beq_iff_eq.mpr c28
                              have c28b1 : (t103 != 0) = false := bne_eq_false_iff_eq.mpr c28
                              clear c28
                              by_cases c29 : t101 = true
                              · subst c29
                                have H1 : (if t106 = 0 then (if t105 = t103 then (if t108 = 0 then (if t107 = 0 then (if t110 = 0 then (some (t109 == 0)) else (some false)) else (some false)) else (some false)) else (some false)) else (some false)) = some r := by rw [if_pos rfl] at H; exact H
                                clear H
                                have H := H1
                                clear H1
                                by_cases c30 : t106 = 0
                                · rw [if_pos c30] at H
                                  have c30b0 : (t106 == 0) = true := beq_iff_eq.mpr c30
                                  have c30b1 : (t106 != 0) = false := bne_eq_false_iff_eq.mpr c30
                                  clear c30
                                  by_cases c31 : t105 = t103
                                  · rw [if_pos c31] at H
                                    have c31b0 : (t105 == t103) = true := beq_iff_eq.mpr c31
                                    have c31b1 : (t105 != t103) = false := bne_eq_false_iff_eq.mpr c31
                                    clear c31
                                    by_cases c32 : t108 = 0
                                    · rw [if_pos c32] at H
                                      have c32b0 : (t108 == 0) = true := beq_iff_eq.mpr c32
                                      have c32b1 : (t108 != 0) = false := bne_eq_false_iff_eq.mpr c32
                                      clear c32
                                      by_cases c33 : t107 = 0
                                      · rw [if_pos c33] at H
                                        have c33b0 : (t107 == 0) = true := beq_iff_eq.mpr c33
                                        have c33b1 : (t107 != 0) = false := bne_eq_false_iff_eq.mpr c33
                                        clear c33
                                        by_cases c34 : t110 = 0
                                        · rw [if_pos c34] at H
                                          have c34b0 : (t110 == 0) = true := beq_iff_eq.mpr c34
                                          have c34b1 : (t110 != 0) = false := bne_eq_false_iff_eq.mpr c34
                                          clear c34
                                          obtain rfl := Option.some.inj H
                                          go_wp2
                                          go_ret
                                          exact ⟨by first | rfl | (simp [errW_none, errW_some] <;> rfl) | (simp [*, errW_none, errW_some] <;> rfl), by repeat (first | (with_reducible first | exact HB.out | apply below_alloc | apply pw_below_drewN | apply below_drew1) | exact HB.out)⟩
                                        · rw [if_neg c34] at H
                                          have c34b0 : (t110 == 0) = false := beq_eq_false_iff_ne.mpr c34
                                          have c34b1 : (t110 != 0) = true := bne_iff_ne.mpr c34
                                          obtain rfl := Option.some.inj H
                                          go_wp2
                                          go_ret
                                          exact ⟨by first | rfl | (simp [errW_none, errW_some] <;> rfl) | (simp [*, errW_none, errW_some] <;> rfl), by repeat (first | (with_reducible first | exact HB.out | apply below_alloc | apply pw_below_drewN | apply below_drew1) | exact HB.out)⟩
                                      · rw [if_neg c33] at H
                                        have c33b0 : (t107 == 0) = false := beq_eq_false_iff_ne.mpr c33
                                        have c33b1 : (t107 != 0) = true := bne_iff_ne.mpr c33
                                        obtain rfl := Option.some.inj H
                                        go_wp2
                                        go_ret
                                        exact ⟨by first | rfl | (simp [errW_none, errW_some] <;> rfl) | (simp [*, errW_none, errW_some] <;> rfl), by repeat (first | (with_reducible first | exact HB.out | apply below_alloc | apply pw_below_drewN | apply below_drew1) | exact HB.out)⟩
                                    · rw [if_neg c32] at H
                                      have c32b0 : (t108 == 0) = false := beq_eq_false_iff_ne.mpr c32
                                      have c32b1 : (t108 != 0) = true := bne_iff_ne.mpr c32
                                      obtain rfl := Option.some.inj H
                                      go_wp2
                                      go_ret
                                      exact ⟨by first | rfl | (simp [errW_none, errW_some] <;> rfl) | (simp [*, errW_none, errW_some] <;> rfl), by repeat (first | (with_reducible first | exact HB.out | apply below_alloc | apply pw_below_drewN | apply below_drew1) | exact HB.out)⟩
                                  · rw [if_neg c31] at H
                                    have c31b0 : (t105 == t103) = false := beq_eq_false_iff_ne.mpr c31
                                    have c31b1 : (t105 != t103) = true := bne_iff_ne.mpr c31
                                    obtain rfl := Option.some.inj H
                                    go_wp2
                                    go_ret
                                    exact ⟨by first | rfl | (simp [errW_none, errW_some] <;> rfl) | (simp [*, errW_none, errW_some] <;> rfl), by repeat (first | (with_reducible first | exact HB.out | apply below_alloc | apply pw_below_drewN | apply below_drew1) | exact HB.out)⟩
                                · rw [if_neg c30] at H
                                  have c30b0 : (t106 == 0) = false := beq_eq_false_iff_ne.mpr c30
                                  have c30b1 : (t106 != 0) = true := bne_iff_ne.mpr c30
                                  obtain rfl := Option.some.inj H
                                  go_wp2
                                  go_ret
                                  exact ⟨by first | rfl | (simp [errW_none, errW_some] <;> rfl) | (simp [*, errW_none, errW_some] <;> rfl), by repeat (first | (with_reducible first | exact HB.out | apply below_alloc | apply pw_below_drewN | apply below_drew1) | exact HB.out)⟩
                              · replace c29 := Bool.eq_false_iff.mpr c29
                                subst c29
                                have H1 : (some false) = some r := by rw [if_neg (show ¬ (false = true) by decide)] at H; exact H
                                clear H
                                have H := H1
                                clear H1
                                obtain rfl := Option.some.inj H
                                go_wp2
                                go_ret
                                exact ⟨by first | rfl | (simp [errW_none, errW_some] <;> rfl) | (simp [*, errW_none, errW_some] <;> rfl), by repeat (first | (with_reducible first | exact HB.out | apply below_alloc | apply pw_below_drewN | apply below_drew1) | exact HB.out)⟩
                            · rw [if_neg c28] at H
                              have c28b0 : (t103 == 0) = false := beq_eq_false_iff_ne.mpr c28
                              have c28b1 : (t103 != 0) = true := bne_iff_ne.mpr c28
                              by_cases c35 : t101 = true
                              · subst c35
                                have H1 : (if t106 = 0 then (if t105 = t103 then (if t108 = 0 then (if t107 = 1 then (if t110 = 0 then (some (t109 == 0)) else (some false)) else (some false)) else (some false)) else (some false)) else (some false)) = some r := by rw [if_pos rfl] at H; exact H
                                clear H
                                have H := H1
                                clear H1
                                by_cases c36 : t106 = 0
                                · rw [if_pos c36] at H
                                  have c36b0 : (t106 == 0) = true := beq_iff_eq.mpr c36
                                  have c36b1 : (t106 != 0) = false := bne_eq_false_iff_eq.mpr c36
                                  clear c36
                                  by_cases c37 : t105 = t103
                                  · rw [if_pos c37] at H
                                    have c37b0 : (t105 == t103) = true := beq_iff_eq.mpr c37
                                    have c37b1 : (t105 != t103) = false := bne_eq_false_iff_eq.mpr c37
                                    clear c37
                                    by_cases c38 : t108 = 0
                                    · rw [if_pos c38] at H
                                      have c38b0 : (t108 == 0) = true := beq_iff_eq.mpr c38
                                      have c38b1 : (t108 != 0) = false := bne_eq_false_iff_eq.mpr c38
                                      clear c38
                                      by_cases c39 : t107 = 1
                                      · rw [if_pos c39] at H
                                        have c39b0 : (t107 == 1) = true := beq_iff_eq.mpr c39
                                        have c39b1 : (t107 != 1) = false := bne_eq_false_iff_eq.mpr c39
                                        clear c39
                                        by_cases c40 : t110 = 0
                                        · rw [if_pos c40] at H
                                          have c40b0 : (t110 == 0) = true := beq_iff_eq.mpr c40
                                          have c40b1 : (t110 != 0) = false := bne_eq_false_iff_eq.mpr c40
                                          clear c40
                                          obtain rfl := Option.some.inj H
                                          go_wp2
                                          go_ret
                                          exact ⟨by first | rfl | (simp [errW_none, errW_some] <;> rfl) | (simp [*, errW_none, errW_some] <;> rfl), by repeat (first | (with_reducible first | exact HB.out | apply below_alloc | apply pw_below_drewN | apply below_drew1) | exact HB.out)⟩
                                        · rw [if_neg c40] at H
                                          have c40b0 : (t110 == 0) = false := beq_eq_false_iff_ne.mpr c40
                                          have c40b1 : (t110 != 0) = true := bne_iff_ne.mpr c40
                                          obtain rfl := Option.some.inj H
                                          go_wp2
                                          go_ret
                                          exact ⟨by first | rfl | (simp [errW_none, errW_some] <;> rfl) | (simp [*, errW_none, errW_some] <;> rfl), by repeat (first | (with_reducible first | exact HB.out | apply below_alloc | apply pw_below_drewN | apply below_drew1) | exact HB.out)⟩
                                      · rw [if_neg c39] at H
                                        have c39b0 : (t107 == 1) = false := beq_eq_false_iff_ne.mpr c39
                                        have c39b1 : (t107 != 1) = true := bne_iff_ne.mpr c39
                                        obtain rfl := Option.some.inj H
                                        go_wp2
                                        go_ret
                                        exact ⟨by first | rfl | (simp [errW_none, errW_some] <;> rfl) | (simp [*, errW_none, errW_some] <;> rfl), by repeat (first | (with_reducible first | exact HB.out | apply below_alloc | apply pw_below_drewN | apply below_drew1) | exact HB.out)⟩
                                    · rw [if_neg c38] at H
                                      have c38b0 : (t108 == 0) = false := beq_eq_false_iff_ne.mpr c38
                                      have c38b1 : (t108 != 0) = true := bne_iff_ne.mpr c38
                                      obtain rfl := Option.some.inj H
                                      go_wp2
                                      go_ret
                                      exact ⟨by first | rfl | (simp [errW_none, errW_some] <;> rfl) | (simp [*, errW_none, errW_some] <;> rfl), by repeat (first | (with_reducible first | exact HB.out | apply below_alloc | apply pw_below_drewN | apply below_drew1) | exact HB.out)⟩
                                  · rw [if_neg c37] at H
                                    have c37b0 : (t105 == t103) = false := beq_eq_false_iff_ne.mpr c37
                                    have c37b1 : (t105 != t103) = true := bne_iff_ne.mpr c37
                                    obtain rfl := Option.some.inj H
                                    go_wp2
                                    go_ret
                                    exact ⟨by first | rfl | (simp [errW_none, errW_some] <;> rfl) | (simp [*, errW_none, errW_some] <;> rfl), by repeat (first | (with_reducible first | exact HB.out | apply below_alloc | apply pw_below_drewN | apply below_drew1) | exact HB.out)⟩
                                · rw [if_neg c36] at H
                                  have c36b0 : (t106 == 0) = false := beq_eq_false_iff_ne.mpr c36
                                  have c36b1 : (t106 != 0) = true := bne_iff_ne.mpr c36
                                  obtain rfl := Option.some.inj H
                                  go_wp2
                                  go_ret
                                  exact ⟨by first | rfl | (simp [errW_none, errW_some] <;> rfl) | (simp [*, errW_none, errW_some] <;> rfl), by repeat (first | (with_reducible first | exact HB.out | apply below_alloc | apply pw_below_drewN | apply below_drew1) | exact HB.out)⟩
                              · replace c35 := Bool.eq_false_iff.mpr c35
                                subst c35
                                have H1 : (some false) = some r := by rw [if_neg (show ¬ (false = true) by decide)] at H; exact H
                                clear H
                                have H := H1
                                clear H1
                                obtain rfl := Option.some.inj H
                                go_wp2
                                go_ret
                                exact ⟨by first | rfl | (simp [errW_none, errW_some] <;> rfl) | (simp [*, errW_none, errW_some] <;> rfl), by repeat (first | (with_reducible first | exact HB.out | apply below_alloc | apply pw_below_drewN | apply below_drew1) | exact HB.out)⟩
                    · rw [if_neg c18] at H
                      exact absurd H (by simp)
                  · rw [if_neg c17] at H
                    exact absurd H (by simp)
                · rw [if_neg c16] at H
                  exact absurd H (by simp)
              · rw [if_neg c14] at H
                exact absurd H (by simp)
            · rw [if_neg c13] at H
              exact absurd H (by simp)
          · rw [if_neg c11] at H
            exact absurd H (by simp)
        · rw [if_neg c10] at H
          exact absurd H (by simp)

end Go.Proofs.YtambnodgfhlpfaaDoor.QD
