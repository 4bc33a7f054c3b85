/- The Go functions of this part as Lean functions, each with a proof that a call of it comes to just what the Lean function does. Written by a program of the session's. Conditions: none but those in each theorem. -/
import Derived.Test.YthnfmpieoondaaaVQAx0
namespace Go.Proofs.Ythnfmpieoondaaa.QA
open Go.Proofs.Ythnfmpieoondaaa.G
open Go.RowKit Go.Proofs.YthnfmpieoondaaaW.PrintWords Go.Proofs.YthnfmpieoondaaaW.PrintLast Go.Proofs.YthnfmpieoondaaaW.PrintMore
attribute [local go_sem] max2_int min2_int max_two min_two max_three min_three max_four min_four   -- for this text's walks alone
attribute [local go_sem ↓] ix28_0 ix28_1 ia28_0 ia28_1
set_option linter.unusedVariables false
set_option linter.unusedSimpArgs false

/-! ### dragomanref06_parent: function 72 -/
def dragomanref06_parent.l0 : Nat → List (S55) → Int → Int → Option (Int)
  | 0, _, _, _ => none
  | k + 1, x0, x1, x5 => if x5 < (x0.length : Int) then (if 0 ≤ x5 then (if ((rd_T55 x0 x5).f0) ≥ 2 then (if ((rd_T55 x0 x5).f0) ≤ 6 then (if ((rd_T55 x0 x5).f2.f0) = x1 then (some x5) else (if ((rd_T55 x0 x5).f0) = 2 then (if ((rd_T55 x0 x5).f2.f1) = x1 then (some x5) else (dragomanref06_parent.l0 k x0 x1 (wrap64 (x5 + 1)))) else (if ((rd_T55 x0 x5).f0) = 3 then (if ((rd_T55 x0 x5).f2.f1) = x1 then (some x5) else (dragomanref06_parent.l0 k x0 x1 (wrap64 (x5 + 1)))) else (dragomanref06_parent.l0 k x0 x1 (wrap64 (x5 + 1)))))) else (if ((rd_T55 x0 x5).f0) = 2 then (if ((rd_T55 x0 x5).f2.f1) = x1 then (some x5) else (dragomanref06_parent.l0 k x0 x1 (wrap64 (x5 + 1)))) else (if ((rd_T55 x0 x5).f0) = 3 then (if ((rd_T55 x0 x5).f2.f1) = x1 then (some x5) else (dragomanref06_parent.l0 k x0 x1 (wrap64 (x5 + 1)))) else (dragomanref06_parent.l0 k x0 x1 (wrap64 (x5 + 1)))))) else (if ((rd_T55 x0 x5).f0) = 2 then (if ((rd_T55 x0 x5).f2.f1) = x1 then (some x5) else (dragomanref06_parent.l0 k x0 x1 (wrap64 (x5 + 1)))) else (if ((rd_T55 x0 x5).f0) = 3 then (if ((rd_T55 x0 x5).f2.f1) = x1 then (some x5) else (dragomanref06_parent.l0 k x0 x1 (wrap64 (x5 + 1)))) else (dragomanref06_parent.l0 k x0 x1 (wrap64 (x5 + 1)))))) else (none)) else (some (-1))
def dragomanref06_parent.f (k : Nat) (l0 : List (S55)) (a1 : Int) : Option (Int) := dragomanref06_parent.l0 k l0 a1 (wrap64 (a1 + 1))
theorem dragomanref06_parent.mono_l : ∀ k, (∀ y0 y1 y2, LeO (dragomanref06_parent.l0 k y0 y1 y2) (dragomanref06_parent.l0 (k + 1) y0 y1 y2))
  | 0 => fun _ _ _ r h => by simp [dragomanref06_parent.l0] at h
  | k + 1 => by
    have ih0 := dragomanref06_parent.mono_l k
    · intro y0 y1 y2
      unfold dragomanref06_parent.l0
      repeat' first
      | (with_reducible exact ih0 _ _ _)
      | (with_reducible exact LeO.refl _)
      | (with_reducible exact LeO.none _)
      | (with_reducible refine LeO.ite ?_ ?_)
      | (with_reducible refine LeO.bind ?_ (fun _ => ?_))
      | exact ih0 _ _ _
      | exact LeO.none _
      | refine LeO.ite ?_ ?_
      | refine LeO.bind ?_ (fun _ => ?_)
theorem dragomanref06_parent.mono : ∀ a0 a1 k, LeO (dragomanref06_parent.f k a0 a1) (dragomanref06_parent.f (k + 1) a0 a1) := by
  intro a0 a1 k
  have ih0 := dragomanref06_parent.mono_l k
  unfold dragomanref06_parent.f
  repeat' first
      | (with_reducible exact ih0 _ _ _)
      | (with_reducible exact LeO.refl _)
      | (with_reducible exact LeO.none _)
      | (with_reducible refine LeO.ite ?_ ?_)
      | (with_reducible refine LeO.bind ?_ (fun _ => ?_))
      | exact ih0 _ _ _
      | exact LeO.none _
      | refine LeO.ite ?_ ?_
      | refine LeO.bind ?_ (fun _ => ?_)
set_option maxHeartbeats 8000000 in
set_option maxRecDepth 100000 in
theorem dragomanref06_parent.calls (k : Nat) (A0 : Option Addr) (c0 : Nat) (l0 : List (S55)) (a1 : Int) (r : Int) (w : World) (hr0 : Kd.C k55 w A0 l0.length l0) (hc0 : l0.length ≤ c0) (h : dragomanref06_parent.f k l0 a1 = some r) :
    Calls Try.prog 72 #[.slice A0 l0.length c0, .int .i64 a1] w fun e w' => e = .returned (.int .i64 r) ∧ Drawn0 w w' := by
  have HR0 := Aside0.mk hr0
  have HC0 := Aside0.mk hc0
  clear hr0 hc0
  have H : (dragomanref06_parent.l0 k l0 a1 (wrap64 (a1 + 1))) = some r := h
  clear h
  have H' := Aside0.mk H
  clear H
  go_enter Try.func72, Try.ntmps72
  go_wp2
  go_loopg [5] k (fun kq v5 w' => ∃ (x5_1 : Int), v5 = .int .i64 x5_1 ∧ Aside0 (dragomanref06_parent.l0 kq l0 a1 x5_1 = some r) ∧ Aside0 (kq ≤ k) ∧ Drawn0 w w')
  case atStart => exact ⟨(wrap64 (a1 + 1)), (by first | rfl | (simp; done) | (simp [*]; done)), H', ⟨Nat.le_refl _⟩, by repeat (first | exact Drawn0.refl _ | apply Drawn0.step)⟩
  case round =>
    clear H'
    try clear p2
    obtain ⟨x5_1, rfl, HA, HK1, ⟨m1, rfl⟩⟩ := hrel
    cases gk with
    | zero => exact absurd HA.out (by simp [dragomanref06_parent.l0])
    | succ k1 =>
      have H := HA.out
      clear HA
      simp only [dragomanref06_parent.l0] at H
      by_cases c3 : x5_1 < (l0.length : Int)
      · rw [if_pos c3] at H
        have c3b0 : decide (x5_1 < (l0.length : Int)) = true := decide_eq_true c3
        clear c3
        by_cases c4 : 0 ≤ x5_1
        · rw [if_pos c4] at H
          have c4b0 : decide (0 ≤ x5_1) = true := decide_eq_true c4
          clear c4
          by_cases c5 : ((rd_T55 l0 x5_1).f0) ≥ 2
          · rw [if_pos c5] at H
            have c5b0 : decide (2 ≤ ((rd_T55 l0 x5_1).f0)) = true := decide_eq_true c5
            clear c5
            by_cases c6 : ((rd_T55 l0 x5_1).f0) ≤ 6
            · rw [if_pos c6] at H
              have c6b0 : decide (((rd_T55 l0 x5_1).f0) ≤ 6) = true := decide_eq_true c6
              clear c6
              by_cases c7 : ((rd_T55 l0 x5_1).f2.f0) = a1
              · rw [if_pos c7] at H
                have c7b0 : (((rd_T55 l0 x5_1).f2.f0) == a1) = true := beq_iff_eq.mpr c7
                have c7b1 : (((rd_T55 l0 x5_1).f2.f0) != a1) = false := bne_eq_false_iff_eq.mpr c7
                clear c7
                obtain rfl := Option.some.inj H
                have p111 : 0 ≤ (x5_1 : Int) := of_decide_eq_true (by first | (with_reducible assumption) | assumption)
                have q111 : x5_1 < (l0.length : Int) := of_decide_eq_true (by first | (with_reducible assumption) | assumption)
                obtain ⟨ad111, e111, hx111_0, hx111_1, hx111_2, hx111_3, hx111_4, hx111_5, hx111_6⟩ := at_T55 HR0.out x5_1 p111 q111
                cases e111
                replace p111 := eq_true p111
                replace q111 := eq_true q111
                have p112 : 0 ≤ (x5_1 : Int) := of_decide_eq_true (by first | (with_reducible assumption) | assumption)
                have q112 : x5_1 < (l0.length : Int) := of_decide_eq_true (by first | (with_reducible assumption) | assumption)
                obtain ⟨ad112, e112, hx112_0, hx112_1, hx112_2, hx112_3, hx112_4, hx112_5, hx112_6⟩ := at_T55 HR0.out x5_1 p112 q112
                obtain rfl : ad111 = ad112 := (by injection e112)
                replace p112 := eq_true p112
                replace q112 := eq_true q112
                go_wp2
                go_ret
                exact ⟨by first | rfl | (simp; done) | (simp [*]; done), by repeat (first | exact Drawn0.refl _ | apply Drawn0.step)⟩
              · rw [if_neg c7] at H
                have c7b0 : (((rd_T55 l0 x5_1).f2.f0) == a1) = false := beq_eq_false_iff_ne.mpr c7
                have c7b1 : (((rd_T55 l0 x5_1).f2.f0) != a1) = true := bne_iff_ne.mpr c7
                by_cases c8 : ((rd_T55 l0 x5_1).f0) = 2
                · rw [if_pos c8] at H
                  have c8b0 : (((rd_T55 l0 x5_1).f0) == 2) = true := beq_iff_eq.mpr c8
                  have c8b1 : (((rd_T55 l0 x5_1).f0) != 2) = false := bne_eq_false_iff_eq.mpr c8
                  clear c8
                  by_cases c9 : ((rd_T55 l0 x5_1).f2.f1) = a1
                  · rw [if_pos c9] at H
                    have c9b0 : (((rd_T55 l0 x5_1).f2.f1) == a1) = true := beq_iff_eq.mpr c9
                    have c9b1 : (((rd_T55 l0 x5_1).f2.f1) != a1) = false := bne_eq_false_iff_eq.mpr c9
                    clear c9
                    obtain rfl := Option.some.inj H
                    have p111 : 0 ≤ (x5_1 : Int) := of_decide_eq_true (by first | (with_reducible assumption) | assumption)
                    have q111 : x5_1 < (l0.length : Int) := of_decide_eq_true (by first | (with_reducible assumption) | assumption)
                    obtain ⟨ad111, e111, hx111_0, hx111_1, hx111_2, hx111_3, hx111_4, hx111_5, hx111_6⟩ := at_T55 HR0.out x5_1 p111 q111
                    cases e111
                    replace p111 := eq_true p111
                    replace q111 := eq_true q111
                    have p112 : 0 ≤ (x5_1 : Int) := of_decide_eq_true (by first | (with_reducible assumption) | assumption)
                    have q112 : x5_1 < (l0.length : Int) := of_decide_eq_true (by first | (with_reducible assumption) | assumption)
                    obtain ⟨ad112, e112, hx112_0, hx112_1, hx112_2, hx112_3, hx112_4, hx112_5, hx112_6⟩ := at_T55 HR0.out x5_1 p112 q112
                    obtain rfl : ad111 = ad112 := (by injection e112)
                    replace p112 := eq_true p112
                    replace q112 := eq_true q112
                    have p113 : 0 ≤ (x5_1 : Int) := of_decide_eq_true (by first | (with_reducible assumption) | assumption)
                    have q113 : x5_1 < (l0.length : Int) := of_decide_eq_true (by first | (with_reducible assumption) | assumption)
                    obtain ⟨ad113, e113, hx113_0, hx113_1, hx113_2, hx113_3, hx113_4, hx113_5, hx113_6⟩ := at_T55 HR0.out x5_1 p113 q113
                    obtain rfl : ad111 = ad113 := (by injection e113)
                    replace p113 := eq_true p113
                    replace q113 := eq_true q113
                    go_wp2
                    go_ret
                    exact ⟨by first | rfl | (simp; done) | (simp [*]; done), by repeat (first | exact Drawn0.refl _ | apply Drawn0.step)⟩
                  · rw [if_neg c9] at H
                    have c9b0 : (((rd_T55 l0 x5_1).f2.f1) == a1) = false := beq_eq_false_iff_ne.mpr c9
                    have c9b1 : (((rd_T55 l0 x5_1).f2.f1) != a1) = true := bne_iff_ne.mpr c9
                    have H' := Aside0.mk H
                    clear H
                    have p111 : 0 ≤ (x5_1 : Int) := of_decide_eq_true (by first | (with_reducible assumption) | assumption)
                    have q111 : x5_1 < (l0.length : Int) := of_decide_eq_true (by first | (with_reducible assumption) | assumption)
                    obtain ⟨ad111, e111, hx111_0, hx111_1, hx111_2, hx111_3, hx111_4, hx111_5, hx111_6⟩ := at_T55 HR0.out x5_1 p111 q111
                    cases e111
                    replace p111 := eq_true p111
                    replace q111 := eq_true q111
                    have p112 : 0 ≤ (x5_1 : Int) := of_decide_eq_true (by first | (with_reducible assumption) | assumption)
                    have q112 : x5_1 < (l0.length : Int) := of_decide_eq_true (by first | (with_reducible assumption) | assumption)
                    obtain ⟨ad112, e112, hx112_0, hx112_1, hx112_2, hx112_3, hx112_4, hx112_5, hx112_6⟩ := at_T55 HR0.out x5_1 p112 q112
                    obtain rfl : ad111 = ad112 := (by injection e112)
                    replace p112 := eq_true p112
                    replace q112 := eq_true q112
                    have p113 : 0 ≤ (x5_1 : Int) := of_decide_eq_true (by first | (with_reducible assumption) | assumption)
                    have q113 : x5_1 < (l0.length : Int) := of_decide_eq_true (by first | (with_reducible assumption) | assumption)
                    obtain ⟨ad113, e113, hx113_0, hx113_1, hx113_2, hx113_3, hx113_4, hx113_5, hx113_6⟩ := at_T55 HR0.out x5_1 p113 q113
                    obtain rfl : ad111 = ad113 := (by injection e113)
                    replace p113 := eq_true p113
                    replace q113 := eq_true q113
                    go_wp2
                    go_roundg k1
                    case measure => have := HK1.out; omega
                    case rel => exact ⟨(wrap64 (x5_1 + 1)), (by first | rfl | (simp; done) | (simp [*]; done)), H', ⟨by have := HK1.out; omega⟩, by repeat (first | exact Drawn0.refl _ | apply Drawn0.step)⟩
                · rw [if_neg c8] at H
                  have c8b0 : (((rd_T55 l0 x5_1).f0) == 2) = false := beq_eq_false_iff_ne.mpr c8
                  have c8b1 : (((rd_T55 l0 x5_1).f0) != 2) = true := bne_iff_ne.mpr c8
                  by_cases c10 : ((rd_T55 l0 x5_1).f0) = 3
                  · rw [if_pos c10] at H
                    have c10b0 : (((rd_T55 l0 x5_1).f0) == 3) = true := beq_iff_eq.mpr c10
                    have c10b1 : (((rd_T55 l0 x5_1).f0) != 3) = false := bne_eq_false_iff_eq.mpr c10
                    clear c10
                    by_cases c11 : ((rd_T55 l0 x5_1).f2.f1) = a1
                    · rw [if_pos c11] at H
                      have c11b0 : (((rd_T55 l0 x5_1).f2.f1) == a1) = true := beq_iff_eq.mpr c11
                      have c11b1 : (((rd_T55 l0 x5_1).f2.f1) != a1) = false := bne_eq_false_iff_eq.mpr c11
                      clear c11
                      obtain rfl := Option.some.inj H
                      have p111 : 0 ≤ (x5_1 : Int) := of_decide_eq_true (by first | (with_reducible assumption) | assumption)
                      have q111 : x5_1 < (l0.length : Int) := of_decide_eq_true (by first | (with_reducible assumption) | assumption)
                      obtain ⟨ad111, e111, hx111_0, hx111_1, hx111_2, hx111_3, hx111_4, hx111_5, hx111_6⟩ := at_T55 HR0.out x5_1 p111 q111
                      cases e111
                      replace p111 := eq_true p111
                      replace q111 := eq_true q111
                      have p112 : 0 ≤ (x5_1 : Int) := of_decide_eq_true (by first | (with_reducible assumption) | assumption)
                      have q112 : x5_1 < (l0.length : Int) := of_decide_eq_true (by first | (with_reducible assumption) | assumption)
                      obtain ⟨ad112, e112, hx112_0, hx112_1, hx112_2, hx112_3, hx112_4, hx112_5, hx112_6⟩ := at_T55 HR0.out x5_1 p112 q112
                      obtain rfl : ad111 = ad112 := (by injection e112)
                      replace p112 := eq_true p112
                      replace q112 := eq_true q112
                      have p114 : 0 ≤ (x5_1 : Int) := of_decide_eq_true (by first | (with_reducible assumption) | assumption)
                      have q114 : x5_1 < (l0.length : Int) := of_decide_eq_true (by first | (with_reducible assumption) | assumption)
                      obtain ⟨ad114, e114, hx114_0, hx114_1, hx114_2, hx114_3, hx114_4, hx114_5, hx114_6⟩ := at_T55 HR0.out x5_1 p114 q114
                      obtain rfl : ad111 = ad114 := (by injection e114)
                      replace p114 := eq_true p114
                      replace q114 := eq_true q114
                      go_wp2
                      go_ret
                      exact ⟨by first | rfl | (simp; done) | (simp [*]; done), by repeat (first | exact Drawn0.refl _ | apply Drawn0.step)⟩
                    · rw [if_neg c11] at H
                      have c11b0 : (((rd_T55 l0 x5_1).f2.f1) == a1) = false := beq_eq_false_iff_ne.mpr c11
                      have c11b1 : (((rd_T55 l0 x5_1).f2.f1) != a1) = true := bne_iff_ne.mpr c11
                      have H' := Aside0.mk H
                      clear H
                      have p111 : 0 ≤ (x5_1 : Int) := of_decide_eq_true (by first | (with_reducible assumption) | assumption)
                      have q111 : x5_1 < (l0.length : Int) := of_decide_eq_true (by first | (with_reducible assumption) | assumption)
                      obtain ⟨ad111, e111, hx111_0, hx111_1, hx111_2, hx111_3, hx111_4, hx111_5, hx111_6⟩ := at_T55 HR0.out x5_1 p111 q111
                      cases e111
                      replace p111 := eq_true p111
                      replace q111 := eq_true q111
                      have p112 : 0 ≤ (x5_1 : Int) := of_decide_eq_true (by first | (with_reducible assumption) | assumption)
                      have q112 : x5_1 < (l0.length : Int) := of_decide_eq_true (by first | (with_reducible assumption) | assumption)
                      obtain ⟨ad112, e112, hx112_0, hx112_1, hx112_2, hx112_3, hx112_4, hx112_5, hx112_6⟩ := at_T55 HR0.out x5_1 p112 q112
                      obtain rfl : ad111 = ad112 := (by injection e112)
                      replace p112 := eq_true p112
                      replace q112 := eq_true q112
                      have p114 : 0 ≤ (x5_1 : Int) := of_decide_eq_true (by first | (with_reducible assumption) | assumption)
                      have q114 : x5_1 < (l0.length : Int) := of_decide_eq_true (by first | (with_reducible assumption) | assumption)
                      obtain ⟨ad114, e114, hx114_0, hx114_1, hx114_2, hx114_3, hx114_4, hx114_5, hx114_6⟩ := at_T55 HR0.out x5_1 p114 q114
                      obtain rfl : ad111 = ad114 := (by injection e114)
                      replace p114 := eq_true p114
                      replace q114 := eq_true q114
                      go_wp2
                      go_roundg k1
                      case measure => have := HK1.out; omega
                      case rel => exact ⟨(wrap64 (x5_1 + 1)), (by first | rfl | (simp; done) | (simp [*]; done)), H', ⟨by have := HK1.out; omega⟩, by repeat (first | exact Drawn0.refl _ | apply Drawn0.step)⟩
                  · rw [if_neg c10] at H
                    have c10b0 : (((rd_T55 l0 x5_1).f0) == 3) = false := beq_eq_false_iff_ne.mpr c10
                    have c10b1 : (((rd_T55 l0 x5_1).f0) != 3) = true := bne_iff_ne.mpr c10
                    have H' := Aside0.mk H
                    clear H
                    have p111 : 0 ≤ (x5_1 : Int) := of_decide_eq_true (by first | (with_reducible assumption) | assumption)
                    have q111 : x5_1 < (l0.length : Int) := of_decide_eq_true (by first | (with_reducible assumption) | assumption)
                    obtain ⟨ad111, e111, hx111_0, hx111_1, hx111_2, hx111_3, hx111_4, hx111_5, hx111_6⟩ := at_T55 HR0.out x5_1 p111 q111
                    cases e111
                    replace p111 := eq_true p111
                    replace q111 := eq_true q111
                    have p112 : 0 ≤ (x5_1 : Int) := of_decide_eq_true (by first | (with_reducible assumption) | assumption)
                    have q112 : x5_1 < (l0.length : Int) := of_decide_eq_true (by first | (with_reducible assumption) | assumption)
                    obtain ⟨ad112, e112, hx112_0, hx112_1, hx112_2, hx112_3, hx112_4, hx112_5, hx112_6⟩ := at_T55 HR0.out x5_1 p112 q112
                    obtain rfl : ad111 = ad112 := (by injection e112)
                    replace p112 := eq_true p112
                    replace q112 := eq_true q112
                    go_wp2
                    go_roundg k1
                    case measure => have := HK1.out; omega
                    case rel => exact ⟨(wrap64 (x5_1 + 1)), (by first | rfl | (simp; done) | (simp [*]; done)), H', ⟨by have := HK1.out; omega⟩, by repeat (first | exact Drawn0.refl _ | apply Drawn0.step)⟩
            · rw [if_neg c6] at H
              have c6b0 : decide (((rd_T55 l0 x5_1).f0) ≤ 6) = false := decide_eq_false c6
              clear c6
              by_cases c12 : ((rd_T55 l0 x5_1).f0) = 2
              · rw [if_pos c12] at H
                have c12b0 : (((rd_T55 l0 x5_1).f0) == 2) = true := beq_iff_eq.mpr c12
                have c12b1 : (((rd_T55 l0 x5_1).f0) != 2) = false := bne_eq_false_iff_eq.mpr c12
                clear c12
                by_cases c13 : ((rd_T55 l0 x5_1).f2.f1) = a1
                · rw [if_pos c13] at H
                  have c13b0 : (((rd_T55 l0 x5_1).f2.f1) == a1) = true := beq_iff_eq.mpr c13
                  have c13b1 : (((rd_T55 l0 x5_1).f2.f1) != a1) = false := bne_eq_false_iff_eq.mpr c13
                  clear c13
                  obtain rfl := Option.some.inj H
                  have p111 : 0 ≤ (x5_1 : Int) := of_decide_eq_true (by first | (with_reducible assumption) | assumption)
                  have q111 : x5_1 < (l0.length : Int) := of_decide_eq_true (by first | (with_reducible assumption) | assumption)
                  obtain ⟨ad111, e111, hx111_0, hx111_1, hx111_2, hx111_3, hx111_4, hx111_5, hx111_6⟩ := at_T55 HR0.out x5_1 p111 q111
                  cases e111
                  replace p111 := eq_true p111
                  replace q111 := eq_true q111
                  have p115 : 0 ≤ (x5_1 : Int) := of_decide_eq_true (by first | (with_reducible assumption) | assumption)
                  have q115 : x5_1 < (l0.length : Int) := of_decide_eq_true (by first | (with_reducible assumption) | assumption)
                  obtain ⟨ad115, e115, hx115_0, hx115_1, hx115_2, hx115_3, hx115_4, hx115_5, hx115_6⟩ := at_T55 HR0.out x5_1 p115 q115
                  obtain rfl : ad111 = ad115 := (by injection e115)
                  replace p115 := eq_true p115
                  replace q115 := eq_true q115
                  go_wp2
                  go_ret
                  exact ⟨by first | rfl | (simp; done) | (simp [*]; done), by repeat (first | exact Drawn0.refl _ | apply Drawn0.step)⟩
                · rw [if_neg c13] at H
                  have c13b0 : (((rd_T55 l0 x5_1).f2.f1) == a1) = false := beq_eq_false_iff_ne.mpr c13
                  have c13b1 : (((rd_T55 l0 x5_1).f2.f1) != a1) = true := bne_iff_ne.mpr c13
                  have H' := Aside0.mk H
                  clear H
                  have p111 : 0 ≤ (x5_1 : Int) := of_decide_eq_true (by first | (with_reducible assumption) | assumption)
                  have q111 : x5_1 < (l0.length : Int) := of_decide_eq_true (by first | (with_reducible assumption) | assumption)
                  obtain ⟨ad111, e111, hx111_0, hx111_1, hx111_2, hx111_3, hx111_4, hx111_5, hx111_6⟩ := at_T55 HR0.out x5_1 p111 q111
                  cases e111
                  replace p111 := eq_true p111
                  replace q111 := eq_true q111
                  have p115 : 0 ≤ (x5_1 : Int) := of_decide_eq_true (by first | (with_reducible assumption) | assumption)
                  have q115 : x5_1 < (l0.length : Int) := of_decide_eq_true (by first | (with_reducible assumption) | assumption)
                  obtain ⟨ad115, e115, hx115_0, hx115_1, hx115_2, hx115_3, hx115_4, hx115_5, hx115_6⟩ := at_T55 HR0.out x5_1 p115 q115
                  obtain rfl : ad111 = ad115 := (by injection e115)
                  replace p115 := eq_true p115
                  replace q115 := eq_true q115
                  go_wp2
                  go_roundg k1
                  case measure => have := HK1.out; omega
                  case rel => exact ⟨(wrap64 (x5_1 + 1)), (by first | rfl | (simp; done) | (simp [*]; done)), H', ⟨by have := HK1.out; omega⟩, by repeat (first | exact Drawn0.refl _ | apply Drawn0.step)⟩
              · rw [if_neg c12] at H
                have c12b0 : (((rd_T55 l0 x5_1).f0) == 2) = false := beq_eq_false_iff_ne.mpr c12
                have c12b1 : (((rd_T55 l0 x5_1).f0) != 2) = true := bne_iff_ne.mpr c12
                by_cases c14 : ((rd_T55 l0 x5_1).f0) = 3
                · rw [if_pos c14] at H
                  have c14b0 : (((rd_T55 l0 x5_1).f0) == 3) = true := beq_iff_eq.mpr c14
                  have c14b1 : (((rd_T55 l0 x5_1).f0) != 3) = false := bne_eq_false_iff_eq.mpr c14
                  clear c14
                  by_cases c15 : ((rd_T55 l0 x5_1).f2.f1) = a1
                  · rw [if_pos c15] at H
                    have c15b0 : (((rd_T55 l0 x5_1).f2.f1) == a1) = true := beq_iff_eq.mpr c15
                    have c15b1 : (((rd_T55 l0 x5_1).f2.f1) != a1) = false := bne_eq_false_iff_eq.mpr c15
                    clear c15
                    obtain rfl := Option.some.inj H
                    have p111 : 0 ≤ (x5_1 : Int) := of_decide_eq_true (by first | (with_reducible assumption) | assumption)
                    have q111 : x5_1 < (l0.length : Int) := of_decide_eq_true (by first | (with_reducible assumption) | assumption)
                    obtain ⟨ad111, e111, hx111_0, hx111_1, hx111_2, hx111_3, hx111_4, hx111_5, hx111_6⟩ := at_T55 HR0.out x5_1 p111 q111
                    cases e111
                    replace p111 := eq_true p111
                    replace q111 := eq_true q111
                    have p116 : 0 ≤ (x5_1 : Int) := of_decide_eq_true (by first | (with_reducible assumption) | assumption)
                    have q116 : x5_1 < (l0.length : Int) := of_decide_eq_true (by first | (with_reducible assumption) | assumption)
                    obtain ⟨ad116, e116, hx116_0, hx116_1, hx116_2, hx116_3, hx116_4, hx116_5, hx116_6⟩ := at_T55 HR0.out x5_1 p116 q116
                    obtain rfl : ad111 = ad116 := (by injection e116)
                    replace p116 := eq_true p116
                    replace q116 := eq_true q116
                    go_wp2
                    go_ret
                    exact ⟨by first | rfl | (simp; done) | (simp [*]; done), by repeat (first | exact Drawn0.refl _ | apply Drawn0.step)⟩
                  · rw [if_neg c15] at H
                    have c15b0 : (((rd_T55 l0 x5_1).f2.f1) == a1) = false := beq_eq_false_iff_ne.mpr c15
                    have c15b1 : (((rd_T55 l0 x5_1).f2.f1) != a1) = true := bne_iff_ne.mpr c15
                    have H' := Aside0.mk H
                    clear H
                    have p111 : 0 ≤ (x5_1 : Int) := of_decide_eq_true (by first | (with_reducible assumption) | assumption)
                    have q111 : x5_1 < (l0.length : Int) := of_decide_eq_true (by first | (with_reducible assumption) | assumption)
                    obtain ⟨ad111, e111, hx111_0, hx111_1, hx111_2, hx111_3, hx111_4, hx111_5, hx111_6⟩ := at_T55 HR0.out x5_1 p111 q111
                    cases e111
                    replace p111 := eq_true p111
                    replace q111 := eq_true q111
                    have p116 : 0 ≤ (x5_1 : Int) := of_decide_eq_true (by first | (with_reducible assumption) | assumption)
                    have q116 : x5_1 < (l0.length : Int) := of_decide_eq_true (by first | (with_reducible assumption) | assumption)
                    obtain ⟨ad116, e116, hx116_0, hx116_1, hx116_2, hx116_3, hx116_4, hx116_5, hx116_6⟩ := at_T55 HR0.out x5_1 p116 q116
                    obtain rfl : ad111 = ad116 := (by injection e116)
                    replace p116 := eq_true p116
                    replace q116 := eq_true q116
                    go_wp2
                    go_roundg k1
                    case measure => have := HK1.out; omega
                    case rel => exact ⟨(wrap64 (x5_1 + 1)), (by first | rfl | (simp; done) | (simp [*]; done)), H', ⟨by have := HK1.out; omega⟩, by repeat (first | exact Drawn0.refl _ | apply Drawn0.step)⟩
                · rw [if_neg c14] at H
                  have c14b0 : (((rd_T55 l0 x5_1).f0) == 3) = false := beq_eq_false_iff_ne.mpr c14
                  have c14b1 : (((rd_T55 l0 x5_1).f0) != 3) = true := bne_iff_ne.mpr c14
                  have H' := Aside0.mk H
                  clear H
                  have p111 : 0 ≤ (x5_1 : Int) := of_decide_eq_true (by first | (with_reducible assumption) | assumption)
                  have q111 : x5_1 < (l0.length : Int) := of_decide_eq_true (by first | (with_reducible assumption) | assumption)
                  obtain ⟨ad111, e111, hx111_0, hx111_1, hx111_2, hx111_3, hx111_4, hx111_5, hx111_6⟩ := at_T55 HR0.out x5_1 p111 q111
                  cases e111
                  replace p111 := eq_true p111
                  replace q111 := eq_true q111
                  go_wp2
                  go_roundg k1
                  case measure => have := HK1.out; omega
                  case rel => exact ⟨(wrap64 (x5_1 + 1)), (by first | rfl | (simp; done) | (simp [*]; done)), H', ⟨by have := HK1.out; omega⟩, by repeat (first | exact Drawn0.refl _ | apply Drawn0.step)⟩
          · rw [if_neg c5] at H
            have c5b0 : decide (2 ≤ ((rd_T55 l0 x5_1).f0)) = false := decide_eq_false c5
            clear c5
            by_cases c16 : ((rd_T55 l0 x5_1).f0) = 2
            · rw [if_pos c16] at H
              have c16b0 : (((rd_T55 l0 x5_1).f0) == 2) = true := beq_iff_eq.mpr c16
              have c16b1 : (((rd_T55 l0 x5_1).f0) != 2) = false := bne_eq_false_iff_eq.mpr c16
              clear c16
              by_cases c17 : ((rd_T55 l0 x5_1).f2.f1) = a1
              · rw [if_pos c17] at H
                have c17b0 : (((rd_T55 l0 x5_1).f2.f1) == a1) = true := beq_iff_eq.mpr c17
                have c17b1 : (((rd_T55 l0 x5_1).f2.f1) != a1) = false := bne_eq_false_iff_eq.mpr c17
                clear c17
                obtain rfl := Option.some.inj H
                have p111 : 0 ≤ (x5_1 : Int) := of_decide_eq_true (by first | (with_reducible assumption) | assumption)
                have q111 : x5_1 < (l0.length : Int) := of_decide_eq_true (by first | (with_reducible assumption) | assumption)
                obtain ⟨ad111, e111, hx111_0, hx111_1, hx111_2, hx111_3, hx111_4, hx111_5, hx111_6⟩ := at_T55 HR0.out x5_1 p111 q111
                cases e111
                replace p111 := eq_true p111
                replace q111 := eq_true q111
                have p117 : 0 ≤ (x5_1 : Int) := of_decide_eq_true (by first | (with_reducible assumption) | assumption)
                have q117 : x5_1 < (l0.length : Int) := of_decide_eq_true (by first | (with_reducible assumption) | assumption)
                obtain ⟨ad117, e117, hx117_0, hx117_1, hx117_2, hx117_3, hx117_4, hx117_5, hx117_6⟩ := at_T55 HR0.out x5_1 p117 q117
                obtain rfl : ad111 = ad117 := (by injection e117)
                replace p117 := eq_true p117
                replace q117 := eq_true q117
                go_wp2
                go_ret
                exact ⟨by first | rfl | (simp; done) | (simp [*]; done), by repeat (first | exact Drawn0.refl _ | apply Drawn0.step)⟩
              · rw [if_neg c17] at H
                have c17b0 : (((rd_T55 l0 x5_1).f2.f1) == a1) = false := beq_eq_false_iff_ne.mpr c17
                have c17b1 : (((rd_T55 l0 x5_1).f2.f1) != a1) = true := bne_iff_ne.mpr c17
                have H' := Aside0.mk H
                clear H
                have p111 : 0 ≤ (x5_1 : Int) := of_decide_eq_true (by first | (with_reducible assumption) | assumption)
                have q111 : x5_1 < (l0.length : Int) := of_decide_eq_true (by first | (with_reducible assumption) | assumption)
                obtain ⟨ad111, e111, hx111_0, hx111_1, hx111_2, hx111_3, hx111_4, hx111_5, hx111_6⟩ := at_T55 HR0.out x5_1 p111 q111
                cases e111
                replace p111 := eq_true p111
                replace q111 := eq_true q111
                have p117 : 0 ≤ (x5_1 : Int) := of_decide_eq_true (by first | (with_reducible assumption) | assumption)
                have q117 : x5_1 < (l0.length : Int) := of_decide_eq_true (by first | (with_reducible assumption) | assumption)
                obtain ⟨ad117, e117, hx117_0, hx117_1, hx117_2, hx117_3, hx117_4, hx117_5, hx117_6⟩ := at_T55 HR0.out x5_1 p117 q117
                obtain rfl : ad111 = ad117 := (by injection e117)
                replace p117 := eq_true p117
                replace q117 := eq_true q117
                go_wp2
                go_roundg k1
                case measure => have := HK1.out; omega
                case rel => exact ⟨(wrap64 (x5_1 + 1)), (by first | rfl | (simp; done) | (simp [*]; done)), H', ⟨by have := HK1.out; omega⟩, by repeat (first | exact Drawn0.refl _ | apply Drawn0.step)⟩
            · rw [if_neg c16] at H
              have c16b0 : (((rd_T55 l0 x5_1).f0) == 2) = false := beq_eq_false_iff_ne.mpr c16
              have c16b1 : (((rd_T55 l0 x5_1).f0) != 2) = true := bne_iff_ne.mpr c16
              by_cases c18 : ((rd_T55 l0 x5_1).f0) = 3
              · rw [if_pos c18] at H
                have c18b0 : (((rd_T55 l0 x5_1).f0) == 3) = true := beq_iff_eq.mpr c18
                have c18b1 : (((rd_T55 l0 x5_1).f0) != 3) = false := bne_eq_false_iff_eq.mpr c18
                clear c18
                by_cases c19 : ((rd_T55 l0 x5_1).f2.f1) = a1
                · rw [if_pos c19] at H
                  have c19b0 : (((rd_T55 l0 x5_1).f2.f1) == a1) = true := beq_iff_eq.mpr c19
                  have c19b1 : (((rd_T55 l0 x5_1).f2.f1) != a1) = false := bne_eq_false_iff_eq.mpr c19
                  clear c19
                  obtain rfl := Option.some.inj H
                  have p111 : 0 ≤ (x5_1 : Int) := of_decide_eq_true (by first | (with_reducible assumption) | assumption)
                  have q111 : x5_1 < (l0.length : Int) := of_decide_eq_true (by first | (with_reducible assumption) | assumption)
                  obtain ⟨ad111, e111, hx111_0, hx111_1, hx111_2, hx111_3, hx111_4, hx111_5, hx111_6⟩ := at_T55 HR0.out x5_1 p111 q111
                  cases e111
                  replace p111 := eq_true p111
                  replace q111 := eq_true q111
                  have p118 : 0 ≤ (x5_1 : Int) := of_decide_eq_true (by first | (with_reducible assumption) | assumption)
                  have q118 : x5_1 < (l0.length : Int) := of_decide_eq_true (by first | (with_reducible assumption) | assumption)
                  obtain ⟨ad118, e118, hx118_0, hx118_1, hx118_2, hx118_3, hx118_4, hx118_5, hx118_6⟩ := at_T55 HR0.out x5_1 p118 q118
                  obtain rfl : ad111 = ad118 := (by injection e118)
                  replace p118 := eq_true p118
                  replace q118 := eq_true q118
                  go_wp2
                  go_ret
                  exact ⟨by first | rfl | (simp; done) | (simp [*]; done), by repeat (first | exact Drawn0.refl _ | apply Drawn0.step)⟩
                · rw [if_neg c19] at H
                  have c19b0 : (((rd_T55 l0 x5_1).f2.f1) == a1) = false := beq_eq_false_iff_ne.mpr c19
                  have c19b1 : (((rd_T55 l0 x5_1).f2.f1) != a1) = true := bne_iff_ne.mpr c19
                  have H' := Aside0.mk H
                  clear H
                  have p111 : 0 ≤ (x5_1 : Int) := of_decide_eq_true (by first | (with_reducible assumption) | assumption)
                  have q111 : x5_1 < (l0.length : Int) := of_decide_eq_true (by first | (with_reducible assumption) | assumption)
                  obtain ⟨ad111, e111, hx111_0, hx111_1, hx111_2, hx111_3, hx111_4, hx111_5, hx111_6⟩ := at_T55 HR0.out x5_1 p111 q111
                  cases e111
                  replace p111 := eq_true p111
                  replace q111 := eq_true q111
                  have p118 : 0 ≤ (x5_1 : Int) := of_decide_eq_true (by first | (with_reducible assumption) | assumption)
                  have q118 : x5_1 < (l0.length : Int) := of_decide_eq_true (by first | (with_reducible assumption) | assumption)
                  obtain ⟨ad118, e118, hx118_0, hx118_1, hx118_2, hx118_3, hx118_4, hx118_5, hx118_6⟩ := at_T55 HR0.out x5_1 p118 q118
                  obtain rfl : ad111 = ad118 := (by injection e118)
                  replace p118 := eq_true p118
                  replace q118 := eq_true q118
                  go_wp2
                  go_roundg k1
                  case measure => have := HK1.out; omega
                  case rel => exact ⟨(wrap64 (x5_1 + 1)), (by first | rfl | (simp; done) | (simp [*]; done)), H', ⟨by have := HK1.out; omega⟩, by repeat (first | exact Drawn0.refl _ | apply Drawn0.step)⟩
              · rw [if_neg c18] at H
                have c18b0 : (((rd_T55 l0 x5_1).f0) == 3) = false := beq_eq_false_iff_ne.mpr c18
                have c18b1 : (((rd_T55 l0 x5_1).f0) != 3) = true := bne_iff_ne.mpr c18
                have H' := Aside0.mk H
                clear H
                have p111 : 0 ≤ (x5_1 : Int) := of_decide_eq_true (by first | (with_reducible assumption) | assumption)
                have q111 : x5_1 < (l0.length : Int) := of_decide_eq_true (by first | (with_reducible assumption) | assumption)
                obtain ⟨ad111, e111, hx111_0, hx111_1, hx111_2, hx111_3, hx111_4, hx111_5, hx111_6⟩ := at_T55 HR0.out x5_1 p111 q111
                cases e111
                replace p111 := eq_true p111
                replace q111 := eq_true q111
                go_wp2
                go_roundg k1
                case measure => have := HK1.out; omega
                case rel => exact ⟨(wrap64 (x5_1 + 1)), (by first | rfl | (simp; done) | (simp [*]; done)), H', ⟨by have := HK1.out; omega⟩, by repeat (first | exact Drawn0.refl _ | apply Drawn0.step)⟩
        · rw [if_neg c4] at H
          exact absurd H (by simp)
      · rw [if_neg c3] at H
        have c3b0 : decide (x5_1 < (l0.length : Int)) = false := decide_eq_false c3
        clear c3
        obtain rfl := Option.some.inj H
        go_wp2
        go_ret
        exact ⟨by first | rfl | (simp; done) | (simp [*]; done), by repeat (first | exact Drawn0.refl _ | apply Drawn0.step)⟩

end Go.Proofs.Ythnfmpieoondaaa.QA
