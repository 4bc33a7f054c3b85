/- The Go functions of this part as Lean functions, each with a proof that a call of it comes to just what the Lean function does. Written by a program of the session's. Conditions: none but those in each theorem. -/
import Derived.Test.YtmhkofgappbpjaaVQBx0
namespace Go.Proofs.Ytmhkofgappbpjaa.QB
open Go.Proofs.Ytmhkofgappbpjaa.G Go.Proofs.Ytmhkofgappbpjaa.QA
open Go.RowKit Go.Proofs.YtmhkofgappbpjaaW.PrintWords Go.Proofs.YtmhkofgappbpjaaW.PrintLast Go.Proofs.YtmhkofgappbpjaaW.PrintMore
attribute [local go_sem] max2_int min2_int max_two min_two max_three min_three max_four min_four   -- for this text's walks alone
attribute [local go_sem ↓] ix40_0 ix40_1 ia40_0 ia40_1
set_option linter.unusedVariables false
set_option linter.unusedSimpArgs false

/-! ### dragomanref05_many: function 27 -/
mutual
def dragomanref05_many.j0 : Nat → Int → Bool → Option (Int)
  | 0, _, _ => none
  | k + 1, x0, x8 => if x8 = true then (some 2) else (if x0 ≥ 4 then (dragomanref05_many.j1 k x0 (decide (x0 ≤ 6))) else (dragomanref05_many.j1 k x0 false))
def dragomanref05_many.j1 : Nat → Int → Bool → Option (Int)
  | 0, _, _ => none
  | k + 1, x0, x14 => if x14 = true then (some 1) else (if x0 = 0 then (some 0) else (if x0 = 1 then (some 0) else (if x0 = 7 then (some 0) else (if x0 = 8 then (some 0) else (some (-1))))))
end
def dragomanref05_many.f (k : Nat) (a0 : Int) : Option (Int) := if a0 = 2 then (dragomanref05_many.j0 k a0 true) else (dragomanref05_many.j0 k a0 (a0 == 3))
theorem dragomanref05_many.mono_l : ∀ k, (∀ y0 y1, LeO (dragomanref05_many.j0 k y0 y1) (dragomanref05_many.j0 (k + 1) y0 y1)) ∧ (∀ y0 y1, LeO (dragomanref05_many.j1 k y0 y1) (dragomanref05_many.j1 (k + 1) y0 y1))
  | 0 => ⟨fun _ _ r h => by simp [dragomanref05_many.j0] at h, fun _ _ r h => by simp [dragomanref05_many.j1] at h⟩
  | k + 1 => by
    obtain ⟨ih0, ih1⟩ := dragomanref05_many.mono_l k
    refine ⟨?_, ?_⟩
    · intro y0 y1
      unfold dragomanref05_many.j0
      repeat' first
      | (with_reducible exact ih0 _ _)
      | (with_reducible exact ih1 _ _)
      | (with_reducible exact LeO.refl _)
      | (with_reducible exact LeO.none _)
      | (with_reducible refine LeO.ite ?_ ?_)
      | (with_reducible refine LeO.bind ?_ (fun _ => ?_))
      | exact ih0 _ _
      | exact ih1 _ _
      | exact LeO.none _
      | refine LeO.ite ?_ ?_
      | refine LeO.bind ?_ (fun _ => ?_)
    · intro y0 y1
      unfold dragomanref05_many.j1
      repeat' first
      | (with_reducible exact ih0 _ _)
      | (with_reducible exact ih1 _ _)
      | (with_reducible exact LeO.refl _)
      | (with_reducible exact LeO.none _)
      | (with_reducible refine LeO.ite ?_ ?_)
      | (with_reducible refine LeO.bind ?_ (fun _ => ?_))
      | exact ih0 _ _
      | exact ih1 _ _
      | exact LeO.none _
      | refine LeO.ite ?_ ?_
      | refine LeO.bind ?_ (fun _ => ?_)
theorem dragomanref05_many.mono : ∀ a0 k, LeO (dragomanref05_many.f k a0) (dragomanref05_many.f (k + 1) a0) := by
  intro a0 k
  obtain ⟨ih0, ih1⟩ := dragomanref05_many.mono_l k
  unfold dragomanref05_many.f
  repeat' first
      | (with_reducible exact ih0 _ _)
      | (with_reducible exact ih1 _ _)
      | (with_reducible exact LeO.refl _)
      | (with_reducible exact LeO.none _)
      | (with_reducible refine LeO.ite ?_ ?_)
      | (with_reducible refine LeO.bind ?_ (fun _ => ?_))
      | exact ih0 _ _
      | exact ih1 _ _
      | exact LeO.none _
      | refine LeO.ite ?_ ?_
      | refine LeO.bind ?_ (fun _ => ?_)
set_option maxHeartbeats 8000000 in
set_option maxRecDepth 100000 in
theorem dragomanref05_many.calls (k : Nat) (a0 : Int) (r : Int) (w : World) (h : dragomanref05_many.f k a0 = some r) :
    Calls Try.prog 27 #[.int .i64 a0] w fun e w' => e = .returned (.int .i64 r) ∧ Drawn0 w w' := by
  have H : (if a0 = 2 then (dragomanref05_many.j0 k a0 true) else (dragomanref05_many.j0 k a0 (a0 == 3))) = some r := h
  clear h
  have HC2 := Aside0.mk H
  clear H
  go_enter Try.func27, Try.ntmps27
  go_upto_region 1 with (fail)
  go_cut [8] (fun v8 wc => ∃ (kq : Nat) (x8_1 : Bool), v8 = .bool x8_1 ∧ Aside0 (dragomanref05_many.j0 kq a0 x8_1 = some r) ∧ Aside0 (kq ≤ k) ∧ Drawn0 w wc)
  case first =>
    have H := HC2.out
    clear HC2
    by_cases c3 : a0 = 2
    · rw [if_pos c3] at H
      have c3b0 : (a0 == 2) = true := beq_iff_eq.mpr c3
      have c3b1 : (a0 != 2) = false := bne_eq_false_iff_eq.mpr c3
      clear c3
      (first | rw [c3b0] | (simp only [i64_w, i32_w]; rw [c3b0]) | skip)
      have H' := Aside0.mk H
      clear H
      go_wp2
      go_meet
      case rel => exact ⟨_, (true), (by first | rfl | (simp; done) | (simp [*]; done)), H', ⟨by first | omega | exact Nat.le_refl _⟩, by repeat (first | exact Drawn0.refl _ | apply Drawn0.step)⟩
    · rw [if_neg c3] at H
      have c3b0 : (a0 == 2) = false := beq_eq_false_iff_ne.mpr c3
      have c3b1 : (a0 != 2) = true := bne_iff_ne.mpr c3
      (first | rw [c3b0] | (simp only [i64_w, i32_w]; rw [c3b0]) | skip)
      have H' := Aside0.mk H
      clear H
      go_wp2
      go_meet
      case rel => exact ⟨_, ((a0 == 3)), (by first | rfl | (simp; done) | (simp [*]; done)), H', ⟨by first | omega | exact Nat.le_refl _⟩, by repeat (first | exact Drawn0.refl _ | apply Drawn0.step)⟩
  case rest =>
    clear HC2
    try clear c2
    try clear p2
    try clear c3
    try clear c3b0
    try clear c3b1
    obtain ⟨kq, x8_1, rfl, HA, HJ1, ⟨mc1, rfl⟩⟩ := hcut
    cases kq with
    | zero => exact absurd HA.out (by simp [dragomanref05_many.j0])
    | succ kj1 =>
      have H := HA.out
      clear HA
      simp only [dragomanref05_many.j0] at H
      by_cases c4 : x8_1 = true
      · subst c4
        have H1 : (some 2) = some r := by rw [if_pos rfl] at H; exact H
        clear H
        have H := H1
        clear H1
        obtain rfl := Option.some.inj H
        go_wp2
        go_ret
        exact ⟨by first | rfl | (simp; done) | (simp [*]; done), by repeat (first | exact Drawn0.refl _ | apply Drawn0.step)⟩
      · replace c4 := Bool.eq_false_iff.mpr c4
        subst c4
        have H1 : (if a0 ≥ 4 then (dragomanref05_many.j1 kj1 a0 (decide (a0 ≤ 6))) else (dragomanref05_many.j1 kj1 a0 false)) = some r := by rw [if_neg (show ¬ (false = true) by decide)] at H; exact H
        clear H
        have H := H1
        clear H1
        have HC5 := Aside0.mk H
        clear H
        go_upto_region 3 with (fail)
        go_cut [14] (fun v14 wc => ∃ (kq : Nat) (x14_4 : Bool), v14 = .bool x14_4 ∧ Aside0 (dragomanref05_many.j1 kq a0 x14_4 = some r) ∧ Aside0 (kq ≤ kj1) ∧ Drawn0 w wc)
        case first =>
          have H := HC5.out
          clear HC5
          by_cases c6 : a0 ≥ 4
          · rw [if_pos c6] at H
            have c6b0 : decide (4 ≤ a0) = true := decide_eq_true c6
            clear c6
            (first | rw [c6b0] | (simp only [i64_w, i32_w]; rw [c6b0]) | skip)
            have H' := Aside0.mk H
            clear H
            go_wp2
            go_meet
            case rel => exact ⟨_, (decide (a0 ≤ 6)), (by first | rfl | (simp; done) | (simp [*]; done)), H', ⟨by have := HJ1.out; first | omega | exact Nat.le_refl _⟩, by repeat (first | exact Drawn0.refl _ | apply Drawn0.step)⟩
          · rw [if_neg c6] at H
            have c6b0 : decide (4 ≤ a0) = false := decide_eq_false c6
            clear c6
            (first | rw [c6b0] | (simp only [i64_w, i32_w]; rw [c6b0]) | skip)
            have H' := Aside0.mk H
            clear H
            go_wp2
            go_meet
            case rel => exact ⟨_, (false), (by first | rfl | (simp; done) | (simp [*]; done)), H', ⟨by have := HJ1.out; first | omega | exact Nat.le_refl _⟩, by repeat (first | exact Drawn0.refl _ | apply Drawn0.step)⟩
        case rest =>
          clear HC5
          try clear c1
          try clear c2
          try clear p2
          try clear c3
          try clear c3b0
          try clear c3b1
          try clear c4
          try clear c6
          try clear c6b0
          try clear p2
          obtain ⟨kq, x14_4, rfl, HA, HJ4, ⟨mc4, rfl⟩⟩ := hcut
          cases kq with
          | zero => exact absurd HA.out (by simp [dragomanref05_many.j1])
          | succ kj4 =>
            have H := HA.out
            clear HA
            simp only [dragomanref05_many.j1] at H
            by_cases c7 : x14_4 = true
            · subst c7
              have H1 : (some 1) = some r := by rw [if_pos rfl] at H; exact H
              clear H
              have H := H1
              clear H1
              obtain rfl := Option.some.inj H
              go_wp2
              go_ret
              exact ⟨by first | rfl | (simp; done) | (simp [*]; done), by repeat (first | exact Drawn0.refl _ | apply Drawn0.step)⟩
            · replace c7 := Bool.eq_false_iff.mpr c7
              subst c7
              have H1 : (if a0 = 0 then (some 0) else (if a0 = 1 then (some 0) else (if a0 = 7 then (some 0) else (if a0 = 8 then (some 0) else (some (-1)))))) = some r := by rw [if_neg (show ¬ (false = true) by decide)] at H; exact H
              clear H
              have H := H1
              clear H1
              by_cases c8 : a0 = 0
              · rw [if_pos c8] at H
                have c8b0 : (a0 == 0) = true := beq_iff_eq.mpr c8
                have c8b1 : (a0 != 0) = false := bne_eq_false_iff_eq.mpr c8
                clear c8
                obtain rfl := Option.some.inj H
                go_wp2
                go_ret
                exact ⟨by first | rfl | (simp; done) | (simp [*]; done), by repeat (first | exact Drawn0.refl _ | apply Drawn0.step)⟩
              · rw [if_neg c8] at H
                have c8b0 : (a0 == 0) = false := beq_eq_false_iff_ne.mpr c8
                have c8b1 : (a0 != 0) = true := bne_iff_ne.mpr c8
                by_cases c9 : a0 = 1
                · rw [if_pos c9] at H
                  have c9b0 : (a0 == 1) = true := beq_iff_eq.mpr c9
                  have c9b1 : (a0 != 1) = false := bne_eq_false_iff_eq.mpr c9
                  clear c9
                  obtain rfl := Option.some.inj H
                  go_wp2
                  go_ret
                  exact ⟨by first | rfl | (simp; done) | (simp [*]; done), by repeat (first | exact Drawn0.refl _ | apply Drawn0.step)⟩
                · rw [if_neg c9] at H
                  have c9b0 : (a0 == 1) = false := beq_eq_false_iff_ne.mpr c9
                  have c9b1 : (a0 != 1) = true := bne_iff_ne.mpr c9
                  by_cases c10 : a0 = 7
                  · rw [if_pos c10] at H
                    have c10b0 : (a0 == 7) = true := beq_iff_eq.mpr c10
                    have c10b1 : (a0 != 7) = false := bne_eq_false_iff_eq.mpr c10
                    clear c10
                    obtain rfl := Option.some.inj H
                    go_wp2
                    go_ret
                    exact ⟨by first | rfl | (simp; done) | (simp [*]; done), by repeat (first | exact Drawn0.refl _ | apply Drawn0.step)⟩
                  · rw [if_neg c10] at H
                    have c10b0 : (a0 == 7) = false := beq_eq_false_iff_ne.mpr c10
                    have c10b1 : (a0 != 7) = true := bne_iff_ne.mpr c10
                    by_cases c11 : a0 = 8
                    · rw [if_pos c11] at H
                      have c11b0 : (a0 == 8) = true := beq_iff_eq.mpr c11
                      have c11b1 : (a0 != 8) = false := bne_eq_false_iff_eq.mpr c11
                      clear c11
                      obtain rfl := Option.some.inj H
                      go_wp2
                      go_ret
                      exact ⟨by first | rfl | (simp; done) | (simp [*]; done), by repeat (first | exact Drawn0.refl _ | apply Drawn0.step)⟩
                    · rw [if_neg c11] at H
                      have c11b0 : (a0 == 8) = false := beq_eq_false_iff_ne.mpr c11
                      have c11b1 : (a0 != 8) = true := bne_iff_ne.mpr c11
                      obtain rfl := Option.some.inj H
                      go_wp2
                      go_ret
                      exact ⟨by first | rfl | (simp; done) | (simp [*]; done), by repeat (first | exact Drawn0.refl _ | apply Drawn0.step)⟩

/-! ### dragomanref05_Join: function 14 -/
mutual
def dragomanref05_Join.j0 : Nat → List (S42) → List (S42) → Int → Bool → Option ((List (S42)) × Int)
  | 0, _, _, _, _ => none
  | k + 1, x0, x1, x2, x18 => if x18 = true then (some (([] : List (S42)), 1)) else (if (wrap64 ((x0.length : Int) + (x1.length : Int))) ≥ 2000 then (some (([] : List (S42)), 6)) else ((some (([] : List (S42)) : List (S42))).bind fun y154 => (if y154.length + x0.length < 2513169434916 then (dragomanref05_Join.l0 k x1 x2 (x0.length : Int) (y154 ++ x0) 0) else (none))))
def dragomanref05_Join.l0 : Nat → List (S42) → Int → Int → List (S42) → Int → Option ((List (S42)) × Int)
  | 0, _, _, _, _, _ => none
  | k + 1, x1, x2, x8, x9, x10 => if x10 < (x1.length : Int) then (if 0 ≤ x10 then ((dragomanref05_many.f k ((rd_T42 x1 x10).f0)).bind fun t165 => (if t165 > 0 then (if t165 > 1 then (if x9.length < 2513169434916 then (dragomanref05_Join.l0 k x1 x2 x8 (x9 ++ [(⟨(rd_T42 x1 x10).f0, (⟨(rd_T42 x1 x10).f1.f0, (rd_T42 x1 x10).f1.f1, (rd_T42 x1 x10).f1.f2, (rd_T42 x1 x10).f1.f3⟩ : S39), (⟨wrap64 (((rd_T42 x1 x10).f2.f0) + x8), wrap64 (((rd_T42 x1 x10).f2.f1) + x8)⟩ : S40)⟩ : S42)]) (wrap64 (x10 + 1))) else (none)) else (if x9.length < 2513169434916 then (dragomanref05_Join.l0 k x1 x2 x8 (x9 ++ [(⟨(rd_T42 x1 x10).f0, (⟨(rd_T42 x1 x10).f1.f0, (rd_T42 x1 x10).f1.f1, (rd_T42 x1 x10).f1.f2, (rd_T42 x1 x10).f1.f3⟩ : S39), (⟨wrap64 (((rd_T42 x1 x10).f2.f0) + x8), (rd_T42 x1 x10).f2.f1⟩ : S40)⟩ : S42)]) (wrap64 (x10 + 1))) else (none))) else (if t165 > 1 then (if x9.length < 2513169434916 then (dragomanref05_Join.l0 k x1 x2 x8 (x9 ++ [(⟨(rd_T42 x1 x10).f0, (⟨(rd_T42 x1 x10).f1.f0, (rd_T42 x1 x10).f1.f1, (rd_T42 x1 x10).f1.f2, (rd_T42 x1 x10).f1.f3⟩ : S39), (⟨(rd_T42 x1 x10).f2.f0, wrap64 (((rd_T42 x1 x10).f2.f1) + x8)⟩ : S40)⟩ : S42)]) (wrap64 (x10 + 1))) else (none)) else (if x9.length < 2513169434916 then (dragomanref05_Join.l0 k x1 x2 x8 (x9 ++ [(⟨(rd_T42 x1 x10).f0, (⟨(rd_T42 x1 x10).f1.f0, (rd_T42 x1 x10).f1.f1, (rd_T42 x1 x10).f1.f2, (rd_T42 x1 x10).f1.f3⟩ : S39), (⟨(rd_T42 x1 x10).f2.f0, (rd_T42 x1 x10).f2.f1⟩ : S40)⟩ : S42)]) (wrap64 (x10 + 1))) else (none))))) else (none)) else (if x9.length < 2513169434916 then (some ((x9 ++ [(⟨x2, (⟨0, 0, 0, 0⟩ : S39), (⟨wrap64 (x8 - 1), wrap64 ((wrap64 (x8 + (x1.length : Int))) - 1)⟩ : S40)⟩ : S42)]), 0)) else (none))
end
def dragomanref05_Join.f (k : Nat) (l0 : List (S42)) (l1 : List (S42)) (a2 : Int) : Option ((List (S42)) × Int) := if a2 = 2 then (dragomanref05_Join.j0 k l0 l1 a2 false) else (dragomanref05_Join.j0 k l0 l1 a2 (a2 != 3))
set_option maxHeartbeats 8000000 in
set_option maxRecDepth 100000 in
theorem dragomanref05_Join.calls (k : Nat) (A0 : Option Addr) (c0 : Nat) (l0 : List (S42)) (A1 : Option Addr) (c1 : Nat) (l1 : List (S42)) (a2 : Int) (r1 : List (S42)) (r2 : Int) (w : World) (hr0 : Kd.C k42 w A0 l0.length l0) (hc0 : l0.length ≤ c0) (hr1 : Kd.C k42 w A1 l1.length l1) (hc1 : l1.length ≤ c1) (h : dragomanref05_Join.f k l0 l1 a2 = some (r1, r2)) :
    Calls Try.prog 14 #[.slice A0 l0.length c0, .slice A1 l1.length c1, .int .i64 a2] w fun e w' => ∃ v0_ : Value, e = .returned (.tuple #[v0_, .int .i64 r2]) ∧ Kd.R k42 42 w' w.heap.size (fun _ => True) v0_ r1 ∧ Below w.heap.size w w' := by
  have hu42 := Try.underlying42
  have hu40 := Try.underlying40
  have HR0 := Aside0.mk hr0
  have HC0 := Aside0.mk hc0
  clear hr0 hc0
  have HR1 := Aside0.mk hr1
  have HC1 := Aside0.mk hc1
  clear hr1 hc1
  have HB := Aside0.mk (Below.refl w.heap.size w)
  have H : (if a2 = 2 then (dragomanref05_Join.j0 k l0 l1 a2 false) else (dragomanref05_Join.j0 k l0 l1 a2 (a2 != 3))) = some (r1, r2) := h
  clear h
  have HC4 := Aside0.mk H
  clear H
  go_enter Try.func14, Try.ntmps14
  go_upto_region 1 with (fail)
  go_cut [18] (fun v18 wc => ∃ (kq : Nat) (x18_3 : Bool), v18 = .bool x18_3 ∧ Aside0 (dragomanref05_Join.j0 kq l0 l1 a2 x18_3 = some (r1, r2)) ∧ Aside0 (kq ≤ k) ∧ Aside0 (Below w.heap.size w wc))
  case first =>
    have H := HC4.out
    clear HC4
    by_cases c5 : a2 = 2
    · rw [if_pos c5] at H
      have c5b0 : (a2 == 2) = true := beq_iff_eq.mpr c5
      have c5b1 : (a2 != 2) = false := bne_eq_false_iff_eq.mpr c5
      clear c5
      (first | rw [c5b0] | (simp only [i64_w, i32_w]; rw [c5b0]) | skip)
      have H' := Aside0.mk H
      clear H
      go_wp2
      go_meet
      case rel => exact ⟨_, (false), (by first | rfl | (simp; done) | (simp [*]; done)), H', ⟨by first | omega | exact Nat.le_refl _⟩, ⟨by repeat (first | (with_reducible first | exact HB.out | apply below_alloc | apply pw_below_drewN | apply below_drew1) | exact HB.out)⟩⟩
    · rw [if_neg c5] at H
      have c5b0 : (a2 == 2) = false := beq_eq_false_iff_ne.mpr c5
      have c5b1 : (a2 != 2) = true := bne_iff_ne.mpr c5
      (first | rw [c5b0] | (simp only [i64_w, i32_w]; rw [c5b0]) | skip)
      have H' := Aside0.mk H
      clear H
      go_wp2
      go_meet
      case rel => exact ⟨_, ((a2 != 3)), (by first | rfl | (simp; done) | (simp [*]; done)), H', ⟨by first | omega | exact Nat.le_refl _⟩, ⟨by repeat (first | (with_reducible first | exact HB.out | apply below_alloc | apply pw_below_drewN | apply below_drew1) | exact HB.out)⟩⟩
  case rest =>
    clear HC4
    try clear c1
    try clear p2
    try clear c5
    try clear c5b0
    try clear c5b1
    obtain ⟨kq, x18_3, rfl, HA, HJ3, HB⟩ := hcut
    cases kq with
    | zero => exact absurd HA.out (by simp [dragomanref05_Join.j0])
    | succ kj3 =>
      have H := HA.out
      clear HA
      simp only [dragomanref05_Join.j0] at H
      by_cases c6 : x18_3 = true
      · subst c6
        have H1 : (some (([] : List (S42)), 1)) = some (r1, r2) := by rw [if_pos rfl] at H; exact H
        clear H
        have H := H1
        clear H1
        simp only [Option.some.injEq, Prod.mk.injEq] at H
        obtain ⟨rfl, rfl⟩ := H
        go_wp2
        go_ret2
        exact ⟨_, by first | rfl | (simp [errW_none, errW_some] <;> rfl) | (simp [*, errW_none, errW_some] <;> rfl), by first | exact Kd.R_nil _ _ _ _ _ | exact Kd.N_nil _ _ _ _ _ | exact Kd.V_nil _ _ _ _ _ | exact Kd.Q_nil _ _ _ _ _ | exact Kd.S_nil _ _ _ _ _, by repeat (first | (with_reducible first | exact HB.out | apply below_alloc | apply pw_below_drewN | apply below_drew1) | exact HB.out)⟩
      · replace c6 := Bool.eq_false_iff.mpr c6
        subst c6
        have H1 : (if (wrap64 ((l0.length : Int) + (l1.length : Int))) ≥ 2000 then (some (([] : List (S42)), 6)) else ((some (([] : List (S42)) : List (S42))).bind fun y154 => (if y154.length + l0.length < 2513169434916 then (dragomanref05_Join.l0 kj3 l1 a2 (l0.length : Int) (y154 ++ l0) 0) else (none)))) = some (r1, r2) := by rw [if_neg (show ¬ (false = true) by decide)] at H; exact H
        clear H
        have H := H1
        clear H1
        by_cases c7 : (wrap64 ((l0.length : Int) + (l1.length : Int))) ≥ 2000
        · rw [if_pos c7] at H
          have c7b0 : decide (2000 ≤ (wrap64 ((l0.length : Int) + (l1.length : Int)))) = true := decide_eq_true c7
          try (have c7b0n := c7b0; rw [wrapFit (by omega) (by omega)] at c7b0n)
          clear c7
          simp only [Option.some.injEq, Prod.mk.injEq] at H
          obtain ⟨rfl, rfl⟩ := H
          go_wp2
          go_ret2
          exact ⟨_, by first | rfl | (simp [errW_none, errW_some] <;> rfl) | (simp [*, errW_none, errW_some] <;> rfl), by first | exact Kd.R_nil _ _ _ _ _ | exact Kd.N_nil _ _ _ _ _ | exact Kd.V_nil _ _ _ _ _ | exact Kd.Q_nil _ _ _ _ _ | exact Kd.S_nil _ _ _ _ _, by repeat (first | (with_reducible first | exact HB.out | apply below_alloc | apply pw_below_drewN | apply below_drew1) | exact HB.out)⟩
        · rw [if_neg c7] at H
          have c7b0 : decide (2000 ≤ (wrap64 ((l0.length : Int) + (l1.length : Int)))) = false := decide_eq_false c7
          try (have c7b0n := c7b0; rw [wrapFit (by omega) (by omega)] at c7b0n)
          clear c7
          obtain ⟨y154, hy154⟩ : ∃ y_ : List (S42), y_ = (([] : List (S42))) := ⟨_, rfl⟩
          replace H : (if y154.length + l0.length < 2513169434916 then (dragomanref05_Join.l0 kj3 l1 a2 (l0.length : Int) (y154 ++ l0) 0) else (none)) = some (r1, r2) := by first | (rw [hy154]; with_reducible exact H) | (have H2_ := (Option.bind_some _ _).symm.trans H; rw [hy154]; with_reducible exact H2_) | (have H2_ := (Option.bind_some _ _).symm.trans H; with_reducible exact H2_) | with_reducible exact H | (rw [hy154]; exact H) | exact H
          have Ny154 := Aside0.mk hy154
          clear hy154
          by_cases c8 : y154.length + l0.length < 2513169434916
          · rw [if_pos c8] at H
            have LMc8 := Aside0.mk c8
            clear c8
            obtain ⟨y157, hy157⟩ : ∃ y_ : List (S42), y_ = (y154 ++ l0) := ⟨_, rfl⟩
            replace H : (dragomanref05_Join.l0 kj3 l1 a2 (l0.length : Int) y157 0) = some (r1, r2) := by first | (rw [hy157]; with_reducible exact H) | (have H2_ := (Option.bind_some _ _).symm.trans H; rw [hy157]; with_reducible exact H2_) | (have H2_ := (Option.bind_some _ _).symm.trans H; with_reducible exact H2_) | with_reducible exact H | (rw [hy157]; exact H) | exact H
            have Ny157 := Aside0.mk hy157
            clear hy157
            have H' := Aside0.mk H
            clear H
            go_wp2_with (first | ((with_reducible refine gate_dst (N := 26) rfl ?_); refine Kd.R_lit k42 _ 42 ?hg (N := 26) ?hd (xs := ([] : List (S42))) (inner := []) (ok := fun _ => True) (okp := fun _ => True) ?hr ?hp (fun _ hk => hk) trivial (Below.refl _ _) (Nat.le_refl _) (by simp) ?_; (case hd => rfl); (case hg => rfl); (case hr => first | (go_simp; done) | (go_simp; rfl)); (case hp => exact (Reps.none _ _)); intro v155 w9 ho10 hb hg_ hnew_; clear hg_ hnew_; (first | rw [← Ny154.out] at ho10 | (simp only [Int.reduceToNat] at ho10; rw [← Ny154.out] at ho10)); have n0_ := Aside0.mk (Kd.R_lower ho10 (below_size (by repeat (first | (with_reducible first | exact HB.out | apply below_alloc | apply pw_below_drewN | apply below_drew1) | exact HB.out)))); have n1_ := Aside0.mk (below_step (by repeat (first | (with_reducible first | exact HB.out | apply below_alloc | apply pw_below_drewN | apply below_drew1) | exact HB.out)) hb); clear HB; have HO156 := n0_; have HB := n1_; clear n0_ n1_; clear hb ho10) | ((with_reducible refine gate_builtin (b := .append) (xs := #[.tmp 26, .tmp 27]) rfl ?_); at_builtin; refine Kd.R_append_rows k42 (w0 := w) w.heap.size rfl (.tmp 26) (.tmp 27) 22 42 (.agg #[(.int .i64 0), (.int .u64 0), (.int .u64 0), (.int .u64 0), (.int .u64 0), (.int .i64 0), (.int .i64 0)]) 56 rfl Try.underlying22 info42 rfl (by decide) (by omega) v155 y154 l0 _ _ _ (fun _ => True) (fun _ => False) rfl rfl ?aO ?aR (fun _ _ h => h) (fun _ h => h.elim) ?aF ?aB ?aS ?aL ?_; (case aR => repeat (first | exact (Kd.C_below HR0.out HB.out) | (with_reducible refine Kd.C_alloc ?_ _) | (with_reducible refine Kd.C_drewN ?_ _) | (with_reducible refine Kd.C_drew ?_))); (case aB => exact (by repeat (first | (with_reducible first | exact HB.out | apply below_alloc | apply pw_below_drewN | apply below_drew1) | exact HB.out))); (case aF => exact (fun _ _ => trivial)); (case aO => exact (by (with_reducible repeat (first | apply Kd.R_alloc | apply Kd.R_drewN | apply Kd.R_drew)); exact HO156.out)); (case aS => exact (below_size (by repeat (first | (with_reducible first | exact HB.out | apply below_alloc | apply pw_below_drewN | apply below_drew1) | exact HB.out)))); (case aL => have := LMc8.out; omega); intro v158 w11 ho hb hg hat; rw [← Ny157.out] at ho; have n0_ := Aside0.mk (hb); have n1_ := Aside0.mk (ho); clear HB; clear HO156; have HB := n0_; have HO159 := n1_; clear n0_ n1_; clear ho hb hg hat))
            go_loopg [9, 10] kj3 (fun kq v9 v10 w' => ∃ (x9_2 : List (S42)) (x10_2 : Int), v10 = .int .i64 x10_2 ∧ Aside0 (dragomanref05_Join.l0 kq l1 a2 (l0.length : Int) x9_2 x10_2 = some (r1, r2)) ∧ Aside0 (kq ≤ kj3) ∧ Aside0 (Kd.R k42 42 w' w.heap.size (fun _ => True) v9 x9_2) ∧ Aside0 (Below w.heap.size w w'))
            case atStart => exact ⟨(y157), (0), (by first | rfl | (simp; done) | (simp [*]; done)), H', ⟨Nat.le_refl _⟩, ⟨by (with_reducible repeat (first | apply Kd.R_alloc | apply Kd.R_drewN | apply Kd.R_drew)); exact HO159.out⟩, ⟨by repeat (first | (with_reducible first | exact HB.out | apply below_alloc | apply pw_below_drewN | apply below_drew1) | exact HB.out)⟩⟩
            case round =>
              clear H'
              try clear c1
              try clear p2
              try clear c5
              try clear c5b0
              try clear c5b1
              try clear c6
              try clear p6
              try clear c7
              try clear c7b0
              try clear c8
              try clear p2
              obtain ⟨x9_2, x10_2, rfl, HA, HK2, HO_9, HB⟩ := hrel
              cases gk with
              | zero => exact absurd HA.out (by simp [dragomanref05_Join.l0])
              | succ k2 =>
                have H := HA.out
                clear HA
                simp only [dragomanref05_Join.l0] at H
                by_cases c12 : x10_2 < (l1.length : Int)
                · rw [if_pos c12] at H
                  have c12b0 : decide (x10_2 < (l1.length : Int)) = true := decide_eq_true c12
                  clear c12
                  by_cases c13 : 0 ≤ x10_2
                  · rw [if_pos c13] at H
                    have c13b0 : decide (0 ≤ x10_2) = true := decide_eq_true c13
                    clear c13
                    replace H := Option.bind_eq_some_iff.mp H
                    obtain ⟨t165, A140, H⟩ := H
                    replace H : (if t165 > 0 then (if t165 > 1 then (if x9_2.length < 2513169434916 then (dragomanref05_Join.l0 k2 l1 a2 (l0.length : Int) (x9_2 ++ [(⟨(rd_T42 l1 x10_2).f0, (⟨(rd_T42 l1 x10_2).f1.f0, (rd_T42 l1 x10_2).f1.f1, (rd_T42 l1 x10_2).f1.f2, (rd_T42 l1 x10_2).f1.f3⟩ : S39), (⟨wrap64 (((rd_T42 l1 x10_2).f2.f0) + (l0.length : Int)), wrap64 (((rd_T42 l1 x10_2).f2.f1) + (l0.length : Int))⟩ : S40)⟩ : S42)]) (wrap64 (x10_2 + 1))) else (none)) else (if x9_2.length < 2513169434916 then (dragomanref05_Join.l0 k2 l1 a2 (l0.length : Int) (x9_2 ++ [(⟨(rd_T42 l1 x10_2).f0, (⟨(rd_T42 l1 x10_2).f1.f0, (rd_T42 l1 x10_2).f1.f1, (rd_T42 l1 x10_2).f1.f2, (rd_T42 l1 x10_2).f1.f3⟩ : S39), (⟨wrap64 (((rd_T42 l1 x10_2).f2.f0) + (l0.length : Int)), (rd_T42 l1 x10_2).f2.f1⟩ : S40)⟩ : S42)]) (wrap64 (x10_2 + 1))) else (none))) else (if t165 > 1 then (if x9_2.length < 2513169434916 then (dragomanref05_Join.l0 k2 l1 a2 (l0.length : Int) (x9_2 ++ [(⟨(rd_T42 l1 x10_2).f0, (⟨(rd_T42 l1 x10_2).f1.f0, (rd_T42 l1 x10_2).f1.f1, (rd_T42 l1 x10_2).f1.f2, (rd_T42 l1 x10_2).f1.f3⟩ : S39), (⟨(rd_T42 l1 x10_2).f2.f0, wrap64 (((rd_T42 l1 x10_2).f2.f1) + (l0.length : Int))⟩ : S40)⟩ : S42)]) (wrap64 (x10_2 + 1))) else (none)) else (if x9_2.length < 2513169434916 then (dragomanref05_Join.l0 k2 l1 a2 (l0.length : Int) (x9_2 ++ [(⟨(rd_T42 l1 x10_2).f0, (⟨(rd_T42 l1 x10_2).f1.f0, (rd_T42 l1 x10_2).f1.f1, (rd_T42 l1 x10_2).f1.f2, (rd_T42 l1 x10_2).f1.f3⟩ : S39), (⟨(rd_T42 l1 x10_2).f2.f0, (rd_T42 l1 x10_2).f2.f1⟩ : S40)⟩ : S42)]) (wrap64 (x10_2 + 1))) else (none)))) = some (r1, r2) := H
                    have A14 := Aside0.mk A140
                    clear A140
                    by_cases c15 : t165 > 0
                    · rw [if_pos c15] at H
                      have c15b0 : decide (0 < t165) = true := decide_eq_true c15
                      clear c15
                      by_cases c16 : t165 > 1
                      · rw [if_pos c16] at H
                        have c16b0 : decide (1 < t165) = true := decide_eq_true c16
                        clear c16
                        by_cases c17 : x9_2.length < 2513169434916
                        · rw [if_pos c17] at H
                          have LMc17 := Aside0.mk c17
                          clear c17
                          obtain ⟨y166, hy166⟩ : ∃ y_ : List (S42), y_ = (x9_2 ++ [(⟨(rd_T42 l1 x10_2).f0, (⟨(rd_T42 l1 x10_2).f1.f0, (rd_T42 l1 x10_2).f1.f1, (rd_T42 l1 x10_2).f1.f2, (rd_T42 l1 x10_2).f1.f3⟩ : S39), (⟨wrap64 (((rd_T42 l1 x10_2).f2.f0) + (l0.length : Int)), wrap64 (((rd_T42 l1 x10_2).f2.f1) + (l0.length : Int))⟩ : S40)⟩ : S42)]) := ⟨_, rfl⟩
                          replace H : (dragomanref05_Join.l0 k2 l1 a2 (l0.length : Int) y166 (wrap64 (x10_2 + 1))) = some (r1, r2) := by first | (rw [hy166]; with_reducible exact H) | (have H2_ := (Option.bind_some _ _).symm.trans H; rw [hy166]; with_reducible exact H2_) | (have H2_ := (Option.bind_some _ _).symm.trans H; with_reducible exact H2_) | with_reducible exact H | (rw [hy166]; exact H) | exact H
                          have Ny166 := Aside0.mk hy166
                          clear hy166
                          have H' := Aside0.mk H
                          clear H
                          have p163 : 0 ≤ (x10_2 : Int) := of_decide_eq_true (by first | (with_reducible assumption) | assumption)
                          have q163 : x10_2 < (l1.length : Int) := of_decide_eq_true (by first | (with_reducible assumption) | assumption)
                          obtain ⟨ad163, e163, hx163_0, hx163_1, hx163_2, hx163_3, hx163_4, hx163_5, hx163_6⟩ := at_T42 HR1.out x10_2 p163 q163
                          cases e163
                          replace hx163_0 := (HB.out.cell (World.block_lt_of_cell? w _ hx163_0)).trans hx163_0
                          replace hx163_1 := (HB.out.cell (World.block_lt_of_cell? w _ hx163_1)).trans hx163_1
                          replace hx163_2 := (HB.out.cell (World.block_lt_of_cell? w _ hx163_2)).trans hx163_2
                          replace hx163_3 := (HB.out.cell (World.block_lt_of_cell? w _ hx163_3)).trans hx163_3
                          replace hx163_4 := (HB.out.cell (World.block_lt_of_cell? w _ hx163_4)).trans hx163_4
                          replace hx163_5 := (HB.out.cell (World.block_lt_of_cell? w _ hx163_5)).trans hx163_5
                          replace hx163_6 := (HB.out.cell (World.block_lt_of_cell? w _ hx163_6)).trans hx163_6
                          replace p163 := eq_true p163
                          replace q163 := eq_true q163
                          go_wp2_with (first | ((with_reducible refine gate_dst (N := 11) rfl ?_); refine box_event ?hg (N := 11) ?hd (cs := #[.int .i64 0, .int .u64 0, .int .u64 0, .int .u64 0, .int .u64 0, .int .i64 0, .int .i64 0]) (t := 42) ?hr ?_; (case hd => rfl); (case hg => rfl); (case hr => first | (go_simp; done) | (go_simp; rfl)); intro gb164 hg w18 hbox hb; have n0_ := Aside0.mk (Kd.R_below (Kd.R_elderB (by (with_reducible repeat (first | apply Kd.R_alloc | apply Kd.R_drewN | apply Kd.R_drew)); exact HO_9.out) gb164 (Nat.le_of_eq hg.symm)) hb); have n1_ := Aside0.mk (below_step (by repeat (first | (with_reducible first | exact HB.out | apply below_alloc | apply pw_below_drewN | apply below_drew1) | exact HB.out)) hb); have n2_ := Aside0.mk (hbox); have n3_ := Aside0.mk ((by rw [hg]; exact (below_size (by repeat (first | (with_reducible first | exact HB.out | apply below_alloc | apply pw_below_drewN | apply below_drew1) | exact HB.out))) : w.heap.size ≤ gb164)); have n4_ := Aside0.mk ((by rw [hg]; exact (below_size (by repeat (first | (with_reducible first | exact HB.out | apply below_alloc | apply pw_below_drewN | apply below_drew1) | exact HB.out))) : w.heap.size ≤ gb164)); clear HO_9; clear HB; have HO_9 := n0_; have HB := n1_; have BK164 := n2_; have GW164 := n3_; have GE164 := n4_; clear n0_ n1_ n2_ n3_ n4_; clear hb hbox hg; have hcz19_0 : w18.cell? ⟨gb164, 0, none⟩ = some (.int .i64 0) := (blk_cell BK164.out 0).trans rfl; have hcz19_1 : w18.cell? ⟨gb164, 1, none⟩ = some (.int .u64 0) := (blk_cell BK164.out 1).trans rfl; have hcz19_2 : w18.cell? ⟨gb164, 2, none⟩ = some (.int .u64 0) := (blk_cell BK164.out 2).trans rfl; have hcz19_3 : w18.cell? ⟨gb164, 3, none⟩ = some (.int .u64 0) := (blk_cell BK164.out 3).trans rfl; have hcz19_4 : w18.cell? ⟨gb164, 4, none⟩ = some (.int .u64 0) := (blk_cell BK164.out 4).trans rfl; have hcz19_5 : w18.cell? ⟨gb164, 5, none⟩ = some (.int .i64 0) := (blk_cell BK164.out 5).trans rfl; have hcz19_6 : w18.cell? ⟨gb164, 6, none⟩ = some (.int .i64 0) := (blk_cell BK164.out 6).trans rfl; have hfz19_0 := blk_frozen BK164.out 0; have hfz19_1 := blk_frozen BK164.out 1; have hfz19_2 := blk_frozen BK164.out 2; have hfz19_3 := blk_frozen BK164.out 3; have hfz19_4 := blk_frozen BK164.out 4; have hfz19_5 := blk_frozen BK164.out 5; have hfz19_6 := blk_frozen BK164.out 6) | ((with_reducible refine gate_callee (f := 27) rfl ?_); refine goesL_ (some 41) rfl rfl Try.func27 (by kernel_rfl) rfl #[.int .i64 ((rd_T42 l1 x10_2).f0)] rfl (by (try simp only [List.map_toArray, List.map_cons, List.map_nil]); first | done | rfl | (simp only [List.length_drop, List.length_take]; rfl)) ?_; (with_reducible refine (dragomanref05_many.calls k2 ((rd_T42 l1 x10_2).f0) t165 _ A14.out).mono ?_); rintro e w' ⟨rfl, ⟨nd, rfl⟩⟩; refine ⟨_, rfl, ?_⟩; have n0_ := Aside0.mk (blk_drewN (blk_put (cs := #[.int .i64 ((rd_T42 l1 x10_2).f0), .int .u64 ((rd_T42 l1 x10_2).f1.f0), .int .u64 ((rd_T42 l1 x10_2).f1.f1), .int .u64 ((rd_T42 l1 x10_2).f1.f2), .int .u64 ((rd_T42 l1 x10_2).f1.f3), .int .i64 ((rd_T42 l1 x10_2).f2.f0), .int .i64 0]) (cs' := #[.int .i64 ((rd_T42 l1 x10_2).f0), .int .u64 ((rd_T42 l1 x10_2).f1.f0), .int .u64 ((rd_T42 l1 x10_2).f1.f1), .int .u64 ((rd_T42 l1 x10_2).f1.f2), .int .u64 ((rd_T42 l1 x10_2).f1.f3), .int .i64 ((rd_T42 l1 x10_2).f2.f0), .int .i64 ((rd_T42 l1 x10_2).f2.f1)]) (blk_put (cs := #[.int .i64 ((rd_T42 l1 x10_2).f0), .int .u64 ((rd_T42 l1 x10_2).f1.f0), .int .u64 ((rd_T42 l1 x10_2).f1.f1), .int .u64 ((rd_T42 l1 x10_2).f1.f2), .int .u64 ((rd_T42 l1 x10_2).f1.f3), .int .i64 0, .int .i64 0]) (cs' := #[.int .i64 ((rd_T42 l1 x10_2).f0), .int .u64 ((rd_T42 l1 x10_2).f1.f0), .int .u64 ((rd_T42 l1 x10_2).f1.f1), .int .u64 ((rd_T42 l1 x10_2).f1.f2), .int .u64 ((rd_T42 l1 x10_2).f1.f3), .int .i64 ((rd_T42 l1 x10_2).f2.f0), .int .i64 0]) (blk_put (cs := #[.int .i64 ((rd_T42 l1 x10_2).f0), .int .u64 ((rd_T42 l1 x10_2).f1.f0), .int .u64 ((rd_T42 l1 x10_2).f1.f1), .int .u64 ((rd_T42 l1 x10_2).f1.f2), .int .u64 0, .int .i64 0, .int .i64 0]) (cs' := #[.int .i64 ((rd_T42 l1 x10_2).f0), .int .u64 ((rd_T42 l1 x10_2).f1.f0), .int .u64 ((rd_T42 l1 x10_2).f1.f1), .int .u64 ((rd_T42 l1 x10_2).f1.f2), .int .u64 ((rd_T42 l1 x10_2).f1.f3), .int .i64 0, .int .i64 0]) (blk_put (cs := #[.int .i64 ((rd_T42 l1 x10_2).f0), .int .u64 ((rd_T42 l1 x10_2).f1.f0), .int .u64 ((rd_T42 l1 x10_2).f1.f1), .int .u64 0, .int .u64 0, .int .i64 0, .int .i64 0]) (cs' := #[.int .i64 ((rd_T42 l1 x10_2).f0), .int .u64 ((rd_T42 l1 x10_2).f1.f0), .int .u64 ((rd_T42 l1 x10_2).f1.f1), .int .u64 ((rd_T42 l1 x10_2).f1.f2), .int .u64 0, .int .i64 0, .int .i64 0]) (blk_put (cs := #[.int .i64 ((rd_T42 l1 x10_2).f0), .int .u64 ((rd_T42 l1 x10_2).f1.f0), .int .u64 0, .int .u64 0, .int .u64 0, .int .i64 0, .int .i64 0]) (cs' := #[.int .i64 ((rd_T42 l1 x10_2).f0), .int .u64 ((rd_T42 l1 x10_2).f1.f0), .int .u64 ((rd_T42 l1 x10_2).f1.f1), .int .u64 0, .int .u64 0, .int .i64 0, .int .i64 0]) (blk_put (cs := #[.int .i64 ((rd_T42 l1 x10_2).f0), .int .u64 0, .int .u64 0, .int .u64 0, .int .u64 0, .int .i64 0, .int .i64 0]) (cs' := #[.int .i64 ((rd_T42 l1 x10_2).f0), .int .u64 ((rd_T42 l1 x10_2).f1.f0), .int .u64 0, .int .u64 0, .int .u64 0, .int .i64 0, .int .i64 0]) (blk_put (cs := #[.int .i64 0, .int .u64 0, .int .u64 0, .int .u64 0, .int .u64 0, .int .i64 0, .int .i64 0]) (cs' := #[.int .i64 ((rd_T42 l1 x10_2).f0), .int .u64 0, .int .u64 0, .int .u64 0, .int .u64 0, .int .i64 0, .int .i64 0]) BK164.out 0 (.int .i64 ((rd_T42 l1 x10_2).f0)) rfl) 1 (.int .u64 ((rd_T42 l1 x10_2).f1.f0)) rfl) 2 (.int .u64 ((rd_T42 l1 x10_2).f1.f1)) rfl) 3 (.int .u64 ((rd_T42 l1 x10_2).f1.f2)) rfl) 4 (.int .u64 ((rd_T42 l1 x10_2).f1.f3)) rfl) 5 (.int .i64 ((rd_T42 l1 x10_2).f2.f0)) rfl) 6 (.int .i64 ((rd_T42 l1 x10_2).f2.f1)) rfl) nd); have n1_ := Aside0.mk (Kd.R_drewN (Kd.R_far (p := ⟨gb164, 6, none⟩) (Kd.R_far (p := ⟨gb164, 5, none⟩) (Kd.R_far (p := ⟨gb164, 4, none⟩) (Kd.R_far (p := ⟨gb164, 3, none⟩) (Kd.R_far (p := ⟨gb164, 2, none⟩) (Kd.R_far (p := ⟨gb164, 1, none⟩) (Kd.R_far (p := ⟨gb164, 0, none⟩) (Kd.R_mono HO_9.out (fun k_ hk => (⟨hk, hk.2⟩ : _ ∧ k_ ≠ gb164))) (fun _ hk => hk.2) (.int .i64 ((rd_T42 l1 x10_2).f0))) (fun _ hk => hk.2) (.int .u64 ((rd_T42 l1 x10_2).f1.f0))) (fun _ hk => hk.2) (.int .u64 ((rd_T42 l1 x10_2).f1.f1))) (fun _ hk => hk.2) (.int .u64 ((rd_T42 l1 x10_2).f1.f2))) (fun _ hk => hk.2) (.int .u64 ((rd_T42 l1 x10_2).f1.f3))) (fun _ hk => hk.2) (.int .i64 ((rd_T42 l1 x10_2).f2.f0))) (fun _ hk => hk.2) (.int .i64 ((rd_T42 l1 x10_2).f2.f1))) nd); have n2_ : Aside0 (Below w.heap.size w ((((((((w18.setCell ⟨gb164, 0, none⟩ (.int .i64 ((rd_T42 l1 x10_2).f0))).setCell ⟨gb164, 1, none⟩ (.int .u64 ((rd_T42 l1 x10_2).f1.f0))).setCell ⟨gb164, 2, none⟩ (.int .u64 ((rd_T42 l1 x10_2).f1.f1))).setCell ⟨gb164, 3, none⟩ (.int .u64 ((rd_T42 l1 x10_2).f1.f2))).setCell ⟨gb164, 4, none⟩ (.int .u64 ((rd_T42 l1 x10_2).f1.f3))).setCell ⟨gb164, 5, none⟩ (.int .i64 ((rd_T42 l1 x10_2).f2.f0))).setCell ⟨gb164, 6, none⟩ (.int .i64 ((rd_T42 l1 x10_2).f2.f1))).drewN nd)) := ⟨pw_below_drewN (below_set (below_set (below_set (below_set (below_set (below_set (below_set HB.out GE164.out) GE164.out) GE164.out) GE164.out) GE164.out) GE164.out) GE164.out) nd⟩; generalize (((((((w18.setCell ⟨gb164, 0, none⟩ (.int .i64 ((rd_T42 l1 x10_2).f0))).setCell ⟨gb164, 1, none⟩ (.int .u64 ((rd_T42 l1 x10_2).f1.f0))).setCell ⟨gb164, 2, none⟩ (.int .u64 ((rd_T42 l1 x10_2).f1.f1))).setCell ⟨gb164, 3, none⟩ (.int .u64 ((rd_T42 l1 x10_2).f1.f2))).setCell ⟨gb164, 4, none⟩ (.int .u64 ((rd_T42 l1 x10_2).f1.f3))).setCell ⟨gb164, 5, none⟩ (.int .i64 ((rd_T42 l1 x10_2).f2.f0))).setCell ⟨gb164, 6, none⟩ (.int .i64 ((rd_T42 l1 x10_2).f2.f1))).drewN nd = w99 at n0_ n1_ n2_ ⊢; clear BK164; clear HO_9; clear HB; have BK164 := n0_; have HO_9 := n1_; have HB := n2_; clear n0_ n1_ n2_; have hcy0 : w99.cell? ⟨gb164, 0, none⟩ = some (.int .i64 ((rd_T42 l1 x10_2).f0)) := (blk_cell BK164.out 0).trans rfl; have hfy0 := blk_frozen BK164.out 0; have hcy1 : w99.cell? ⟨gb164, 1, none⟩ = some (.int .u64 ((rd_T42 l1 x10_2).f1.f0)) := (blk_cell BK164.out 1).trans rfl; have hfy1 := blk_frozen BK164.out 1; have hcy2 : w99.cell? ⟨gb164, 2, none⟩ = some (.int .u64 ((rd_T42 l1 x10_2).f1.f1)) := (blk_cell BK164.out 2).trans rfl; have hfy2 := blk_frozen BK164.out 2; have hcy3 : w99.cell? ⟨gb164, 3, none⟩ = some (.int .u64 ((rd_T42 l1 x10_2).f1.f2)) := (blk_cell BK164.out 3).trans rfl; have hfy3 := blk_frozen BK164.out 3; have hcy4 : w99.cell? ⟨gb164, 4, none⟩ = some (.int .u64 ((rd_T42 l1 x10_2).f1.f3)) := (blk_cell BK164.out 4).trans rfl; have hfy4 := blk_frozen BK164.out 4; have hcy5 : w99.cell? ⟨gb164, 5, none⟩ = some (.int .i64 ((rd_T42 l1 x10_2).f2.f0)) := (blk_cell BK164.out 5).trans rfl; have hfy5 := blk_frozen BK164.out 5; have hcy6 : w99.cell? ⟨gb164, 6, none⟩ = some (.int .i64 ((rd_T42 l1 x10_2).f2.f1)) := (blk_cell BK164.out 6).trans rfl; have hfy6 := blk_frozen BK164.out 6) | ((with_reducible refine gate_builtin (b := .append) (xs := #[.tmp 60, .tmp 62]) rfl ?_); at_builtin; refine Kd.R_append k42 (w0 := w) w.heap.size rfl (.tmp 60) (.tmp 62) 22 42 (.agg #[(.int .i64 0), (.int .u64 0), (.int .u64 0), (.int .u64 0), (.int .u64 0), (.int .i64 0), (.int .i64 0)]) 56 rfl Try.underlying22 info42 rfl (by decide) (by omega) u9 x9_2 (⟨(rd_T42 l1 x10_2).f0, (⟨(rd_T42 l1 x10_2).f1.f0, (rd_T42 l1 x10_2).f1.f1, (rd_T42 l1 x10_2).f1.f2, (rd_T42 l1 x10_2).f1.f3⟩ : S39), (⟨wrap64 (((rd_T42 l1 x10_2).f2.f0) + (l0.length : Int)), wrap64 (((rd_T42 l1 x10_2).f2.f1) + (l0.length : Int))⟩ : S40)⟩ : S42) [.int .i64 ((rd_T42 l1 x10_2).f0), .int .u64 ((rd_T42 l1 x10_2).f1.f0), .int .u64 ((rd_T42 l1 x10_2).f1.f1), .int .u64 ((rd_T42 l1 x10_2).f1.f2), .int .u64 ((rd_T42 l1 x10_2).f1.f3), .int .i64 (wrap64 (((rd_T42 l1 x10_2).f2.f0) + (l0.length : Int))), .int .i64 (wrap64 (((rd_T42 l1 x10_2).f2.f1) + (l0.length : Int)))] (fun k_ => k_ ≠ gb164) (fun _ => False) rfl (by first | (go_simp; done) | (go_simp; rfl)) ?aP (fun _ hk => hk.elim) ?aF ?aO ?aB ?aS ?aL ?_; (case aP => exact k42_mkM _ _ _ (⟨(rd_T42 l1 x10_2).f0, (⟨(rd_T42 l1 x10_2).f1.f0, (rd_T42 l1 x10_2).f1.f1, (rd_T42 l1 x10_2).f1.f2, (rd_T42 l1 x10_2).f1.f3⟩ : S39), (⟨wrap64 (((rd_T42 l1 x10_2).f2.f0) + (l0.length : Int)), wrap64 (((rd_T42 l1 x10_2).f2.f1) + (l0.length : Int))⟩ : S40)⟩ : S42)); (case aB => exact (by repeat (first | (with_reducible first | exact HB.out | apply below_alloc | apply pw_below_drewN | apply below_drew1 | refine below_set ?_ GE164.out) | exact HB.out))); (case aF => exact (fun k_ hk => Kd.freshB (g := gb164) (o := .cells #[.int .i64 ((rd_T42 l1 x10_2).f0), .int .u64 ((rd_T42 l1 x10_2).f1.f0), .int .u64 ((rd_T42 l1 x10_2).f1.f1), .int .u64 ((rd_T42 l1 x10_2).f1.f2), .int .u64 ((rd_T42 l1 x10_2).f1.f3), .int .i64 (wrap64 (((rd_T42 l1 x10_2).f2.f0) + (l0.length : Int))), .int .i64 (wrap64 (((rd_T42 l1 x10_2).f2.f1) + (l0.length : Int)))] 42 (0, 0)) (by (with_reducible repeat (first | refine blk_drewN ?_ _ | refine blk_drew ?_ | refine blk_alloc ?_ _)); refine blk_put (cs := #[.int .i64 ((rd_T42 l1 x10_2).f0), .int .u64 ((rd_T42 l1 x10_2).f1.f0), .int .u64 ((rd_T42 l1 x10_2).f1.f1), .int .u64 ((rd_T42 l1 x10_2).f1.f2), .int .u64 ((rd_T42 l1 x10_2).f1.f3), .int .i64 (wrap64 (((rd_T42 l1 x10_2).f2.f0) + (l0.length : Int))), .int .i64 ((rd_T42 l1 x10_2).f2.f1)]) ?_ 6 _ rfl; (with_reducible repeat (first | refine blk_drewN ?_ _ | refine blk_drew ?_ | refine blk_alloc ?_ _)); refine blk_put (cs := #[.int .i64 ((rd_T42 l1 x10_2).f0), .int .u64 ((rd_T42 l1 x10_2).f1.f0), .int .u64 ((rd_T42 l1 x10_2).f1.f1), .int .u64 ((rd_T42 l1 x10_2).f1.f2), .int .u64 ((rd_T42 l1 x10_2).f1.f3), .int .i64 ((rd_T42 l1 x10_2).f2.f0), .int .i64 ((rd_T42 l1 x10_2).f2.f1)]) ?_ 5 _ rfl; (with_reducible repeat (first | refine blk_drewN ?_ _ | refine blk_drew ?_ | refine blk_alloc ?_ _)); exact BK164.out) k_ hk)); (case aO => exact (by (with_reducible repeat (first | apply Kd.R_alloc | apply Kd.R_drewN | apply Kd.R_drew)); exact Kd.R_mono (Kd.R_far (p := ⟨gb164, 6, none⟩) (Kd.R_far (p := ⟨gb164, 5, none⟩) HO_9.out (fun _ hk => hk.2) (.int .i64 (wrap64 (((rd_T42 l1 x10_2).f2.f0) + (l0.length : Int))))) (fun _ hk => hk.2) (.int .i64 (wrap64 (((rd_T42 l1 x10_2).f2.f1) + (l0.length : Int))))) (fun _ hk => hk.1.2))); (case aS => exact (below_size (by repeat (first | (with_reducible first | exact HB.out | apply below_alloc | apply pw_below_drewN | apply below_drew1 | refine below_set ?_ GE164.out) | exact HB.out)))); (case aL => have := LMc17.out; omega); intro v167 w20 ho hb hg hat; rw [← Ny166.out] at ho; have n0_ := Aside0.mk (blk_grown (g := gb164) (o := .cells #[.int .i64 ((rd_T42 l1 x10_2).f0), .int .u64 ((rd_T42 l1 x10_2).f1.f0), .int .u64 ((rd_T42 l1 x10_2).f1.f1), .int .u64 ((rd_T42 l1 x10_2).f1.f2), .int .u64 ((rd_T42 l1 x10_2).f1.f3), .int .i64 (wrap64 (((rd_T42 l1 x10_2).f2.f0) + (l0.length : Int))), .int .i64 (wrap64 (((rd_T42 l1 x10_2).f2.f1) + (l0.length : Int)))] 42 (0, 0)) (by (with_reducible repeat (first | refine blk_drewN ?_ _ | refine blk_drew ?_ | refine blk_alloc ?_ _)); refine blk_put (cs := #[.int .i64 ((rd_T42 l1 x10_2).f0), .int .u64 ((rd_T42 l1 x10_2).f1.f0), .int .u64 ((rd_T42 l1 x10_2).f1.f1), .int .u64 ((rd_T42 l1 x10_2).f1.f2), .int .u64 ((rd_T42 l1 x10_2).f1.f3), .int .i64 (wrap64 (((rd_T42 l1 x10_2).f2.f0) + (l0.length : Int))), .int .i64 ((rd_T42 l1 x10_2).f2.f1)]) ?_ 6 _ rfl; (with_reducible repeat (first | refine blk_drewN ?_ _ | refine blk_drew ?_ | refine blk_alloc ?_ _)); refine blk_put (cs := #[.int .i64 ((rd_T42 l1 x10_2).f0), .int .u64 ((rd_T42 l1 x10_2).f1.f0), .int .u64 ((rd_T42 l1 x10_2).f1.f1), .int .u64 ((rd_T42 l1 x10_2).f1.f2), .int .u64 ((rd_T42 l1 x10_2).f1.f3), .int .i64 ((rd_T42 l1 x10_2).f2.f0), .int .i64 ((rd_T42 l1 x10_2).f2.f1)]) ?_ 5 _ rfl; (with_reducible repeat (first | refine blk_drewN ?_ _ | refine blk_drew ?_ | refine blk_alloc ?_ _)); exact BK164.out) hg (Kd.R_away HO_9.out (fun _ hk => hk.2))); have n1_ := Aside0.mk (hb); have n2_ := Aside0.mk (ho); clear BK164; clear HB; clear HO_9; have BK164 := n0_; have HB := n1_; have HO168 := n2_; clear n0_ n1_ n2_; clear ho hb hg hat))
                          go_roundg k2
                          case measure => have := HJ3.out; have := HK2.out; omega
                          case rel => exact ⟨(y166), (wrap64 (x10_2 + 1)), (by first | rfl | (simp; done) | (simp [*]; done)), H', ⟨by have := HJ3.out; have := HK2.out; omega⟩, ⟨by (with_reducible repeat (first | apply Kd.R_alloc | apply Kd.R_drewN | apply Kd.R_drew)); exact Kd.R_mono HO168.out (fun _ hk => trivial)⟩, ⟨by repeat (first | (with_reducible first | exact HB.out | apply below_alloc | apply pw_below_drewN | apply below_drew1 | refine below_set ?_ GE164.out) | exact HB.out)⟩⟩
                        · rw [if_neg c17] at H
                          exact absurd H (by simp)
                      · rw [if_neg c16] at H
                        have c16b0 : decide (1 < t165) = false := decide_eq_false c16
                        clear c16
                        by_cases c21 : x9_2.length < 2513169434916
                        · rw [if_pos c21] at H
                          have LMc21 := Aside0.mk c21
                          clear c21
                          obtain ⟨y169, hy169⟩ : ∃ y_ : List (S42), y_ = (x9_2 ++ [(⟨(rd_T42 l1 x10_2).f0, (⟨(rd_T42 l1 x10_2).f1.f0, (rd_T42 l1 x10_2).f1.f1, (rd_T42 l1 x10_2).f1.f2, (rd_T42 l1 x10_2).f1.f3⟩ : S39), (⟨wrap64 (((rd_T42 l1 x10_2).f2.f0) + (l0.length : Int)), (rd_T42 l1 x10_2).f2.f1⟩ : S40)⟩ : S42)]) := ⟨_, rfl⟩
                          replace H : (dragomanref05_Join.l0 k2 l1 a2 (l0.length : Int) y169 (wrap64 (x10_2 + 1))) = some (r1, r2) := by first | (rw [hy169]; with_reducible exact H) | (have H2_ := (Option.bind_some _ _).symm.trans H; rw [hy169]; with_reducible exact H2_) | (have H2_ := (Option.bind_some _ _).symm.trans H; with_reducible exact H2_) | with_reducible exact H | (rw [hy169]; exact H) | exact H
                          have Ny169 := Aside0.mk hy169
                          clear hy169
                          have H' := Aside0.mk H
                          clear H
                          have p163 : 0 ≤ (x10_2 : Int) := of_decide_eq_true (by first | (with_reducible assumption) | assumption)
                          have q163 : x10_2 < (l1.length : Int) := of_decide_eq_true (by first | (with_reducible assumption) | assumption)
                          obtain ⟨ad163, e163, hx163_0, hx163_1, hx163_2, hx163_3, hx163_4, hx163_5, hx163_6⟩ := at_T42 HR1.out x10_2 p163 q163
                          cases e163
                          replace hx163_0 := (HB.out.cell (World.block_lt_of_cell? w _ hx163_0)).trans hx163_0
                          replace hx163_1 := (HB.out.cell (World.block_lt_of_cell? w _ hx163_1)).trans hx163_1
                          replace hx163_2 := (HB.out.cell (World.block_lt_of_cell? w _ hx163_2)).trans hx163_2
                          replace hx163_3 := (HB.out.cell (World.block_lt_of_cell? w _ hx163_3)).trans hx163_3
                          replace hx163_4 := (HB.out.cell (World.block_lt_of_cell? w _ hx163_4)).trans hx163_4
                          replace hx163_5 := (HB.out.cell (World.block_lt_of_cell? w _ hx163_5)).trans hx163_5
                          replace hx163_6 := (HB.out.cell (World.block_lt_of_cell? w _ hx163_6)).trans hx163_6
                          replace p163 := eq_true p163
                          replace q163 := eq_true q163
                          go_wp2_with (first | ((with_reducible refine gate_dst (N := 11) rfl ?_); refine box_event ?hg (N := 11) ?hd (cs := #[.int .i64 0, .int .u64 0, .int .u64 0, .int .u64 0, .int .u64 0, .int .i64 0, .int .i64 0]) (t := 42) ?hr ?_; (case hd => rfl); (case hg => rfl); (case hr => first | (go_simp; done) | (go_simp; rfl)); intro gb164 hg w22 hbox hb; have n0_ := Aside0.mk (Kd.R_below (Kd.R_elderB (by (with_reducible repeat (first | apply Kd.R_alloc | apply Kd.R_drewN | apply Kd.R_drew)); exact HO_9.out) gb164 (Nat.le_of_eq hg.symm)) hb); have n1_ := Aside0.mk (below_step (by repeat (first | (with_reducible first | exact HB.out | apply below_alloc | apply pw_below_drewN | apply below_drew1) | exact HB.out)) hb); have n2_ := Aside0.mk (hbox); have n3_ := Aside0.mk ((by rw [hg]; exact (below_size (by repeat (first | (with_reducible first | exact HB.out | apply below_alloc | apply pw_below_drewN | apply below_drew1) | exact HB.out))) : w.heap.size ≤ gb164)); have n4_ := Aside0.mk ((by rw [hg]; exact (below_size (by repeat (first | (with_reducible first | exact HB.out | apply below_alloc | apply pw_below_drewN | apply below_drew1) | exact HB.out))) : w.heap.size ≤ gb164)); clear HO_9; clear HB; have HO_9 := n0_; have HB := n1_; have BK164 := n2_; have GW164 := n3_; have GE164 := n4_; clear n0_ n1_ n2_ n3_ n4_; clear hb hbox hg; have hcz23_0 : w22.cell? ⟨gb164, 0, none⟩ = some (.int .i64 0) := (blk_cell BK164.out 0).trans rfl; have hcz23_1 : w22.cell? ⟨gb164, 1, none⟩ = some (.int .u64 0) := (blk_cell BK164.out 1).trans rfl; have hcz23_2 : w22.cell? ⟨gb164, 2, none⟩ = some (.int .u64 0) := (blk_cell BK164.out 2).trans rfl; have hcz23_3 : w22.cell? ⟨gb164, 3, none⟩ = some (.int .u64 0) := (blk_cell BK164.out 3).trans rfl; have hcz23_4 : w22.cell? ⟨gb164, 4, none⟩ = some (.int .u64 0) := (blk_cell BK164.out 4).trans rfl; have hcz23_5 : w22.cell? ⟨gb164, 5, none⟩ = some (.int .i64 0) := (blk_cell BK164.out 5).trans rfl; have hcz23_6 : w22.cell? ⟨gb164, 6, none⟩ = some (.int .i64 0) := (blk_cell BK164.out 6).trans rfl; have hfz23_0 := blk_frozen BK164.out 0; have hfz23_1 := blk_frozen BK164.out 1; have hfz23_2 := blk_frozen BK164.out 2; have hfz23_3 := blk_frozen BK164.out 3; have hfz23_4 := blk_frozen BK164.out 4; have hfz23_5 := blk_frozen BK164.out 5; have hfz23_6 := blk_frozen BK164.out 6) | ((with_reducible refine gate_callee (f := 27) rfl ?_); refine goesL_ (some 41) rfl rfl Try.func27 (by kernel_rfl) rfl #[.int .i64 ((rd_T42 l1 x10_2).f0)] rfl (by (try simp only [List.map_toArray, List.map_cons, List.map_nil]); first | done | rfl | (simp only [List.length_drop, List.length_take]; rfl)) ?_; (with_reducible refine (dragomanref05_many.calls k2 ((rd_T42 l1 x10_2).f0) t165 _ A14.out).mono ?_); rintro e w' ⟨rfl, ⟨nd, rfl⟩⟩; refine ⟨_, rfl, ?_⟩; have n0_ := Aside0.mk (blk_drewN (blk_put (cs := #[.int .i64 ((rd_T42 l1 x10_2).f0), .int .u64 ((rd_T42 l1 x10_2).f1.f0), .int .u64 ((rd_T42 l1 x10_2).f1.f1), .int .u64 ((rd_T42 l1 x10_2).f1.f2), .int .u64 ((rd_T42 l1 x10_2).f1.f3), .int .i64 ((rd_T42 l1 x10_2).f2.f0), .int .i64 0]) (cs' := #[.int .i64 ((rd_T42 l1 x10_2).f0), .int .u64 ((rd_T42 l1 x10_2).f1.f0), .int .u64 ((rd_T42 l1 x10_2).f1.f1), .int .u64 ((rd_T42 l1 x10_2).f1.f2), .int .u64 ((rd_T42 l1 x10_2).f1.f3), .int .i64 ((rd_T42 l1 x10_2).f2.f0), .int .i64 ((rd_T42 l1 x10_2).f2.f1)]) (blk_put (cs := #[.int .i64 ((rd_T42 l1 x10_2).f0), .int .u64 ((rd_T42 l1 x10_2).f1.f0), .int .u64 ((rd_T42 l1 x10_2).f1.f1), .int .u64 ((rd_T42 l1 x10_2).f1.f2), .int .u64 ((rd_T42 l1 x10_2).f1.f3), .int .i64 0, .int .i64 0]) (cs' := #[.int .i64 ((rd_T42 l1 x10_2).f0), .int .u64 ((rd_T42 l1 x10_2).f1.f0), .int .u64 ((rd_T42 l1 x10_2).f1.f1), .int .u64 ((rd_T42 l1 x10_2).f1.f2), .int .u64 ((rd_T42 l1 x10_2).f1.f3), .int .i64 ((rd_T42 l1 x10_2).f2.f0), .int .i64 0]) (blk_put (cs := #[.int .i64 ((rd_T42 l1 x10_2).f0), .int .u64 ((rd_T42 l1 x10_2).f1.f0), .int .u64 ((rd_T42 l1 x10_2).f1.f1), .int .u64 ((rd_T42 l1 x10_2).f1.f2), .int .u64 0, .int .i64 0, .int .i64 0]) (cs' := #[.int .i64 ((rd_T42 l1 x10_2).f0), .int .u64 ((rd_T42 l1 x10_2).f1.f0), .int .u64 ((rd_T42 l1 x10_2).f1.f1), .int .u64 ((rd_T42 l1 x10_2).f1.f2), .int .u64 ((rd_T42 l1 x10_2).f1.f3), .int .i64 0, .int .i64 0]) (blk_put (cs := #[.int .i64 ((rd_T42 l1 x10_2).f0), .int .u64 ((rd_T42 l1 x10_2).f1.f0), .int .u64 ((rd_T42 l1 x10_2).f1.f1), .int .u64 0, .int .u64 0, .int .i64 0, .int .i64 0]) (cs' := #[.int .i64 ((rd_T42 l1 x10_2).f0), .int .u64 ((rd_T42 l1 x10_2).f1.f0), .int .u64 ((rd_T42 l1 x10_2).f1.f1), .int .u64 ((rd_T42 l1 x10_2).f1.f2), .int .u64 0, .int .i64 0, .int .i64 0]) (blk_put (cs := #[.int .i64 ((rd_T42 l1 x10_2).f0), .int .u64 ((rd_T42 l1 x10_2).f1.f0), .int .u64 0, .int .u64 0, .int .u64 0, .int .i64 0, .int .i64 0]) (cs' := #[.int .i64 ((rd_T42 l1 x10_2).f0), .int .u64 ((rd_T42 l1 x10_2).f1.f0), .int .u64 ((rd_T42 l1 x10_2).f1.f1), .int .u64 0, .int .u64 0, .int .i64 0, .int .i64 0]) (blk_put (cs := #[.int .i64 ((rd_T42 l1 x10_2).f0), .int .u64 0, .int .u64 0, .int .u64 0, .int .u64 0, .int .i64 0, .int .i64 0]) (cs' := #[.int .i64 ((rd_T42 l1 x10_2).f0), .int .u64 ((rd_T42 l1 x10_2).f1.f0), .int .u64 0, .int .u64 0, .int .u64 0, .int .i64 0, .int .i64 0]) (blk_put (cs := #[.int .i64 0, .int .u64 0, .int .u64 0, .int .u64 0, .int .u64 0, .int .i64 0, .int .i64 0]) (cs' := #[.int .i64 ((rd_T42 l1 x10_2).f0), .int .u64 0, .int .u64 0, .int .u64 0, .int .u64 0, .int .i64 0, .int .i64 0]) BK164.out 0 (.int .i64 ((rd_T42 l1 x10_2).f0)) rfl) 1 (.int .u64 ((rd_T42 l1 x10_2).f1.f0)) rfl) 2 (.int .u64 ((rd_T42 l1 x10_2).f1.f1)) rfl) 3 (.int .u64 ((rd_T42 l1 x10_2).f1.f2)) rfl) 4 (.int .u64 ((rd_T42 l1 x10_2).f1.f3)) rfl) 5 (.int .i64 ((rd_T42 l1 x10_2).f2.f0)) rfl) 6 (.int .i64 ((rd_T42 l1 x10_2).f2.f1)) rfl) nd); have n1_ := Aside0.mk (Kd.R_drewN (Kd.R_far (p := ⟨gb164, 6, none⟩) (Kd.R_far (p := ⟨gb164, 5, none⟩) (Kd.R_far (p := ⟨gb164, 4, none⟩) (Kd.R_far (p := ⟨gb164, 3, none⟩) (Kd.R_far (p := ⟨gb164, 2, none⟩) (Kd.R_far (p := ⟨gb164, 1, none⟩) (Kd.R_far (p := ⟨gb164, 0, none⟩) (Kd.R_mono HO_9.out (fun k_ hk => (⟨hk, hk.2⟩ : _ ∧ k_ ≠ gb164))) (fun _ hk => hk.2) (.int .i64 ((rd_T42 l1 x10_2).f0))) (fun _ hk => hk.2) (.int .u64 ((rd_T42 l1 x10_2).f1.f0))) (fun _ hk => hk.2) (.int .u64 ((rd_T42 l1 x10_2).f1.f1))) (fun _ hk => hk.2) (.int .u64 ((rd_T42 l1 x10_2).f1.f2))) (fun _ hk => hk.2) (.int .u64 ((rd_T42 l1 x10_2).f1.f3))) (fun _ hk => hk.2) (.int .i64 ((rd_T42 l1 x10_2).f2.f0))) (fun _ hk => hk.2) (.int .i64 ((rd_T42 l1 x10_2).f2.f1))) nd); have n2_ : Aside0 (Below w.heap.size w ((((((((w22.setCell ⟨gb164, 0, none⟩ (.int .i64 ((rd_T42 l1 x10_2).f0))).setCell ⟨gb164, 1, none⟩ (.int .u64 ((rd_T42 l1 x10_2).f1.f0))).setCell ⟨gb164, 2, none⟩ (.int .u64 ((rd_T42 l1 x10_2).f1.f1))).setCell ⟨gb164, 3, none⟩ (.int .u64 ((rd_T42 l1 x10_2).f1.f2))).setCell ⟨gb164, 4, none⟩ (.int .u64 ((rd_T42 l1 x10_2).f1.f3))).setCell ⟨gb164, 5, none⟩ (.int .i64 ((rd_T42 l1 x10_2).f2.f0))).setCell ⟨gb164, 6, none⟩ (.int .i64 ((rd_T42 l1 x10_2).f2.f1))).drewN nd)) := ⟨pw_below_drewN (below_set (below_set (below_set (below_set (below_set (below_set (below_set HB.out GE164.out) GE164.out) GE164.out) GE164.out) GE164.out) GE164.out) GE164.out) nd⟩; generalize (((((((w22.setCell ⟨gb164, 0, none⟩ (.int .i64 ((rd_T42 l1 x10_2).f0))).setCell ⟨gb164, 1, none⟩ (.int .u64 ((rd_T42 l1 x10_2).f1.f0))).setCell ⟨gb164, 2, none⟩ (.int .u64 ((rd_T42 l1 x10_2).f1.f1))).setCell ⟨gb164, 3, none⟩ (.int .u64 ((rd_T42 l1 x10_2).f1.f2))).setCell ⟨gb164, 4, none⟩ (.int .u64 ((rd_T42 l1 x10_2).f1.f3))).setCell ⟨gb164, 5, none⟩ (.int .i64 ((rd_T42 l1 x10_2).f2.f0))).setCell ⟨gb164, 6, none⟩ (.int .i64 ((rd_T42 l1 x10_2).f2.f1))).drewN nd = w99 at n0_ n1_ n2_ ⊢; clear BK164; clear HO_9; clear HB; have BK164 := n0_; have HO_9 := n1_; have HB := n2_; clear n0_ n1_ n2_; have hcy0 : w99.cell? ⟨gb164, 0, none⟩ = some (.int .i64 ((rd_T42 l1 x10_2).f0)) := (blk_cell BK164.out 0).trans rfl; have hfy0 := blk_frozen BK164.out 0; have hcy1 : w99.cell? ⟨gb164, 1, none⟩ = some (.int .u64 ((rd_T42 l1 x10_2).f1.f0)) := (blk_cell BK164.out 1).trans rfl; have hfy1 := blk_frozen BK164.out 1; have hcy2 : w99.cell? ⟨gb164, 2, none⟩ = some (.int .u64 ((rd_T42 l1 x10_2).f1.f1)) := (blk_cell BK164.out 2).trans rfl; have hfy2 := blk_frozen BK164.out 2; have hcy3 : w99.cell? ⟨gb164, 3, none⟩ = some (.int .u64 ((rd_T42 l1 x10_2).f1.f2)) := (blk_cell BK164.out 3).trans rfl; have hfy3 := blk_frozen BK164.out 3; have hcy4 : w99.cell? ⟨gb164, 4, none⟩ = some (.int .u64 ((rd_T42 l1 x10_2).f1.f3)) := (blk_cell BK164.out 4).trans rfl; have hfy4 := blk_frozen BK164.out 4; have hcy5 : w99.cell? ⟨gb164, 5, none⟩ = some (.int .i64 ((rd_T42 l1 x10_2).f2.f0)) := (blk_cell BK164.out 5).trans rfl; have hfy5 := blk_frozen BK164.out 5; have hcy6 : w99.cell? ⟨gb164, 6, none⟩ = some (.int .i64 ((rd_T42 l1 x10_2).f2.f1)) := (blk_cell BK164.out 6).trans rfl; have hfy6 := blk_frozen BK164.out 6) | ((with_reducible refine gate_builtin (b := .append) (xs := #[.tmp 60, .tmp 62]) rfl ?_); at_builtin; refine Kd.R_append k42 (w0 := w) w.heap.size rfl (.tmp 60) (.tmp 62) 22 42 (.agg #[(.int .i64 0), (.int .u64 0), (.int .u64 0), (.int .u64 0), (.int .u64 0), (.int .i64 0), (.int .i64 0)]) 56 rfl Try.underlying22 info42 rfl (by decide) (by omega) u9 x9_2 (⟨(rd_T42 l1 x10_2).f0, (⟨(rd_T42 l1 x10_2).f1.f0, (rd_T42 l1 x10_2).f1.f1, (rd_T42 l1 x10_2).f1.f2, (rd_T42 l1 x10_2).f1.f3⟩ : S39), (⟨wrap64 (((rd_T42 l1 x10_2).f2.f0) + (l0.length : Int)), (rd_T42 l1 x10_2).f2.f1⟩ : S40)⟩ : S42) [.int .i64 ((rd_T42 l1 x10_2).f0), .int .u64 ((rd_T42 l1 x10_2).f1.f0), .int .u64 ((rd_T42 l1 x10_2).f1.f1), .int .u64 ((rd_T42 l1 x10_2).f1.f2), .int .u64 ((rd_T42 l1 x10_2).f1.f3), .int .i64 (wrap64 (((rd_T42 l1 x10_2).f2.f0) + (l0.length : Int))), .int .i64 ((rd_T42 l1 x10_2).f2.f1)] (fun k_ => k_ ≠ gb164) (fun _ => False) rfl (by first | (go_simp; done) | (go_simp; rfl)) ?aP (fun _ hk => hk.elim) ?aF ?aO ?aB ?aS ?aL ?_; (case aP => exact k42_mkM _ _ _ (⟨(rd_T42 l1 x10_2).f0, (⟨(rd_T42 l1 x10_2).f1.f0, (rd_T42 l1 x10_2).f1.f1, (rd_T42 l1 x10_2).f1.f2, (rd_T42 l1 x10_2).f1.f3⟩ : S39), (⟨wrap64 (((rd_T42 l1 x10_2).f2.f0) + (l0.length : Int)), (rd_T42 l1 x10_2).f2.f1⟩ : S40)⟩ : S42)); (case aB => exact (by repeat (first | (with_reducible first | exact HB.out | apply below_alloc | apply pw_below_drewN | apply below_drew1 | refine below_set ?_ GE164.out) | exact HB.out))); (case aF => exact (fun k_ hk => Kd.freshB (g := gb164) (o := .cells #[.int .i64 ((rd_T42 l1 x10_2).f0), .int .u64 ((rd_T42 l1 x10_2).f1.f0), .int .u64 ((rd_T42 l1 x10_2).f1.f1), .int .u64 ((rd_T42 l1 x10_2).f1.f2), .int .u64 ((rd_T42 l1 x10_2).f1.f3), .int .i64 (wrap64 (((rd_T42 l1 x10_2).f2.f0) + (l0.length : Int))), .int .i64 ((rd_T42 l1 x10_2).f2.f1)] 42 (0, 0)) (by (with_reducible repeat (first | refine blk_drewN ?_ _ | refine blk_drew ?_ | refine blk_alloc ?_ _)); refine blk_put (cs := #[.int .i64 ((rd_T42 l1 x10_2).f0), .int .u64 ((rd_T42 l1 x10_2).f1.f0), .int .u64 ((rd_T42 l1 x10_2).f1.f1), .int .u64 ((rd_T42 l1 x10_2).f1.f2), .int .u64 ((rd_T42 l1 x10_2).f1.f3), .int .i64 ((rd_T42 l1 x10_2).f2.f0), .int .i64 ((rd_T42 l1 x10_2).f2.f1)]) ?_ 5 _ rfl; (with_reducible repeat (first | refine blk_drewN ?_ _ | refine blk_drew ?_ | refine blk_alloc ?_ _)); exact BK164.out) k_ hk)); (case aO => exact (by (with_reducible repeat (first | apply Kd.R_alloc | apply Kd.R_drewN | apply Kd.R_drew)); exact Kd.R_mono (Kd.R_far (p := ⟨gb164, 5, none⟩) HO_9.out (fun _ hk => hk.2) (.int .i64 (wrap64 (((rd_T42 l1 x10_2).f2.f0) + (l0.length : Int))))) (fun _ hk => hk.1.2))); (case aS => exact (below_size (by repeat (first | (with_reducible first | exact HB.out | apply below_alloc | apply pw_below_drewN | apply below_drew1 | refine below_set ?_ GE164.out) | exact HB.out)))); (case aL => have := LMc21.out; omega); intro v170 w24 ho hb hg hat; rw [← Ny169.out] at ho; have n0_ := Aside0.mk (blk_grown (g := gb164) (o := .cells #[.int .i64 ((rd_T42 l1 x10_2).f0), .int .u64 ((rd_T42 l1 x10_2).f1.f0), .int .u64 ((rd_T42 l1 x10_2).f1.f1), .int .u64 ((rd_T42 l1 x10_2).f1.f2), .int .u64 ((rd_T42 l1 x10_2).f1.f3), .int .i64 (wrap64 (((rd_T42 l1 x10_2).f2.f0) + (l0.length : Int))), .int .i64 ((rd_T42 l1 x10_2).f2.f1)] 42 (0, 0)) (by (with_reducible repeat (first | refine blk_drewN ?_ _ | refine blk_drew ?_ | refine blk_alloc ?_ _)); refine blk_put (cs := #[.int .i64 ((rd_T42 l1 x10_2).f0), .int .u64 ((rd_T42 l1 x10_2).f1.f0), .int .u64 ((rd_T42 l1 x10_2).f1.f1), .int .u64 ((rd_T42 l1 x10_2).f1.f2), .int .u64 ((rd_T42 l1 x10_2).f1.f3), .int .i64 ((rd_T42 l1 x10_2).f2.f0), .int .i64 ((rd_T42 l1 x10_2).f2.f1)]) ?_ 5 _ rfl; (with_reducible repeat (first | refine blk_drewN ?_ _ | refine blk_drew ?_ | refine blk_alloc ?_ _)); exact BK164.out) hg (Kd.R_away HO_9.out (fun _ hk => hk.2))); have n1_ := Aside0.mk (hb); have n2_ := Aside0.mk (ho); clear BK164; clear HB; clear HO_9; have BK164 := n0_; have HB := n1_; have HO171 := n2_; clear n0_ n1_ n2_; clear ho hb hg hat))
                          go_roundg k2
                          case measure => have := HJ3.out; have := HK2.out; omega
                          case rel => exact ⟨(y169), (wrap64 (x10_2 + 1)), (by first | rfl | (simp; done) | (simp [*]; done)), H', ⟨by have := HJ3.out; have := HK2.out; omega⟩, ⟨by (with_reducible repeat (first | apply Kd.R_alloc | apply Kd.R_drewN | apply Kd.R_drew)); exact Kd.R_mono HO171.out (fun _ hk => trivial)⟩, ⟨by repeat (first | (with_reducible first | exact HB.out | apply below_alloc | apply pw_below_drewN | apply below_drew1 | refine below_set ?_ GE164.out) | exact HB.out)⟩⟩
                        · rw [if_neg c21] at H
                          exact absurd H (by simp)
                    · rw [if_neg c15] at H
                      have c15b0 : decide (0 < t165) = false := decide_eq_false c15
                      clear c15
                      by_cases c25 : t165 > 1
                      · rw [if_pos c25] at H
                        have c25b0 : decide (1 < t165) = true := decide_eq_true c25
                        clear c25
                        by_cases c26 : x9_2.length < 2513169434916
                        · rw [if_pos c26] at H
                          have LMc26 := Aside0.mk c26
                          clear c26
                          obtain ⟨y172, hy172⟩ : ∃ y_ : List (S42), y_ = (x9_2 ++ [(⟨(rd_T42 l1 x10_2).f0, (⟨(rd_T42 l1 x10_2).f1.f0, (rd_T42 l1 x10_2).f1.f1, (rd_T42 l1 x10_2).f1.f2, (rd_T42 l1 x10_2).f1.f3⟩ : S39), (⟨(rd_T42 l1 x10_2).f2.f0, wrap64 (((rd_T42 l1 x10_2).f2.f1) + (l0.length : Int))⟩ : S40)⟩ : S42)]) := ⟨_, rfl⟩
                          replace H : (dragomanref05_Join.l0 k2 l1 a2 (l0.length : Int) y172 (wrap64 (x10_2 + 1))) = some (r1, r2) := by first | (rw [hy172]; with_reducible exact H) | (have H2_ := (Option.bind_some _ _).symm.trans H; rw [hy172]; with_reducible exact H2_) | (have H2_ := (Option.bind_some _ _).symm.trans H; with_reducible exact H2_) | with_reducible exact H | (rw [hy172]; exact H) | exact H
                          have Ny172 := Aside0.mk hy172
                          clear hy172
                          have H' := Aside0.mk H
                          clear H
                          have p163 : 0 ≤ (x10_2 : Int) := of_decide_eq_true (by first | (with_reducible assumption) | assumption)
                          have q163 : x10_2 < (l1.length : Int) := of_decide_eq_true (by first | (with_reducible assumption) | assumption)
                          obtain ⟨ad163, e163, hx163_0, hx163_1, hx163_2, hx163_3, hx163_4, hx163_5, hx163_6⟩ := at_T42 HR1.out x10_2 p163 q163
                          cases e163
                          replace hx163_0 := (HB.out.cell (World.block_lt_of_cell? w _ hx163_0)).trans hx163_0
                          replace hx163_1 := (HB.out.cell (World.block_lt_of_cell? w _ hx163_1)).trans hx163_1
                          replace hx163_2 := (HB.out.cell (World.block_lt_of_cell? w _ hx163_2)).trans hx163_2
                          replace hx163_3 := (HB.out.cell (World.block_lt_of_cell? w _ hx163_3)).trans hx163_3
                          replace hx163_4 := (HB.out.cell (World.block_lt_of_cell? w _ hx163_4)).trans hx163_4
                          replace hx163_5 := (HB.out.cell (World.block_lt_of_cell? w _ hx163_5)).trans hx163_5
                          replace hx163_6 := (HB.out.cell (World.block_lt_of_cell? w _ hx163_6)).trans hx163_6
                          replace p163 := eq_true p163
                          replace q163 := eq_true q163
                          go_wp2_with (first | ((with_reducible refine gate_dst (N := 11) rfl ?_); refine box_event ?hg (N := 11) ?hd (cs := #[.int .i64 0, .int .u64 0, .int .u64 0, .int .u64 0, .int .u64 0, .int .i64 0, .int .i64 0]) (t := 42) ?hr ?_; (case hd => rfl); (case hg => rfl); (case hr => first | (go_simp; done) | (go_simp; rfl)); intro gb164 hg w27 hbox hb; have n0_ := Aside0.mk (Kd.R_below (Kd.R_elderB (by (with_reducible repeat (first | apply Kd.R_alloc | apply Kd.R_drewN | apply Kd.R_drew)); exact HO_9.out) gb164 (Nat.le_of_eq hg.symm)) hb); have n1_ := Aside0.mk (below_step (by repeat (first | (with_reducible first | exact HB.out | apply below_alloc | apply pw_below_drewN | apply below_drew1) | exact HB.out)) hb); have n2_ := Aside0.mk (hbox); have n3_ := Aside0.mk ((by rw [hg]; exact (below_size (by repeat (first | (with_reducible first | exact HB.out | apply below_alloc | apply pw_below_drewN | apply below_drew1) | exact HB.out))) : w.heap.size ≤ gb164)); have n4_ := Aside0.mk ((by rw [hg]; exact (below_size (by repeat (first | (with_reducible first | exact HB.out | apply below_alloc | apply pw_below_drewN | apply below_drew1) | exact HB.out))) : w.heap.size ≤ gb164)); clear HO_9; clear HB; have HO_9 := n0_; have HB := n1_; have BK164 := n2_; have GW164 := n3_; have GE164 := n4_; clear n0_ n1_ n2_ n3_ n4_; clear hb hbox hg; have hcz28_0 : w27.cell? ⟨gb164, 0, none⟩ = some (.int .i64 0) := (blk_cell BK164.out 0).trans rfl; have hcz28_1 : w27.cell? ⟨gb164, 1, none⟩ = some (.int .u64 0) := (blk_cell BK164.out 1).trans rfl; have hcz28_2 : w27.cell? ⟨gb164, 2, none⟩ = some (.int .u64 0) := (blk_cell BK164.out 2).trans rfl; have hcz28_3 : w27.cell? ⟨gb164, 3, none⟩ = some (.int .u64 0) := (blk_cell BK164.out 3).trans rfl; have hcz28_4 : w27.cell? ⟨gb164, 4, none⟩ = some (.int .u64 0) := (blk_cell BK164.out 4).trans rfl; have hcz28_5 : w27.cell? ⟨gb164, 5, none⟩ = some (.int .i64 0) := (blk_cell BK164.out 5).trans rfl; have hcz28_6 : w27.cell? ⟨gb164, 6, none⟩ = some (.int .i64 0) := (blk_cell BK164.out 6).trans rfl; have hfz28_0 := blk_frozen BK164.out 0; have hfz28_1 := blk_frozen BK164.out 1; have hfz28_2 := blk_frozen BK164.out 2; have hfz28_3 := blk_frozen BK164.out 3; have hfz28_4 := blk_frozen BK164.out 4; have hfz28_5 := blk_frozen BK164.out 5; have hfz28_6 := blk_frozen BK164.out 6) | ((with_reducible refine gate_callee (f := 27) rfl ?_); refine goesL_ (some 41) rfl rfl Try.func27 (by kernel_rfl) rfl #[.int .i64 ((rd_T42 l1 x10_2).f0)] rfl (by (try simp only [List.map_toArray, List.map_cons, List.map_nil]); first | done | rfl | (simp only [List.length_drop, List.length_take]; rfl)) ?_; (with_reducible refine (dragomanref05_many.calls k2 ((rd_T42 l1 x10_2).f0) t165 _ A14.out).mono ?_); rintro e w' ⟨rfl, ⟨nd, rfl⟩⟩; refine ⟨_, rfl, ?_⟩; have n0_ := Aside0.mk (blk_drewN (blk_put (cs := #[.int .i64 ((rd_T42 l1 x10_2).f0), .int .u64 ((rd_T42 l1 x10_2).f1.f0), .int .u64 ((rd_T42 l1 x10_2).f1.f1), .int .u64 ((rd_T42 l1 x10_2).f1.f2), .int .u64 ((rd_T42 l1 x10_2).f1.f3), .int .i64 ((rd_T42 l1 x10_2).f2.f0), .int .i64 0]) (cs' := #[.int .i64 ((rd_T42 l1 x10_2).f0), .int .u64 ((rd_T42 l1 x10_2).f1.f0), .int .u64 ((rd_T42 l1 x10_2).f1.f1), .int .u64 ((rd_T42 l1 x10_2).f1.f2), .int .u64 ((rd_T42 l1 x10_2).f1.f3), .int .i64 ((rd_T42 l1 x10_2).f2.f0), .int .i64 ((rd_T42 l1 x10_2).f2.f1)]) (blk_put (cs := #[.int .i64 ((rd_T42 l1 x10_2).f0), .int .u64 ((rd_T42 l1 x10_2).f1.f0), .int .u64 ((rd_T42 l1 x10_2).f1.f1), .int .u64 ((rd_T42 l1 x10_2).f1.f2), .int .u64 ((rd_T42 l1 x10_2).f1.f3), .int .i64 0, .int .i64 0]) (cs' := #[.int .i64 ((rd_T42 l1 x10_2).f0), .int .u64 ((rd_T42 l1 x10_2).f1.f0), .int .u64 ((rd_T42 l1 x10_2).f1.f1), .int .u64 ((rd_T42 l1 x10_2).f1.f2), .int .u64 ((rd_T42 l1 x10_2).f1.f3), .int .i64 ((rd_T42 l1 x10_2).f2.f0), .int .i64 0]) (blk_put (cs := #[.int .i64 ((rd_T42 l1 x10_2).f0), .int .u64 ((rd_T42 l1 x10_2).f1.f0), .int .u64 ((rd_T42 l1 x10_2).f1.f1), .int .u64 ((rd_T42 l1 x10_2).f1.f2), .int .u64 0, .int .i64 0, .int .i64 0]) (cs' := #[.int .i64 ((rd_T42 l1 x10_2).f0), .int .u64 ((rd_T42 l1 x10_2).f1.f0), .int .u64 ((rd_T42 l1 x10_2).f1.f1), .int .u64 ((rd_T42 l1 x10_2).f1.f2), .int .u64 ((rd_T42 l1 x10_2).f1.f3), .int .i64 0, .int .i64 0]) (blk_put (cs := #[.int .i64 ((rd_T42 l1 x10_2).f0), .int .u64 ((rd_T42 l1 x10_2).f1.f0), .int .u64 ((rd_T42 l1 x10_2).f1.f1), .int .u64 0, .int .u64 0, .int .i64 0, .int .i64 0]) (cs' := #[.int .i64 ((rd_T42 l1 x10_2).f0), .int .u64 ((rd_T42 l1 x10_2).f1.f0), .int .u64 ((rd_T42 l1 x10_2).f1.f1), .int .u64 ((rd_T42 l1 x10_2).f1.f2), .int .u64 0, .int .i64 0, .int .i64 0]) (blk_put (cs := #[.int .i64 ((rd_T42 l1 x10_2).f0), .int .u64 ((rd_T42 l1 x10_2).f1.f0), .int .u64 0, .int .u64 0, .int .u64 0, .int .i64 0, .int .i64 0]) (cs' := #[.int .i64 ((rd_T42 l1 x10_2).f0), .int .u64 ((rd_T42 l1 x10_2).f1.f0), .int .u64 ((rd_T42 l1 x10_2).f1.f1), .int .u64 0, .int .u64 0, .int .i64 0, .int .i64 0]) (blk_put (cs := #[.int .i64 ((rd_T42 l1 x10_2).f0), .int .u64 0, .int .u64 0, .int .u64 0, .int .u64 0, .int .i64 0, .int .i64 0]) (cs' := #[.int .i64 ((rd_T42 l1 x10_2).f0), .int .u64 ((rd_T42 l1 x10_2).f1.f0), .int .u64 0, .int .u64 0, .int .u64 0, .int .i64 0, .int .i64 0]) (blk_put (cs := #[.int .i64 0, .int .u64 0, .int .u64 0, .int .u64 0, .int .u64 0, .int .i64 0, .int .i64 0]) (cs' := #[.int .i64 ((rd_T42 l1 x10_2).f0), .int .u64 0, .int .u64 0, .int .u64 0, .int .u64 0, .int .i64 0, .int .i64 0]) BK164.out 0 (.int .i64 ((rd_T42 l1 x10_2).f0)) rfl) 1 (.int .u64 ((rd_T42 l1 x10_2).f1.f0)) rfl) 2 (.int .u64 ((rd_T42 l1 x10_2).f1.f1)) rfl) 3 (.int .u64 ((rd_T42 l1 x10_2).f1.f2)) rfl) 4 (.int .u64 ((rd_T42 l1 x10_2).f1.f3)) rfl) 5 (.int .i64 ((rd_T42 l1 x10_2).f2.f0)) rfl) 6 (.int .i64 ((rd_T42 l1 x10_2).f2.f1)) rfl) nd); have n1_ := Aside0.mk (Kd.R_drewN (Kd.R_far (p := ⟨gb164, 6, none⟩) (Kd.R_far (p := ⟨gb164, 5, none⟩) (Kd.R_far (p := ⟨gb164, 4, none⟩) (Kd.R_far (p := ⟨gb164, 3, none⟩) (Kd.R_far (p := ⟨gb164, 2, none⟩) (Kd.R_far (p := ⟨gb164, 1, none⟩) (Kd.R_far (p := ⟨gb164, 0, none⟩) (Kd.R_mono HO_9.out (fun k_ hk => (⟨hk, hk.2⟩ : _ ∧ k_ ≠ gb164))) (fun _ hk => hk.2) (.int .i64 ((rd_T42 l1 x10_2).f0))) (fun _ hk => hk.2) (.int .u64 ((rd_T42 l1 x10_2).f1.f0))) (fun _ hk => hk.2) (.int .u64 ((rd_T42 l1 x10_2).f1.f1))) (fun _ hk => hk.2) (.int .u64 ((rd_T42 l1 x10_2).f1.f2))) (fun _ hk => hk.2) (.int .u64 ((rd_T42 l1 x10_2).f1.f3))) (fun _ hk => hk.2) (.int .i64 ((rd_T42 l1 x10_2).f2.f0))) (fun _ hk => hk.2) (.int .i64 ((rd_T42 l1 x10_2).f2.f1))) nd); have n2_ : Aside0 (Below w.heap.size w ((((((((w27.setCell ⟨gb164, 0, none⟩ (.int .i64 ((rd_T42 l1 x10_2).f0))).setCell ⟨gb164, 1, none⟩ (.int .u64 ((rd_T42 l1 x10_2).f1.f0))).setCell ⟨gb164, 2, none⟩ (.int .u64 ((rd_T42 l1 x10_2).f1.f1))).setCell ⟨gb164, 3, none⟩ (.int .u64 ((rd_T42 l1 x10_2).f1.f2))).setCell ⟨gb164, 4, none⟩ (.int .u64 ((rd_T42 l1 x10_2).f1.f3))).setCell ⟨gb164, 5, none⟩ (.int .i64 ((rd_T42 l1 x10_2).f2.f0))).setCell ⟨gb164, 6, none⟩ (.int .i64 ((rd_T42 l1 x10_2).f2.f1))).drewN nd)) := ⟨pw_below_drewN (below_set (below_set (below_set (below_set (below_set (below_set (below_set HB.out GE164.out) GE164.out) GE164.out) GE164.out) GE164.out) GE164.out) GE164.out) nd⟩; generalize (((((((w27.setCell ⟨gb164, 0, none⟩ (.int .i64 ((rd_T42 l1 x10_2).f0))).setCell ⟨gb164, 1, none⟩ (.int .u64 ((rd_T42 l1 x10_2).f1.f0))).setCell ⟨gb164, 2, none⟩ (.int .u64 ((rd_T42 l1 x10_2).f1.f1))).setCell ⟨gb164, 3, none⟩ (.int .u64 ((rd_T42 l1 x10_2).f1.f2))).setCell ⟨gb164, 4, none⟩ (.int .u64 ((rd_T42 l1 x10_2).f1.f3))).setCell ⟨gb164, 5, none⟩ (.int .i64 ((rd_T42 l1 x10_2).f2.f0))).setCell ⟨gb164, 6, none⟩ (.int .i64 ((rd_T42 l1 x10_2).f2.f1))).drewN nd = w99 at n0_ n1_ n2_ ⊢; clear BK164; clear HO_9; clear HB; have BK164 := n0_; have HO_9 := n1_; have HB := n2_; clear n0_ n1_ n2_; have hcy0 : w99.cell? ⟨gb164, 0, none⟩ = some (.int .i64 ((rd_T42 l1 x10_2).f0)) := (blk_cell BK164.out 0).trans rfl; have hfy0 := blk_frozen BK164.out 0; have hcy1 : w99.cell? ⟨gb164, 1, none⟩ = some (.int .u64 ((rd_T42 l1 x10_2).f1.f0)) := (blk_cell BK164.out 1).trans rfl; have hfy1 := blk_frozen BK164.out 1; have hcy2 : w99.cell? ⟨gb164, 2, none⟩ = some (.int .u64 ((rd_T42 l1 x10_2).f1.f1)) := (blk_cell BK164.out 2).trans rfl; have hfy2 := blk_frozen BK164.out 2; have hcy3 : w99.cell? ⟨gb164, 3, none⟩ = some (.int .u64 ((rd_T42 l1 x10_2).f1.f2)) := (blk_cell BK164.out 3).trans rfl; have hfy3 := blk_frozen BK164.out 3; have hcy4 : w99.cell? ⟨gb164, 4, none⟩ = some (.int .u64 ((rd_T42 l1 x10_2).f1.f3)) := (blk_cell BK164.out 4).trans rfl; have hfy4 := blk_frozen BK164.out 4; have hcy5 : w99.cell? ⟨gb164, 5, none⟩ = some (.int .i64 ((rd_T42 l1 x10_2).f2.f0)) := (blk_cell BK164.out 5).trans rfl; have hfy5 := blk_frozen BK164.out 5; have hcy6 : w99.cell? ⟨gb164, 6, none⟩ = some (.int .i64 ((rd_T42 l1 x10_2).f2.f1)) := (blk_cell BK164.out 6).trans rfl; have hfy6 := blk_frozen BK164.out 6) | ((with_reducible refine gate_builtin (b := .append) (xs := #[.tmp 60, .tmp 62]) rfl ?_); at_builtin; refine Kd.R_append k42 (w0 := w) w.heap.size rfl (.tmp 60) (.tmp 62) 22 42 (.agg #[(.int .i64 0), (.int .u64 0), (.int .u64 0), (.int .u64 0), (.int .u64 0), (.int .i64 0), (.int .i64 0)]) 56 rfl Try.underlying22 info42 rfl (by decide) (by omega) u9 x9_2 (⟨(rd_T42 l1 x10_2).f0, (⟨(rd_T42 l1 x10_2).f1.f0, (rd_T42 l1 x10_2).f1.f1, (rd_T42 l1 x10_2).f1.f2, (rd_T42 l1 x10_2).f1.f3⟩ : S39), (⟨(rd_T42 l1 x10_2).f2.f0, wrap64 (((rd_T42 l1 x10_2).f2.f1) + (l0.length : Int))⟩ : S40)⟩ : S42) [.int .i64 ((rd_T42 l1 x10_2).f0), .int .u64 ((rd_T42 l1 x10_2).f1.f0), .int .u64 ((rd_T42 l1 x10_2).f1.f1), .int .u64 ((rd_T42 l1 x10_2).f1.f2), .int .u64 ((rd_T42 l1 x10_2).f1.f3), .int .i64 ((rd_T42 l1 x10_2).f2.f0), .int .i64 (wrap64 (((rd_T42 l1 x10_2).f2.f1) + (l0.length : Int)))] (fun k_ => k_ ≠ gb164) (fun _ => False) rfl (by first | (go_simp; done) | (go_simp; rfl)) ?aP (fun _ hk => hk.elim) ?aF ?aO ?aB ?aS ?aL ?_; (case aP => exact k42_mkM _ _ _ (⟨(rd_T42 l1 x10_2).f0, (⟨(rd_T42 l1 x10_2).f1.f0, (rd_T42 l1 x10_2).f1.f1, (rd_T42 l1 x10_2).f1.f2, (rd_T42 l1 x10_2).f1.f3⟩ : S39), (⟨(rd_T42 l1 x10_2).f2.f0, wrap64 (((rd_T42 l1 x10_2).f2.f1) + (l0.length : Int))⟩ : S40)⟩ : S42)); (case aB => exact (by repeat (first | (with_reducible first | exact HB.out | apply below_alloc | apply pw_below_drewN | apply below_drew1 | refine below_set ?_ GE164.out) | exact HB.out))); (case aF => exact (fun k_ hk => Kd.freshB (g := gb164) (o := .cells #[.int .i64 ((rd_T42 l1 x10_2).f0), .int .u64 ((rd_T42 l1 x10_2).f1.f0), .int .u64 ((rd_T42 l1 x10_2).f1.f1), .int .u64 ((rd_T42 l1 x10_2).f1.f2), .int .u64 ((rd_T42 l1 x10_2).f1.f3), .int .i64 ((rd_T42 l1 x10_2).f2.f0), .int .i64 (wrap64 (((rd_T42 l1 x10_2).f2.f1) + (l0.length : Int)))] 42 (0, 0)) (by (with_reducible repeat (first | refine blk_drewN ?_ _ | refine blk_drew ?_ | refine blk_alloc ?_ _)); refine blk_put (cs := #[.int .i64 ((rd_T42 l1 x10_2).f0), .int .u64 ((rd_T42 l1 x10_2).f1.f0), .int .u64 ((rd_T42 l1 x10_2).f1.f1), .int .u64 ((rd_T42 l1 x10_2).f1.f2), .int .u64 ((rd_T42 l1 x10_2).f1.f3), .int .i64 ((rd_T42 l1 x10_2).f2.f0), .int .i64 ((rd_T42 l1 x10_2).f2.f1)]) ?_ 6 _ rfl; (with_reducible repeat (first | refine blk_drewN ?_ _ | refine blk_drew ?_ | refine blk_alloc ?_ _)); exact BK164.out) k_ hk)); (case aO => exact (by (with_reducible repeat (first | apply Kd.R_alloc | apply Kd.R_drewN | apply Kd.R_drew)); exact Kd.R_mono (Kd.R_far (p := ⟨gb164, 6, none⟩) HO_9.out (fun _ hk => hk.2) (.int .i64 (wrap64 (((rd_T42 l1 x10_2).f2.f1) + (l0.length : Int))))) (fun _ hk => hk.1.2))); (case aS => exact (below_size (by repeat (first | (with_reducible first | exact HB.out | apply below_alloc | apply pw_below_drewN | apply below_drew1 | refine below_set ?_ GE164.out) | exact HB.out)))); (case aL => have := LMc26.out; omega); intro v173 w29 ho hb hg hat; rw [← Ny172.out] at ho; have n0_ := Aside0.mk (blk_grown (g := gb164) (o := .cells #[.int .i64 ((rd_T42 l1 x10_2).f0), .int .u64 ((rd_T42 l1 x10_2).f1.f0), .int .u64 ((rd_T42 l1 x10_2).f1.f1), .int .u64 ((rd_T42 l1 x10_2).f1.f2), .int .u64 ((rd_T42 l1 x10_2).f1.f3), .int .i64 ((rd_T42 l1 x10_2).f2.f0), .int .i64 (wrap64 (((rd_T42 l1 x10_2).f2.f1) + (l0.length : Int)))] 42 (0, 0)) (by (with_reducible repeat (first | refine blk_drewN ?_ _ | refine blk_drew ?_ | refine blk_alloc ?_ _)); refine blk_put (cs := #[.int .i64 ((rd_T42 l1 x10_2).f0), .int .u64 ((rd_T42 l1 x10_2).f1.f0), .int .u64 ((rd_T42 l1 x10_2).f1.f1), .int .u64 ((rd_T42 l1 x10_2).f1.f2), .int .u64 ((rd_T42 l1 x10_2).f1.f3), .int .i64 ((rd_T42 l1 x10_2).f2.f0), .int .i64 ((rd_T42 l1 x10_2).f2.f1)]) ?_ 6 _ rfl; (with_reducible repeat (first | refine blk_drewN ?_ _ | refine blk_drew ?_ | refine blk_alloc ?_ _)); exact BK164.out) hg (Kd.R_away HO_9.out (fun _ hk => hk.2))); have n1_ := Aside0.mk (hb); have n2_ := Aside0.mk (ho); clear BK164; clear HB; clear HO_9; have BK164 := n0_; have HB := n1_; have HO174 := n2_; clear n0_ n1_ n2_; clear ho hb hg hat))
                          go_roundg k2
                          case measure => have := HJ3.out; have := HK2.out; omega
                          case rel => exact ⟨(y172), (wrap64 (x10_2 + 1)), (by first | rfl | (simp; done) | (simp [*]; done)), H', ⟨by have := HJ3.out; have := HK2.out; omega⟩, ⟨by (with_reducible repeat (first | apply Kd.R_alloc | apply Kd.R_drewN | apply Kd.R_drew)); exact Kd.R_mono HO174.out (fun _ hk => trivial)⟩, ⟨by repeat (first | (with_reducible first | exact HB.out | apply below_alloc | apply pw_below_drewN | apply below_drew1 | refine below_set ?_ GE164.out) | exact HB.out)⟩⟩
                        · rw [if_neg c26] at H
                          exact absurd H (by simp)
                      · rw [if_neg c25] at H
                        have c25b0 : decide (1 < t165) = false := decide_eq_false c25
                        clear c25
                        by_cases c30 : x9_2.length < 2513169434916
                        · rw [if_pos c30] at H
                          have LMc30 := Aside0.mk c30
                          clear c30
                          obtain ⟨y175, hy175⟩ : ∃ y_ : List (S42), y_ = (x9_2 ++ [(⟨(rd_T42 l1 x10_2).f0, (⟨(rd_T42 l1 x10_2).f1.f0, (rd_T42 l1 x10_2).f1.f1, (rd_T42 l1 x10_2).f1.f2, (rd_T42 l1 x10_2).f1.f3⟩ : S39), (⟨(rd_T42 l1 x10_2).f2.f0, (rd_T42 l1 x10_2).f2.f1⟩ : S40)⟩ : S42)]) := ⟨_, rfl⟩
                          replace H : (dragomanref05_Join.l0 k2 l1 a2 (l0.length : Int) y175 (wrap64 (x10_2 + 1))) = some (r1, r2) := by first | (rw [hy175]; with_reducible exact H) | (have H2_ := (Option.bind_some _ _).symm.trans H; rw [hy175]; with_reducible exact H2_) | (have H2_ := (Option.bind_some _ _).symm.trans H; with_reducible exact H2_) | with_reducible exact H | (rw [hy175]; exact H) | exact H
                          have Ny175 := Aside0.mk hy175
                          clear hy175
                          have H' := Aside0.mk H
                          clear H
                          have p163 : 0 ≤ (x10_2 : Int) := of_decide_eq_true (by first | (with_reducible assumption) | assumption)
                          have q163 : x10_2 < (l1.length : Int) := of_decide_eq_true (by first | (with_reducible assumption) | assumption)
                          obtain ⟨ad163, e163, hx163_0, hx163_1, hx163_2, hx163_3, hx163_4, hx163_5, hx163_6⟩ := at_T42 HR1.out x10_2 p163 q163
                          cases e163
                          replace hx163_0 := (HB.out.cell (World.block_lt_of_cell? w _ hx163_0)).trans hx163_0
                          replace hx163_1 := (HB.out.cell (World.block_lt_of_cell? w _ hx163_1)).trans hx163_1
                          replace hx163_2 := (HB.out.cell (World.block_lt_of_cell? w _ hx163_2)).trans hx163_2
                          replace hx163_3 := (HB.out.cell (World.block_lt_of_cell? w _ hx163_3)).trans hx163_3
                          replace hx163_4 := (HB.out.cell (World.block_lt_of_cell? w _ hx163_4)).trans hx163_4
                          replace hx163_5 := (HB.out.cell (World.block_lt_of_cell? w _ hx163_5)).trans hx163_5
                          replace hx163_6 := (HB.out.cell (World.block_lt_of_cell? w _ hx163_6)).trans hx163_6
                          replace p163 := eq_true p163
                          replace q163 := eq_true q163
                          go_wp2_with (first | ((with_reducible refine gate_dst (N := 11) rfl ?_); refine box_event ?hg (N := 11) ?hd (cs := #[.int .i64 0, .int .u64 0, .int .u64 0, .int .u64 0, .int .u64 0, .int .i64 0, .int .i64 0]) (t := 42) ?hr ?_; (case hd => rfl); (case hg => rfl); (case hr => first | (go_simp; done) | (go_simp; rfl)); intro gb164 hg w31 hbox hb; have n0_ := Aside0.mk (Kd.R_below (Kd.R_elderB (by (with_reducible repeat (first | apply Kd.R_alloc | apply Kd.R_drewN | apply Kd.R_drew)); exact HO_9.out) gb164 (Nat.le_of_eq hg.symm)) hb); have n1_ := Aside0.mk (below_step (by repeat (first | (with_reducible first | exact HB.out | apply below_alloc | apply pw_below_drewN | apply below_drew1) | exact HB.out)) hb); have n2_ := Aside0.mk (hbox); have n3_ := Aside0.mk ((by rw [hg]; exact (below_size (by repeat (first | (with_reducible first | exact HB.out | apply below_alloc | apply pw_below_drewN | apply below_drew1) | exact HB.out))) : w.heap.size ≤ gb164)); have n4_ := Aside0.mk ((by rw [hg]; exact (below_size (by repeat (first | (with_reducible first | exact HB.out | apply below_alloc | apply pw_below_drewN | apply below_drew1) | exact HB.out))) : w.heap.size ≤ gb164)); clear HO_9; clear HB; have HO_9 := n0_; have HB := n1_; have BK164 := n2_; have GW164 := n3_; have GE164 := n4_; clear n0_ n1_ n2_ n3_ n4_; clear hb hbox hg; have hcz32_0 : w31.cell? ⟨gb164, 0, none⟩ = some (.int .i64 0) := (blk_cell BK164.out 0).trans rfl; have hcz32_1 : w31.cell? ⟨gb164, 1, none⟩ = some (.int .u64 0) := (blk_cell BK164.out 1).trans rfl; have hcz32_2 : w31.cell? ⟨gb164, 2, none⟩ = some (.int .u64 0) := (blk_cell BK164.out 2).trans rfl; have hcz32_3 : w31.cell? ⟨gb164, 3, none⟩ = some (.int .u64 0) := (blk_cell BK164.out 3).trans rfl; have hcz32_4 : w31.cell? ⟨gb164, 4, none⟩ = some (.int .u64 0) := (blk_cell BK164.out 4).trans rfl; have hcz32_5 : w31.cell? ⟨gb164, 5, none⟩ = some (.int .i64 0) := (blk_cell BK164.out 5).trans rfl; have hcz32_6 : w31.cell? ⟨gb164, 6, none⟩ = some (.int .i64 0) := (blk_cell BK164.out 6).trans rfl; have hfz32_0 := blk_frozen BK164.out 0; have hfz32_1 := blk_frozen BK164.out 1; have hfz32_2 := blk_frozen BK164.out 2; have hfz32_3 := blk_frozen BK164.out 3; have hfz32_4 := blk_frozen BK164.out 4; have hfz32_5 := blk_frozen BK164.out 5; have hfz32_6 := blk_frozen BK164.out 6) | ((with_reducible refine gate_callee (f := 27) rfl ?_); refine goesL_ (some 41) rfl rfl Try.func27 (by kernel_rfl) rfl #[.int .i64 ((rd_T42 l1 x10_2).f0)] rfl (by (try simp only [List.map_toArray, List.map_cons, List.map_nil]); first | done | rfl | (simp only [List.length_drop, List.length_take]; rfl)) ?_; (with_reducible refine (dragomanref05_many.calls k2 ((rd_T42 l1 x10_2).f0) t165 _ A14.out).mono ?_); rintro e w' ⟨rfl, ⟨nd, rfl⟩⟩; refine ⟨_, rfl, ?_⟩; have n0_ := Aside0.mk (blk_drewN (blk_put (cs := #[.int .i64 ((rd_T42 l1 x10_2).f0), .int .u64 ((rd_T42 l1 x10_2).f1.f0), .int .u64 ((rd_T42 l1 x10_2).f1.f1), .int .u64 ((rd_T42 l1 x10_2).f1.f2), .int .u64 ((rd_T42 l1 x10_2).f1.f3), .int .i64 ((rd_T42 l1 x10_2).f2.f0), .int .i64 0]) (cs' := #[.int .i64 ((rd_T42 l1 x10_2).f0), .int .u64 ((rd_T42 l1 x10_2).f1.f0), .int .u64 ((rd_T42 l1 x10_2).f1.f1), .int .u64 ((rd_T42 l1 x10_2).f1.f2), .int .u64 ((rd_T42 l1 x10_2).f1.f3), .int .i64 ((rd_T42 l1 x10_2).f2.f0), .int .i64 ((rd_T42 l1 x10_2).f2.f1)]) (blk_put (cs := #[.int .i64 ((rd_T42 l1 x10_2).f0), .int .u64 ((rd_T42 l1 x10_2).f1.f0), .int .u64 ((rd_T42 l1 x10_2).f1.f1), .int .u64 ((rd_T42 l1 x10_2).f1.f2), .int .u64 ((rd_T42 l1 x10_2).f1.f3), .int .i64 0, .int .i64 0]) (cs' := #[.int .i64 ((rd_T42 l1 x10_2).f0), .int .u64 ((rd_T42 l1 x10_2).f1.f0), .int .u64 ((rd_T42 l1 x10_2).f1.f1), .int .u64 ((rd_T42 l1 x10_2).f1.f2), .int .u64 ((rd_T42 l1 x10_2).f1.f3), .int .i64 ((rd_T42 l1 x10_2).f2.f0), .int .i64 0]) (blk_put (cs := #[.int .i64 ((rd_T42 l1 x10_2).f0), .int .u64 ((rd_T42 l1 x10_2).f1.f0), .int .u64 ((rd_T42 l1 x10_2).f1.f1), .int .u64 ((rd_T42 l1 x10_2).f1.f2), .int .u64 0, .int .i64 0, .int .i64 0]) (cs' := #[.int .i64 ((rd_T42 l1 x10_2).f0), .int .u64 ((rd_T42 l1 x10_2).f1.f0), .int .u64 ((rd_T42 l1 x10_2).f1.f1), .int .u64 ((rd_T42 l1 x10_2).f1.f2), .int .u64 ((rd_T42 l1 x10_2).f1.f3), .int .i64 0, .int .i64 0]) (blk_put (cs := #[.int .i64 ((rd_T42 l1 x10_2).f0), .int .u64 ((rd_T42 l1 x10_2).f1.f0), .int .u64 ((rd_T42 l1 x10_2).f1.f1), .int .u64 0, .int .u64 0, .int .i64 0, .int .i64 0]) (cs' := #[.int .i64 ((rd_T42 l1 x10_2).f0), .int .u64 ((rd_T42 l1 x10_2).f1.f0), .int .u64 ((rd_T42 l1 x10_2).f1.f1), .int .u64 ((rd_T42 l1 x10_2).f1.f2), .int .u64 0, .int .i64 0, .int .i64 0]) (blk_put (cs := #[.int .i64 ((rd_T42 l1 x10_2).f0), .int .u64 ((rd_T42 l1 x10_2).f1.f0), .int .u64 0, .int .u64 0, .int .u64 0, .int .i64 0, .int .i64 0]) (cs' := #[.int .i64 ((rd_T42 l1 x10_2).f0), .int .u64 ((rd_T42 l1 x10_2).f1.f0), .int .u64 ((rd_T42 l1 x10_2).f1.f1), .int .u64 0, .int .u64 0, .int .i64 0, .int .i64 0]) (blk_put (cs := #[.int .i64 ((rd_T42 l1 x10_2).f0), .int .u64 0, .int .u64 0, .int .u64 0, .int .u64 0, .int .i64 0, .int .i64 0]) (cs' := #[.int .i64 ((rd_T42 l1 x10_2).f0), .int .u64 ((rd_T42 l1 x10_2).f1.f0), .int .u64 0, .int .u64 0, .int .u64 0, .int .i64 0, .int .i64 0]) (blk_put (cs := #[.int .i64 0, .int .u64 0, .int .u64 0, .int .u64 0, .int .u64 0, .int .i64 0, .int .i64 0]) (cs' := #[.int .i64 ((rd_T42 l1 x10_2).f0), .int .u64 0, .int .u64 0, .int .u64 0, .int .u64 0, .int .i64 0, .int .i64 0]) BK164.out 0 (.int .i64 ((rd_T42 l1 x10_2).f0)) rfl) 1 (.int .u64 ((rd_T42 l1 x10_2).f1.f0)) rfl) 2 (.int .u64 ((rd_T42 l1 x10_2).f1.f1)) rfl) 3 (.int .u64 ((rd_T42 l1 x10_2).f1.f2)) rfl) 4 (.int .u64 ((rd_T42 l1 x10_2).f1.f3)) rfl) 5 (.int .i64 ((rd_T42 l1 x10_2).f2.f0)) rfl) 6 (.int .i64 ((rd_T42 l1 x10_2).f2.f1)) rfl) nd); have n1_ := Aside0.mk (Kd.R_drewN (Kd.R_far (p := ⟨gb164, 6, none⟩) (Kd.R_far (p := ⟨gb164, 5, none⟩) (Kd.R_far (p := ⟨gb164, 4, none⟩) (Kd.R_far (p := ⟨gb164, 3, none⟩) (Kd.R_far (p := ⟨gb164, 2, none⟩) (Kd.R_far (p := ⟨gb164, 1, none⟩) (Kd.R_far (p := ⟨gb164, 0, none⟩) (Kd.R_mono HO_9.out (fun k_ hk => (⟨hk, hk.2⟩ : _ ∧ k_ ≠ gb164))) (fun _ hk => hk.2) (.int .i64 ((rd_T42 l1 x10_2).f0))) (fun _ hk => hk.2) (.int .u64 ((rd_T42 l1 x10_2).f1.f0))) (fun _ hk => hk.2) (.int .u64 ((rd_T42 l1 x10_2).f1.f1))) (fun _ hk => hk.2) (.int .u64 ((rd_T42 l1 x10_2).f1.f2))) (fun _ hk => hk.2) (.int .u64 ((rd_T42 l1 x10_2).f1.f3))) (fun _ hk => hk.2) (.int .i64 ((rd_T42 l1 x10_2).f2.f0))) (fun _ hk => hk.2) (.int .i64 ((rd_T42 l1 x10_2).f2.f1))) nd); have n2_ : Aside0 (Below w.heap.size w ((((((((w31.setCell ⟨gb164, 0, none⟩ (.int .i64 ((rd_T42 l1 x10_2).f0))).setCell ⟨gb164, 1, none⟩ (.int .u64 ((rd_T42 l1 x10_2).f1.f0))).setCell ⟨gb164, 2, none⟩ (.int .u64 ((rd_T42 l1 x10_2).f1.f1))).setCell ⟨gb164, 3, none⟩ (.int .u64 ((rd_T42 l1 x10_2).f1.f2))).setCell ⟨gb164, 4, none⟩ (.int .u64 ((rd_T42 l1 x10_2).f1.f3))).setCell ⟨gb164, 5, none⟩ (.int .i64 ((rd_T42 l1 x10_2).f2.f0))).setCell ⟨gb164, 6, none⟩ (.int .i64 ((rd_T42 l1 x10_2).f2.f1))).drewN nd)) := ⟨pw_below_drewN (below_set (below_set (below_set (below_set (below_set (below_set (below_set HB.out GE164.out) GE164.out) GE164.out) GE164.out) GE164.out) GE164.out) GE164.out) nd⟩; generalize (((((((w31.setCell ⟨gb164, 0, none⟩ (.int .i64 ((rd_T42 l1 x10_2).f0))).setCell ⟨gb164, 1, none⟩ (.int .u64 ((rd_T42 l1 x10_2).f1.f0))).setCell ⟨gb164, 2, none⟩ (.int .u64 ((rd_T42 l1 x10_2).f1.f1))).setCell ⟨gb164, 3, none⟩ (.int .u64 ((rd_T42 l1 x10_2).f1.f2))).setCell ⟨gb164, 4, none⟩ (.int .u64 ((rd_T42 l1 x10_2).f1.f3))).setCell ⟨gb164, 5, none⟩ (.int .i64 ((rd_T42 l1 x10_2).f2.f0))).setCell ⟨gb164, 6, none⟩ (.int .i64 ((rd_T42 l1 x10_2).f2.f1))).drewN nd = w99 at n0_ n1_ n2_ ⊢; clear BK164; clear HO_9; clear HB; have BK164 := n0_; have HO_9 := n1_; have HB := n2_; clear n0_ n1_ n2_; have hcy0 : w99.cell? ⟨gb164, 0, none⟩ = some (.int .i64 ((rd_T42 l1 x10_2).f0)) := (blk_cell BK164.out 0).trans rfl; have hfy0 := blk_frozen BK164.out 0; have hcy1 : w99.cell? ⟨gb164, 1, none⟩ = some (.int .u64 ((rd_T42 l1 x10_2).f1.f0)) := (blk_cell BK164.out 1).trans rfl; have hfy1 := blk_frozen BK164.out 1; have hcy2 : w99.cell? ⟨gb164, 2, none⟩ = some (.int .u64 ((rd_T42 l1 x10_2).f1.f1)) := (blk_cell BK164.out 2).trans rfl; have hfy2 := blk_frozen BK164.out 2; have hcy3 : w99.cell? ⟨gb164, 3, none⟩ = some (.int .u64 ((rd_T42 l1 x10_2).f1.f2)) := (blk_cell BK164.out 3).trans rfl; have hfy3 := blk_frozen BK164.out 3; have hcy4 : w99.cell? ⟨gb164, 4, none⟩ = some (.int .u64 ((rd_T42 l1 x10_2).f1.f3)) := (blk_cell BK164.out 4).trans rfl; have hfy4 := blk_frozen BK164.out 4; have hcy5 : w99.cell? ⟨gb164, 5, none⟩ = some (.int .i64 ((rd_T42 l1 x10_2).f2.f0)) := (blk_cell BK164.out 5).trans rfl; have hfy5 := blk_frozen BK164.out 5; have hcy6 : w99.cell? ⟨gb164, 6, none⟩ = some (.int .i64 ((rd_T42 l1 x10_2).f2.f1)) := (blk_cell BK164.out 6).trans rfl; have hfy6 := blk_frozen BK164.out 6) | ((with_reducible refine gate_builtin (b := .append) (xs := #[.tmp 60, .tmp 62]) rfl ?_); at_builtin; refine Kd.R_append k42 (w0 := w) w.heap.size rfl (.tmp 60) (.tmp 62) 22 42 (.agg #[(.int .i64 0), (.int .u64 0), (.int .u64 0), (.int .u64 0), (.int .u64 0), (.int .i64 0), (.int .i64 0)]) 56 rfl Try.underlying22 info42 rfl (by decide) (by omega) u9 x9_2 (⟨(rd_T42 l1 x10_2).f0, (⟨(rd_T42 l1 x10_2).f1.f0, (rd_T42 l1 x10_2).f1.f1, (rd_T42 l1 x10_2).f1.f2, (rd_T42 l1 x10_2).f1.f3⟩ : S39), (⟨(rd_T42 l1 x10_2).f2.f0, (rd_T42 l1 x10_2).f2.f1⟩ : S40)⟩ : S42) [.int .i64 ((rd_T42 l1 x10_2).f0), .int .u64 ((rd_T42 l1 x10_2).f1.f0), .int .u64 ((rd_T42 l1 x10_2).f1.f1), .int .u64 ((rd_T42 l1 x10_2).f1.f2), .int .u64 ((rd_T42 l1 x10_2).f1.f3), .int .i64 ((rd_T42 l1 x10_2).f2.f0), .int .i64 ((rd_T42 l1 x10_2).f2.f1)] (fun k_ => k_ ≠ gb164) (fun _ => False) rfl (by first | (go_simp; done) | (go_simp; rfl)) ?aP (fun _ hk => hk.elim) ?aF ?aO ?aB ?aS ?aL ?_; (case aP => exact k42_mkM _ _ _ (⟨(rd_T42 l1 x10_2).f0, (⟨(rd_T42 l1 x10_2).f1.f0, (rd_T42 l1 x10_2).f1.f1, (rd_T42 l1 x10_2).f1.f2, (rd_T42 l1 x10_2).f1.f3⟩ : S39), (⟨(rd_T42 l1 x10_2).f2.f0, (rd_T42 l1 x10_2).f2.f1⟩ : S40)⟩ : S42)); (case aB => exact (by repeat (first | (with_reducible first | exact HB.out | apply below_alloc | apply pw_below_drewN | apply below_drew1 | refine below_set ?_ GE164.out) | exact HB.out))); (case aF => exact (fun k_ hk => Kd.freshB (g := gb164) (o := .cells #[.int .i64 ((rd_T42 l1 x10_2).f0), .int .u64 ((rd_T42 l1 x10_2).f1.f0), .int .u64 ((rd_T42 l1 x10_2).f1.f1), .int .u64 ((rd_T42 l1 x10_2).f1.f2), .int .u64 ((rd_T42 l1 x10_2).f1.f3), .int .i64 ((rd_T42 l1 x10_2).f2.f0), .int .i64 ((rd_T42 l1 x10_2).f2.f1)] 42 (0, 0)) (by (with_reducible repeat (first | refine blk_drewN ?_ _ | refine blk_drew ?_ | refine blk_alloc ?_ _)); exact BK164.out) k_ hk)); (case aO => exact (by (with_reducible repeat (first | apply Kd.R_alloc | apply Kd.R_drewN | apply Kd.R_drew)); exact Kd.R_mono HO_9.out (fun _ hk => hk.1.2))); (case aS => exact (below_size (by repeat (first | (with_reducible first | exact HB.out | apply below_alloc | apply pw_below_drewN | apply below_drew1 | refine below_set ?_ GE164.out) | exact HB.out)))); (case aL => have := LMc30.out; omega); intro v176 w33 ho hb hg hat; rw [← Ny175.out] at ho; have n0_ := Aside0.mk (blk_grown (g := gb164) (o := .cells #[.int .i64 ((rd_T42 l1 x10_2).f0), .int .u64 ((rd_T42 l1 x10_2).f1.f0), .int .u64 ((rd_T42 l1 x10_2).f1.f1), .int .u64 ((rd_T42 l1 x10_2).f1.f2), .int .u64 ((rd_T42 l1 x10_2).f1.f3), .int .i64 ((rd_T42 l1 x10_2).f2.f0), .int .i64 ((rd_T42 l1 x10_2).f2.f1)] 42 (0, 0)) (by (with_reducible repeat (first | refine blk_drewN ?_ _ | refine blk_drew ?_ | refine blk_alloc ?_ _)); exact BK164.out) hg (Kd.R_away HO_9.out (fun _ hk => hk.2))); have n1_ := Aside0.mk (hb); have n2_ := Aside0.mk (ho); clear BK164; clear HB; clear HO_9; have BK164 := n0_; have HB := n1_; have HO177 := n2_; clear n0_ n1_ n2_; clear ho hb hg hat))
                          go_roundg k2
                          case measure => have := HJ3.out; have := HK2.out; omega
                          case rel => exact ⟨(y175), (wrap64 (x10_2 + 1)), (by first | rfl | (simp; done) | (simp [*]; done)), H', ⟨by have := HJ3.out; have := HK2.out; omega⟩, ⟨by (with_reducible repeat (first | apply Kd.R_alloc | apply Kd.R_drewN | apply Kd.R_drew)); exact Kd.R_mono HO177.out (fun _ hk => trivial)⟩, ⟨by repeat (first | (with_reducible first | exact HB.out | apply below_alloc | apply pw_below_drewN | apply below_drew1 | refine below_set ?_ GE164.out) | exact HB.out)⟩⟩
                        · rw [if_neg c30] at H
                          exact absurd H (by simp)
                  · rw [if_neg c13] at H
                    exact absurd H (by simp)
                · rw [if_neg c12] at H
                  have c12b0 : decide (x10_2 < (l1.length : Int)) = false := decide_eq_false c12
                  clear c12
                  by_cases c34 : x9_2.length < 2513169434916
                  · rw [if_pos c34] at H
                    have LMc34 := Aside0.mk c34
                    clear c34
                    obtain ⟨y160, hy160⟩ : ∃ y_ : List (S42), y_ = (x9_2 ++ [(⟨a2, (⟨0, 0, 0, 0⟩ : S39), (⟨wrap64 ((l0.length : Int) - 1), wrap64 ((wrap64 ((l0.length : Int) + (l1.length : Int))) - 1)⟩ : S40)⟩ : S42)]) := ⟨_, rfl⟩
                    replace H : (some (y160, 0)) = some (r1, r2) := by first | (rw [hy160]; with_reducible exact H) | (have H2_ := (Option.bind_some _ _).symm.trans H; rw [hy160]; with_reducible exact H2_) | (have H2_ := (Option.bind_some _ _).symm.trans H; with_reducible exact H2_) | with_reducible exact H | (rw [hy160]; exact H) | exact H
                    have Ny160 := Aside0.mk hy160
                    clear hy160
                    simp only [Option.some.injEq, Prod.mk.injEq] at H
                    obtain ⟨rfl, rfl⟩ := H
                    go_wp2_with (first | ((with_reducible refine gate_builtin (b := .append) (xs := #[.tmp 64, .tmp 75]) rfl ?_); at_builtin; refine Kd.R_append k42 (w0 := w) w.heap.size rfl (.tmp 64) (.tmp 75) 22 42 (.agg #[(.int .i64 0), (.int .u64 0), (.int .u64 0), (.int .u64 0), (.int .u64 0), (.int .i64 0), (.int .i64 0)]) 56 rfl Try.underlying22 info42 rfl (by decide) (by omega) u9 x9_2 (⟨a2, (⟨0, 0, 0, 0⟩ : S39), (⟨wrap64 ((l0.length : Int) - 1), wrap64 ((wrap64 ((l0.length : Int) + (l1.length : Int))) - 1)⟩ : S40)⟩ : S42) [.int .i64 a2, .int .u64 0, .int .u64 0, .int .u64 0, .int .u64 0, .int .i64 (wrap64 ((l0.length : Int) - 1)), .int .i64 (wrap64 ((wrap64 ((l0.length : Int) + (l1.length : Int))) - 1))] (fun _ => True) (fun _ => False) rfl rfl ?aP (fun _ hk => hk.elim) ?aF ?aO ?aB ?aS ?aL ?_; (case aP => exact k42_mkM _ _ _ (⟨a2, (⟨0, 0, 0, 0⟩ : S39), (⟨wrap64 ((l0.length : Int) - 1), wrap64 ((wrap64 ((l0.length : Int) + (l1.length : Int))) - 1)⟩ : S40)⟩ : S42)); (case aB => exact (by repeat (first | (with_reducible first | exact HB.out | apply below_alloc | apply pw_below_drewN | apply below_drew1) | exact HB.out))); (case aF => exact (fun _ _ => trivial)); (case aO => exact (by (with_reducible repeat (first | apply Kd.R_alloc | apply Kd.R_drewN | apply Kd.R_drew)); exact HO_9.out)); (case aS => exact (below_size (by repeat (first | (with_reducible first | exact HB.out | apply below_alloc | apply pw_below_drewN | apply below_drew1) | exact HB.out)))); (case aL => have := LMc34.out; omega); intro v161 w35 ho hb hg hat; rw [← Ny160.out] at ho; have n0_ := Aside0.mk (hb); have n1_ := Aside0.mk (ho); clear HB; clear HO_9; have HB := n0_; have HO162 := n1_; clear n0_ n1_; clear ho hb hg hat))
                    go_ret2
                    exact ⟨_, by first | rfl | (simp [errW_none, errW_some] <;> rfl) | (simp [*, errW_none, errW_some] <;> rfl), by (with_reducible repeat (first | apply Kd.R_alloc | apply Kd.R_drewN | apply Kd.R_drew)); exact HO162.out, by repeat (first | (with_reducible first | exact HB.out | apply below_alloc | apply pw_below_drewN | apply below_drew1) | exact HB.out)⟩
                  · rw [if_neg c34] at H
                    exact absurd H (by simp)
          · rw [if_neg c8] at H
            exact absurd H (by simp)

/-! ### dragomanref04_One: function 29 -/
def dragomanref04_One.f (a0 : Int) : Option (Int × Int × Int × Int) := (ref04_with.f 0 0 0 0 a0).bind fun bt179 => (some (bt179.1, bt179.2.1, bt179.2.2.1, bt179.2.2.2))
set_option maxHeartbeats 8000000 in
set_option maxRecDepth 100000 in
theorem dragomanref04_One.calls (a0 : Int) (r1 : Int) (r2 : Int) (r3 : Int) (r4 : Int) (w : World) (h : dragomanref04_One.f a0 = some (r1, r2, r3, r4)) :
    Calls Try.prog 29 #[.int .u8 a0] w fun e w' => e = .returned (.agg #[.int .u64 r1, .int .u64 r2, .int .u64 r3, .int .u64 r4]) ∧ Below w.heap.size w w' := by
  have hu39 := Try.underlying39
  have HB := Aside0.mk (Below.refl w.heap.size w)
  have H : ((ref04_with.f 0 0 0 0 a0).bind fun bt179 => (some (bt179.1, bt179.2.1, bt179.2.2.1, bt179.2.2.2))) = some (r1, r2, r3, r4) := h
  clear h
  replace H := Option.bind_eq_some_iff.mp H
  obtain ⟨⟨t179, t180, t181, t182⟩, A20, H⟩ := H
  replace H : (some (t179, t180, t181, t182)) = some (r1, r2, r3, r4) := H
  have A2 := Aside0.mk A20
  clear A20
  simp only [Option.some.injEq, Prod.mk.injEq] at H
  obtain ⟨rfl, rfl, rfl, rfl⟩ := H
  go_enter Try.func29, Try.ntmps29
  go_wp2_with (first | ((with_reducible refine gate_dst (N := 2) rfl ?_); refine box_event ?hg (N := 2) ?hd (cs := #[.int .u64 0, .int .u64 0, .int .u64 0, .int .u64 0]) (t := 39) ?hr ?_; (case hd => rfl); (case hg => rfl); (case hr => first | (go_simp; done) | (go_simp; rfl)); intro gb178 hg w3 hbox hb; have n0_ := Aside0.mk (below_step (by repeat (first | (with_reducible first | exact HB.out | apply below_alloc | apply pw_below_drewN | apply below_drew1) | exact HB.out)) hb); have n1_ := Aside0.mk (hbox); have n2_ := Aside0.mk ((by rw [hg]; exact (below_size (by repeat (first | (with_reducible first | exact HB.out | apply below_alloc | apply pw_below_drewN | apply below_drew1) | exact HB.out))) : w.heap.size ≤ gb178)); have n3_ := Aside0.mk ((by rw [hg]; exact (below_size (by repeat (first | (with_reducible first | exact HB.out | apply below_alloc | apply pw_below_drewN | apply below_drew1) | exact HB.out))) : w.heap.size ≤ gb178)); clear HB; have HB := n0_; have BK178 := n1_; have GW178 := n2_; have GE178 := n3_; clear n0_ n1_ n2_ n3_; clear hb hbox hg) | ((with_reducible refine gate_callee (f := 30) rfl ?_); refine goesL_ (some 5) rfl rfl Try.func30 (by kernel_rfl) rfl #[.agg #[.int .u64 0, .int .u64 0, .int .u64 0, .int .u64 0], .int .u8 a0] rfl (by (try simp only [List.map_toArray, List.map_cons, List.map_nil]); first | done | rfl | (simp only [List.length_drop, List.length_take]; rfl)) ?_; (with_reducible refine (ref04_with.calls 0 0 0 0 a0 t179 t180 t181 t182 _ A2.out).mono ?_); rintro e w4 ⟨rfl, hb⟩; refine ⟨_, rfl, ?_⟩; have n0_ := Aside0.mk (blk_below (g := gb178) (o := .cells #[.int .u64 0, .int .u64 0, .int .u64 0, .int .u64 0] 39 (0, 0)) (by (with_reducible repeat (first | refine blk_drewN ?_ _ | refine blk_drew ?_ | refine blk_alloc ?_ _)); exact BK178.out) hb); have n1_ := Aside0.mk (below_step (by repeat (first | (with_reducible first | exact HB.out | apply below_alloc | apply pw_below_drewN | apply below_drew1 | refine below_set ?_ GE178.out) | exact HB.out)) hb); clear BK178; clear HB; have BK178 := n0_; have HB := n1_; clear n0_ n1_; (try clear hb); (try clear hb2); (try clear hk); (try clear hi); have hcz5_0 : w4.cell? ⟨gb178, 0, none⟩ = some (.int .u64 0) := (blk_cell BK178.out 0).trans rfl; have hcz5_1 : w4.cell? ⟨gb178, 1, none⟩ = some (.int .u64 0) := (blk_cell BK178.out 1).trans rfl; have hcz5_2 : w4.cell? ⟨gb178, 2, none⟩ = some (.int .u64 0) := (blk_cell BK178.out 2).trans rfl; have hcz5_3 : w4.cell? ⟨gb178, 3, none⟩ = some (.int .u64 0) := (blk_cell BK178.out 3).trans rfl; have hfz5_0 := blk_frozen BK178.out 0; have hfz5_1 := blk_frozen BK178.out 1; have hfz5_2 := blk_frozen BK178.out 2; have hfz5_3 := blk_frozen BK178.out 3))
  refine bodyPost_ret (results_cell_row rfl _ _ gb178 39 #[.int .u64 t179, .int .u64 t180, .int .u64 t181, .int .u64 t182] (0, 0) _ rfl (by (with_reducible repeat (first | refine blk_drewN ?_ _ | refine blk_drew ?_ | refine blk_alloc ?_ _)); refine blk_put (cs := #[.int .u64 t179, .int .u64 t180, .int .u64 t181, .int .u64 0]) ?_ 3 _ rfl; (with_reducible repeat (first | refine blk_drewN ?_ _ | refine blk_drew ?_ | refine blk_alloc ?_ _)); refine blk_put (cs := #[.int .u64 t179, .int .u64 t180, .int .u64 0, .int .u64 0]) ?_ 2 _ rfl; (with_reducible repeat (first | refine blk_drewN ?_ _ | refine blk_drew ?_ | refine blk_alloc ?_ _)); refine blk_put (cs := #[.int .u64 t179, .int .u64 0, .int .u64 0, .int .u64 0]) ?_ 1 _ rfl; (with_reducible repeat (first | refine blk_drewN ?_ _ | refine blk_drew ?_ | refine blk_alloc ?_ _)); refine blk_put (cs := #[.int .u64 0, .int .u64 0, .int .u64 0, .int .u64 0]) ?_ 0 _ rfl; (with_reducible repeat (first | refine blk_drewN ?_ _ | refine blk_drew ?_ | refine blk_alloc ?_ _)); exact BK178.out) Try.underlying39 rfl (by kernel_rfl)) rfl ?_
  exact ⟨by first | rfl | (simp [errW_none, errW_some] <;> rfl) | (simp [*, errW_none, errW_some] <;> rfl), by repeat (first | (with_reducible first | exact HB.out | apply below_alloc | apply pw_below_drewN | apply below_drew1 | refine below_set ?_ GE178.out) | exact HB.out)⟩

end Go.Proofs.Ytmhkofgappbpjaa.QB
