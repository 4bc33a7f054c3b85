/- The Go functions of this part as Lean functions, each with a proof that a call of it comes to just what the Lean function does. Written by a program of the session's. Conditions: none but those in each theorem. -/
import Derived.Test.YtambnodgfhlpfaaDoorJQAx0
namespace Go.Proofs.YtambnodgfhlpfaaDoor.QA
open Go.Proofs.YtambnodgfhlpfaaDoor.G
open Go.RowKit Go.Proofs.YtambnodgfhlpfaaDoorW.PrintWords Go.Proofs.YtambnodgfhlpfaaDoorW.PrintLast Go.Proofs.YtambnodgfhlpfaaDoorW.PrintMore
attribute [local go_sem] max2_int min2_int max_two min_two max_three min_three max_four min_four   -- for this text's walks alone
set_option linter.unusedVariables false
set_option linter.unusedSimpArgs false

/-! ### dragomanref01_Whole: function 104 -/
mutual
def dragomanref01_Whole.j0 : Nat → ByteArray → Int → Bool → Option (Int × Int × Int)
  | 0, _, _, _ => none
  | k + 1, x0, x5, x17 => if x17 = true then (dragomanref01_Whole.j1 k x0 1) else (dragomanref01_Whole.j1 k x0 x5)
def dragomanref01_Whole.j1 : Nat → ByteArray → Int → Option (Int × Int × Int)
  | 0, _, _ => none
  | k + 1, x0, x5 => dragomanref01_Whole.l0 k x0 x5 x5 0 false
def dragomanref01_Whole.j3 : Nat → Int → Int → Int → Bool → Option (Int × Int × Int)
  | 0, _, _, _, _ => none
  | k + 1, x5, x6, x7, x8 => if x5 = x6 then (some (0, 0, 2)) else (if x6 = 0 then (dragomanref01_Whole.j4 k x5 x6 x7 x8 (x7 == (-9223372036854775808))) else (dragomanref01_Whole.j4 k x5 x6 x7 x8 false))
def dragomanref01_Whole.j4 : Nat → Int → Int → Int → Bool → Bool → Option (Int × Int × Int)
  | 0, _, _, _, _, _ => none
  | k + 1, x5, x6, x7, x8, x70 => if x70 = true then (dragomanref01_Whole.j5 k x5 x6 x7 true) else (dragomanref01_Whole.j5 k x5 x6 x7 x8)
def dragomanref01_Whole.j5 : Nat → Int → Int → Int → Bool → Option (Int × Int × Int)
  | 0, _, _, _, _ => none
  | k + 1, x5, x6, x7, x8 => if x8 = true then (some (0, 0, 3)) else (if x6 = 0 then (some (wrap64 (-x7), x5, 0)) else (some (x7, x5, 0)))
def dragomanref01_Whole.l0 : Nat → ByteArray → Int → Int → Int → Bool → Option (Int × Int × Int)
  | 0, _, _, _, _, _ => none
  | k + 1, x0, x5, x6, x7, x8 => if x5 < (x0.size : Int) then (if 0 ≤ x5 then (if (bt x0 x5) ≥ 48 then (if (bt x0 x5) ≤ 57 then (if x8 = true then (dragomanref01_Whole.l0 k x0 (wrap64 (x5 + 1)) x6 (wrap64 ((wrap64 (10 * x7)) - (wrap64 ((wrap64 (bt x0 x5)) - 48)))) true) else (if x7 < (wrap64 (Int.tdiv (wrap64 ((-9223372036854775808) + (wrap64 ((wrap64 (bt x0 x5)) - 48)))) 10)) then (dragomanref01_Whole.l0 k x0 (wrap64 (x5 + 1)) x6 (wrap64 ((wrap64 (10 * x7)) - (wrap64 ((wrap64 (bt x0 x5)) - 48)))) true) else (if x7 = (-922337203685477580) then (dragomanref01_Whole.l0 k x0 (wrap64 (x5 + 1)) x6 (wrap64 ((wrap64 (10 * x7)) - (wrap64 ((wrap64 (bt x0 x5)) - 48)))) ((wrap64 ((wrap64 (bt x0 x5)) - 48)) == 9)) else (dragomanref01_Whole.l0 k x0 (wrap64 (x5 + 1)) x6 (wrap64 ((wrap64 (10 * x7)) - (wrap64 ((wrap64 (bt x0 x5)) - 48)))) false)))) else (dragomanref01_Whole.j3 k x5 x6 x7 x8)) else (dragomanref01_Whole.j3 k x5 x6 x7 x8)) else (none)) else (dragomanref01_Whole.j3 k x5 x6 x7 x8)
end
def dragomanref01_Whole.f (k : Nat) (a0 : ByteArray) : Option (Int × Int × Int) := if (a0.size : Int) > 0 then (if 0 < (a0.size : Int) then (dragomanref01_Whole.j0 k a0 0 ((bt a0 0) == 45)) else (none)) else (dragomanref01_Whole.j0 k a0 0 false)
theorem dragomanref01_Whole.mono_l : ∀ k, (∀ y0 y1 y2, LeO (dragomanref01_Whole.j0 k y0 y1 y2) (dragomanref01_Whole.j0 (k + 1) y0 y1 y2)) ∧ (∀ y0 y1, LeO (dragomanref01_Whole.j1 k y0 y1) (dragomanref01_Whole.j1 (k + 1) y0 y1)) ∧ (∀ y0 y1 y2 y3, LeO (dragomanref01_Whole.j3 k y0 y1 y2 y3) (dragomanref01_Whole.j3 (k + 1) y0 y1 y2 y3)) ∧ (∀ y0 y1 y2 y3 y4, LeO (dragomanref01_Whole.j4 k y0 y1 y2 y3 y4) (dragomanref01_Whole.j4 (k + 1) y0 y1 y2 y3 y4)) ∧ (∀ y0 y1 y2 y3, LeO (dragomanref01_Whole.j5 k y0 y1 y2 y3) (dragomanref01_Whole.j5 (k + 1) y0 y1 y2 y3)) ∧ (∀ y0 y1 y2 y3 y4, LeO (dragomanref01_Whole.l0 k y0 y1 y2 y3 y4) (dragomanref01_Whole.l0 (k + 1) y0 y1 y2 y3 y4))
  | 0 => ⟨fun _ _ _ r h => by simp [dragomanref01_Whole.j0] at h, fun _ _ r h => by simp [dragomanref01_Whole.j1] at h, fun _ _ _ _ r h => by simp [dragomanref01_Whole.j3] at h, fun _ _ _ _ _ r h => by simp [dragomanref01_Whole.j4] at h, fun _ _ _ _ r h => by simp [dragomanref01_Whole.j5] at h, fun _ _ _ _ _ r h => by simp [dragomanref01_Whole.l0] at h⟩
  | k + 1 => by
    obtain ⟨ih0, ih1, ih2, ih3, ih4, ih5⟩ := dragomanref01_Whole.mono_l k
    refine ⟨?_, ?_, ?_, ?_, ?_, ?_⟩
    · intro y0 y1 y2
      unfold dragomanref01_Whole.j0
      repeat' first
      | (with_reducible exact ih0 _ _ _)
      | (with_reducible exact ih1 _ _)
      | (with_reducible exact ih2 _ _ _ _)
      | (with_reducible exact ih3 _ _ _ _ _)
      | (with_reducible exact ih4 _ _ _ _)
      | (with_reducible exact ih5 _ _ _ _ _)
      | (with_reducible exact LeO.refl _)
      | (with_reducible exact LeO.none _)
      | (with_reducible refine LeO.ite ?_ ?_)
      | (with_reducible refine LeO.bind ?_ (fun _ => ?_))
      | exact ih0 _ _ _
      | exact ih1 _ _
      | exact ih2 _ _ _ _
      | exact ih3 _ _ _ _ _
      | exact ih4 _ _ _ _
      | exact ih5 _ _ _ _ _
      | exact LeO.none _
      | refine LeO.ite ?_ ?_
      | refine LeO.bind ?_ (fun _ => ?_)
    · intro y0 y1
      unfold dragomanref01_Whole.j1
      repeat' first
      | (with_reducible exact ih0 _ _ _)
      | (with_reducible exact ih1 _ _)
      | (with_reducible exact ih2 _ _ _ _)
      | (with_reducible exact ih3 _ _ _ _ _)
      | (with_reducible exact ih4 _ _ _ _)
      | (with_reducible exact ih5 _ _ _ _ _)
      | (with_reducible exact LeO.refl _)
      | (with_reducible exact LeO.none _)
      | (with_reducible refine LeO.ite ?_ ?_)
      | (with_reducible refine LeO.bind ?_ (fun _ => ?_))
      | exact ih0 _ _ _
      | exact ih1 _ _
      | exact ih2 _ _ _ _
      | exact ih3 _ _ _ _ _
      | exact ih4 _ _ _ _
      | exact ih5 _ _ _ _ _
      | exact LeO.none _
      | refine LeO.ite ?_ ?_
      | refine LeO.bind ?_ (fun _ => ?_)
    · intro y0 y1 y2 y3
      unfold dragomanref01_Whole.j3
      repeat' first
      | (with_reducible exact ih0 _ _ _)
      | (with_reducible exact ih1 _ _)
      | (with_reducible exact ih2 _ _ _ _)
      | (with_reducible exact ih3 _ _ _ _ _)
      | (with_reducible exact ih4 _ _ _ _)
      | (with_reducible exact ih5 _ _ _ _ _)
      | (with_reducible exact LeO.refl _)
      | (with_reducible exact LeO.none _)
      | (with_reducible refine LeO.ite ?_ ?_)
      | (with_reducible refine LeO.bind ?_ (fun _ => ?_))
      | exact ih0 _ _ _
      | exact ih1 _ _
      | exact ih2 _ _ _ _
      | exact ih3 _ _ _ _ _
      | exact ih4 _ _ _ _
      | exact ih5 _ _ _ _ _
      | exact LeO.none _
      | refine LeO.ite ?_ ?_
      | refine LeO.bind ?_ (fun _ => ?_)
    · intro y0 y1 y2 y3 y4
      unfold dragomanref01_Whole.j4
      repeat' first
      | (with_reducible exact ih0 _ _ _)
      | (with_reducible exact ih1 _ _)
      | (with_reducible exact ih2 _ _ _ _)
      | (with_reducible exact ih3 _ _ _ _ _)
      | (with_reducible exact ih4 _ _ _ _)
      | (with_reducible exact ih5 _ _ _ _ _)
      | (with_reducible exact LeO.refl _)
      | (with_reducible exact LeO.none _)
      | (with_reducible refine LeO.ite ?_ ?_)
      | (with_reducible refine LeO.bind ?_ (fun _ => ?_))
      | exact ih0 _ _ _
      | exact ih1 _ _
      | exact ih2 _ _ _ _
      | exact ih3 _ _ _ _ _
      | exact ih4 _ _ _ _
      | exact ih5 _ _ _ _ _
      | exact LeO.none _
      | refine LeO.ite ?_ ?_
      | refine LeO.bind ?_ (fun _ => ?_)
    · intro y0 y1 y2 y3
      unfold dragomanref01_Whole.j5
      repeat' first
      | (with_reducible exact ih0 _ _ _)
      | (with_reducible exact ih1 _ _)
      | (with_reducible exact ih2 _ _ _ _)
      | (with_reducible exact ih3 _ _ _ _ _)
      | (with_reducible exact ih4 _ _ _ _)
      | (with_reducible exact ih5 _ _ _ _ _)
      | (with_reducible exact LeO.refl _)
      | (with_reducible exact LeO.none _)
      | (with_reducible refine LeO.ite ?_ ?_)
      | (with_reducible refine LeO.bind ?_ (fun _ => ?_))
      | exact ih0 _ _ _
      | exact ih1 _ _
      | exact ih2 _ _ _ _
      | exact ih3 _ _ _ _ _
      | exact ih4 _ _ _ _
      | exact ih5 _ _ _ _ _
      | exact LeO.none _
      | refine LeO.ite ?_ ?_
      | refine LeO.bind ?_ (fun _ => ?_)
    · intro y0 y1 y2 y3 y4
      unfold dragomanref01_Whole.l0
      repeat' first
      | (with_reducible exact ih0 _ _ _)
      | (with_reducible exact ih1 _ _)
      | (with_reducible exact ih2 _ _ _ _)
      | (with_reducible exact ih3 _ _ _ _ _)
      | (with_reducible exact ih4 _ _ _ _)
      | (with_reducible exact ih5 _ _ _ _ _)
      | (with_reducible exact LeO.refl _)
      | (with_reducible exact LeO.none _)
      | (with_reducible refine LeO.ite ?_ ?_)
      | (with_reducible refine LeO.bind ?_ (fun _ => ?_))
      | exact ih0 _ _ _
      | exact ih1 _ _
      | exact ih2 _ _ _ _
      | exact ih3 _ _ _ _ _
      | exact ih4 _ _ _ _
      | exact ih5 _ _ _ _ _
      | exact LeO.none _
      | refine LeO.ite ?_ ?_
      | refine LeO.bind ?_ (fun _ => ?_)
theorem dragomanref01_Whole.mono : ∀ a0 k, LeO (dragomanref01_Whole.f k a0) (dragomanref01_Whole.f (k + 1) a0) := by
  intro a0 k
  obtain ⟨ih0, ih1, ih2, ih3, ih4, ih5⟩ := dragomanref01_Whole.mono_l k
  unfold dragomanref01_Whole.f
  repeat' first
      | (with_reducible exact ih0 _ _ _)
      | (with_reducible exact ih1 _ _)
      | (with_reducible exact ih2 _ _ _ _)
      | (with_reducible exact ih3 _ _ _ _ _)
      | (with_reducible exact ih4 _ _ _ _)
      | (with_reducible exact ih5 _ _ _ _ _)
      | (with_reducible exact LeO.refl _)
      | (with_reducible exact LeO.none _)
      | (with_reducible refine LeO.ite ?_ ?_)
      | (with_reducible refine LeO.bind ?_ (fun _ => ?_))
      | exact ih0 _ _ _
      | exact ih1 _ _
      | exact ih2 _ _ _ _
      | exact ih3 _ _ _ _ _
      | exact ih4 _ _ _ _
      | exact ih5 _ _ _ _ _
      | exact LeO.none _
      | refine LeO.ite ?_ ?_
      | refine LeO.bind ?_ (fun _ => ?_)
set_option maxHeartbeats 8000000 in
set_option maxRecDepth 100000 in
theorem dragomanref01_Whole.calls (k : Nat) (a0 : ByteArray) (r1 : Int) (r2 : Int) (r3 : Int) (w : World) (h : dragomanref01_Whole.f k a0 = some (r1, r2, r3)) :
    Calls Tryd.prog 104 #[.string a0] w fun e w' => e = .returned (.tuple #[.int .i64 r1, .int .i64 r2, .int .i64 r3]) ∧ Drawn0 w w' := by
  have H : (if (a0.size : Int) > 0 then (if 0 < (a0.size : Int) then (dragomanref01_Whole.j0 k a0 0 ((bt a0 0) == 45)) else (none)) else (dragomanref01_Whole.j0 k a0 0 false)) = some (r1, r2, r3) := h
  clear h
  have HC2 := Aside0.mk H
  clear H
  go_enter Tryd.func104, Tryd.ntmps104
  go_upto_region 2 with (fail)
  go_cut [17] (fun v17 wc => ∃ (kq : Nat) (x17_1 : Bool), v17 = .bool x17_1 ∧ Aside0 (dragomanref01_Whole.j0 kq a0 0 x17_1 = some (r1, r2, r3)) ∧ Aside0 (kq ≤ k) ∧ Drawn0 w wc)
  case first =>
    have H := HC2.out
    clear HC2
    by_cases c3 : (a0.size : Int) > 0
    · rw [if_pos c3] at H
      have c3b0 : decide (0 < (a0.size : Int)) = true := decide_eq_true c3
      have c3b1 : decide (0 < a0.size) = true := decide_eq_true (by omega)
      clear c3
      (first | rw [c3b0] | (simp only [i64_w, i32_w]; rw [c3b0]) | skip)
      by_cases c4 : 0 < (a0.size : Int)
      · rw [if_pos c4] at H
        have c4b0 : decide (0 < (a0.size : Int)) = true := decide_eq_true c4
        have c4b1 : decide (0 < a0.size) = true := decide_eq_true (by omega)
        clear c4
        have H' := Aside0.mk H
        clear H
        have p5 : 0 ≤ (0 : Int) := (by omega)
        have q5 : 0 < a0.size := (by have : (0 : Int) < (a0.size : Int) := of_decide_eq_true (by first | (with_reducible assumption) | assumption); omega)
        have hx5 : ∀ h : 0 < a0.size, ((a0[0]'h).toNat : Int) = bt a0 0 := bt_at a0 0
        clear p5
        have qi5 : (0 < (a0.size : Int)) = True := eq_true (of_decide_eq_true (by first | (with_reducible assumption) | assumption))
        replace q5 := eq_true q5
        go_wp2
        go_meet
        case rel => exact ⟨_, (((bt a0 0) == 45)), (by first | rfl | (simp; done) | (simp [*]; done)), H', ⟨by first | omega | exact Nat.le_refl _⟩, by repeat (first | exact Drawn0.refl _ | apply Drawn0.step)⟩
      · rw [if_neg c4] at H
        exact absurd H (by simp)
    · rw [if_neg c3] at H
      have c3b0 : decide (0 < (a0.size : Int)) = false := decide_eq_false c3
      have c3b1 : decide (0 < a0.size) = false := decide_eq_false (by omega)
      clear c3
      (first | rw [c3b0] | (simp only [i64_w, i32_w]; rw [c3b0]) | skip)
      have H' := Aside0.mk H
      clear H
      go_wp2
      go_meet
      case rel => exact ⟨_, (false), (by first | rfl | (simp; done) | (simp [*]; done)), H', ⟨by first | omega | exact Nat.le_refl _⟩, by repeat (first | exact Drawn0.refl _ | apply Drawn0.step)⟩
  case rest =>
    clear HC2
    try clear c1
    try clear p2
    try clear c3
    try clear c3b0
    try clear c3b1
    try clear c4
    try clear c4b0
    try clear c4b1
    try clear p5
    try clear q5
    try clear hx5
    try clear qi5
    try clear p5
    try clear q5
    obtain ⟨kq, x17_1, rfl, HA, HJ1, ⟨mc1, rfl⟩⟩ := hcut
    cases kq with
    | zero => exact absurd HA.out (by simp [dragomanref01_Whole.j0])
    | succ kj1 =>
      have H := HA.out
      clear HA
      simp only [dragomanref01_Whole.j0] at H
      have HC6 := Aside0.mk H
      clear H
      go_upto_if 17 with (fail)
      go_cut [5] (fun v5 wc => ∃ (kq : Nat) (x5_5 : Int), v5 = .int .i64 x5_5 ∧ Aside0 (dragomanref01_Whole.j1 kq a0 x5_5 = some (r1, r2, r3)) ∧ Aside0 (kq ≤ kj1) ∧ Drawn0 w wc)
      case first =>
        have H := HC6.out
        clear HC6
        by_cases c7 : x17_1 = true
        · subst c7
          have H1 : (dragomanref01_Whole.j1 kj1 a0 1) = some (r1, r2, r3) := by rw [if_pos rfl] at H; exact H
          clear H
          have H := H1
          clear H1
          have H' := Aside0.mk H
          clear H
          go_wp2
          go_meet
          case rel => exact ⟨_, (1), (by first | rfl | (simp; done) | (simp [*]; done)), H', ⟨by have := HJ1.out; first | omega | exact Nat.le_refl _⟩, by repeat (first | exact Drawn0.refl _ | apply Drawn0.step)⟩
        · replace c7 := Bool.eq_false_iff.mpr c7
          subst c7
          have H1 : (dragomanref01_Whole.j1 kj1 a0 0) = some (r1, r2, r3) := by rw [if_neg (show ¬ (false = true) by decide)] at H; exact H
          clear H
          have H := H1
          clear H1
          have H' := Aside0.mk H
          clear H
          go_wp2
          go_meet
          case rel => exact ⟨_, (0), (by first | rfl | (simp; done) | (simp [*]; done)), H', ⟨by have := HJ1.out; first | omega | exact Nat.le_refl _⟩, by repeat (first | exact Drawn0.refl _ | apply Drawn0.step)⟩
      case rest =>
        clear HC6
        try clear c1
        try clear p2
        try clear c3
        try clear c3b0
        try clear c3b1
        try clear c4
        try clear c4b0
        try clear c4b1
        try clear p5
        try clear q5
        try clear hx5
        try clear qi5
        try clear c7
        try clear p2
        try clear p5
        try clear q5
        obtain ⟨kq, x5_5, rfl, HA, HJ5, ⟨mc5, rfl⟩⟩ := hcut
        cases kq with
        | zero => exact absurd HA.out (by simp [dragomanref01_Whole.j1])
        | succ kj5 =>
          have H := HA.out
          clear HA
          simp only [dragomanref01_Whole.j1] at H
          have HC8 := Aside0.mk H
          clear H
          go_upto_block 0 with (fail)
          go_cut [5, 7, 8] (fun v5 v7 v8 wc => ∃ (kq : Nat) (x5_7 : Int) (x7_7 : Int) (x8_7 : Bool), v5 = .int .i64 x5_7 ∧ v7 = .int .i64 x7_7 ∧ v8 = .bool x8_7 ∧ Aside0 (dragomanref01_Whole.j3 kq x5_7 x5_5 x7_7 x8_7 = some (r1, r2, r3)) ∧ Aside0 (kq ≤ kj5) ∧ Drawn0 w wc)
          case first =>
            have H := HC8.out
            clear HC8
            have H' := Aside0.mk H
            clear H
            go_wp2
            go_loopg [5, 7, 8] kj5 (fun kq v5 v7 v8 w' => ∃ (x5_3 : Int) (x7_3 : Int) (x8_3 : Bool), v5 = .int .i64 x5_3 ∧ v7 = .int .i64 x7_3 ∧ v8 = .bool x8_3 ∧ Aside0 (dragomanref01_Whole.l0 kq a0 x5_3 x5_5 x7_3 x8_3 = some (r1, r2, r3)) ∧ Aside0 (kq ≤ kj5) ∧ Drawn0 w w')
            case atStart => exact ⟨(x5_5), (0), (false), (by first | rfl | (simp; done) | (simp [*]; done)), (by first | rfl | (simp; done) | (simp [*]; done)), (by first | rfl | (simp; done) | (simp [*]; done)), H', ⟨Nat.le_refl _⟩, by repeat (first | exact Drawn0.refl _ | apply Drawn0.step)⟩
            case round =>
              clear H'
              try clear c1
              try clear p2
              try clear c3
              try clear c3b0
              try clear c3b1
              try clear c4
              try clear c4b0
              try clear c4b1
              try clear c5
              try clear p5
              try clear q5
              try clear hx5
              try clear qi5
              try clear c7
              try clear p2
              try clear p5
              try clear q5
              obtain ⟨x5_3, x7_3, x8_3, rfl, rfl, rfl, HA, HK3, ⟨m3, rfl⟩⟩ := hrel
              cases gk with
              | zero => exact absurd HA.out (by simp [dragomanref01_Whole.l0])
              | succ k3 =>
                have H := HA.out
                clear HA
                simp only [dragomanref01_Whole.l0] at H
                by_cases c9 : x5_3 < (a0.size : Int)
                · rw [if_pos c9] at H
                  have c9b0 : decide (x5_3 < (a0.size : Int)) = true := decide_eq_true c9
                  clear c9
                  (first | rw [c9b0] | (simp only [i64_w, i32_w]; rw [c9b0]) | skip)
                  by_cases c10 : 0 ≤ x5_3
                  · rw [if_pos c10] at H
                    have c10b0 : decide (0 ≤ x5_3) = true := decide_eq_true c10
                    clear c10
                    by_cases c12 : (bt a0 x5_3) ≥ 48
                    · rw [if_pos c12] at H
                      have c12b0 : decide (48 ≤ (bt a0 x5_3)) = true := decide_eq_true c12
                      clear c12
                      by_cases c14 : (bt a0 x5_3) ≤ 57
                      · rw [if_pos c14] at H
                        have c14b0 : decide ((bt a0 x5_3) ≤ 57) = true := decide_eq_true c14
                        clear c14
                        by_cases c16 : x8_3 = true
                        · subst c16
                          have H1 : (dragomanref01_Whole.l0 k3 a0 (wrap64 (x5_3 + 1)) x5_5 (wrap64 ((wrap64 (10 * x7_3)) - (wrap64 ((wrap64 (bt a0 x5_3)) - 48)))) true) = some (r1, r2, r3) := by rw [if_pos rfl] at H; exact H
                          clear H
                          have H := H1
                          clear H1
                          have H' := Aside0.mk H
                          clear H
                          have p11 : 0 ≤ (x5_3 : Int) := of_decide_eq_true (by first | (with_reducible assumption) | assumption)
                          have q11 : x5_3 < (a0.size : Int) := of_decide_eq_true (by first | (with_reducible assumption) | assumption)
                          have hx11 := bt_at a0 x5_3
                          replace p11 := eq_true p11
                          replace q11 := eq_true q11
                          have p13 : 0 ≤ (x5_3 : Int) := of_decide_eq_true (by first | (with_reducible assumption) | assumption)
                          have q13 : x5_3 < (a0.size : Int) := of_decide_eq_true (by first | (with_reducible assumption) | assumption)
                          have hx13 := bt_at a0 x5_3
                          replace p13 := eq_true p13
                          replace q13 := eq_true q13
                          have p15 : 0 ≤ (x5_3 : Int) := of_decide_eq_true (by first | (with_reducible assumption) | assumption)
                          have q15 : x5_3 < (a0.size : Int) := of_decide_eq_true (by first | (with_reducible assumption) | assumption)
                          have hx15 := bt_at a0 x5_3
                          replace p15 := eq_true p15
                          replace q15 := eq_true q15
                          go_wp2
                          go_roundg k3
                          case measure => have := HJ1.out; have := HJ5.out; have := HK3.out; omega
                          case rel => exact ⟨(wrap64 (x5_3 + 1)), (wrap64 ((wrap64 (10 * x7_3)) - (wrap64 ((wrap64 (bt a0 x5_3)) - 48)))), (true), (by first | rfl | (simp; done) | (simp [*]; done)), (by first | rfl | (simp; done) | (simp [*]; done)), (by first | rfl | (simp; done) | (simp [*]; done)), H', ⟨by have := HJ1.out; have := HJ5.out; have := HK3.out; omega⟩, by repeat (first | exact Drawn0.refl _ | apply Drawn0.step)⟩
                        · replace c16 := Bool.eq_false_iff.mpr c16
                          subst c16
                          have H1 : (if x7_3 < (wrap64 (Int.tdiv (wrap64 ((-9223372036854775808) + (wrap64 ((wrap64 (bt a0 x5_3)) - 48)))) 10)) then (dragomanref01_Whole.l0 k3 a0 (wrap64 (x5_3 + 1)) x5_5 (wrap64 ((wrap64 (10 * x7_3)) - (wrap64 ((wrap64 (bt a0 x5_3)) - 48)))) true) else (if x7_3 = (-922337203685477580) then (dragomanref01_Whole.l0 k3 a0 (wrap64 (x5_3 + 1)) x5_5 (wrap64 ((wrap64 (10 * x7_3)) - (wrap64 ((wrap64 (bt a0 x5_3)) - 48)))) ((wrap64 ((wrap64 (bt a0 x5_3)) - 48)) == 9)) else (dragomanref01_Whole.l0 k3 a0 (wrap64 (x5_3 + 1)) x5_5 (wrap64 ((wrap64 (10 * x7_3)) - (wrap64 ((wrap64 (bt a0 x5_3)) - 48)))) false))) = some (r1, r2, r3) := by rw [if_neg (show ¬ (false = true) by decide)] at H; exact H
                          clear H
                          have H := H1
                          clear H1
                          by_cases c17 : x7_3 < (wrap64 (Int.tdiv (wrap64 ((-9223372036854775808) + (wrap64 ((wrap64 (bt a0 x5_3)) - 48)))) 10))
                          · rw [if_pos c17] at H
                            have c17b0 : decide (x7_3 < (wrap64 (Int.tdiv (wrap64 ((-9223372036854775808) + (wrap64 ((wrap64 (bt a0 x5_3)) - 48)))) 10))) = true := decide_eq_true c17
                            try (have c17b0n := c17b0; rw [wrapFit (by omega) (by omega)] at c17b0n)
                            clear c17
                            have H' := Aside0.mk H
                            clear H
                            have p11 : 0 ≤ (x5_3 : Int) := of_decide_eq_true (by first | (with_reducible assumption) | assumption)
                            have q11 : x5_3 < (a0.size : Int) := of_decide_eq_true (by first | (with_reducible assumption) | assumption)
                            have hx11 := bt_at a0 x5_3
                            replace p11 := eq_true p11
                            replace q11 := eq_true q11
                            have p13 : 0 ≤ (x5_3 : Int) := of_decide_eq_true (by first | (with_reducible assumption) | assumption)
                            have q13 : x5_3 < (a0.size : Int) := of_decide_eq_true (by first | (with_reducible assumption) | assumption)
                            have hx13 := bt_at a0 x5_3
                            replace p13 := eq_true p13
                            replace q13 := eq_true q13
                            have p15 : 0 ≤ (x5_3 : Int) := of_decide_eq_true (by first | (with_reducible assumption) | assumption)
                            have q15 : x5_3 < (a0.size : Int) := of_decide_eq_true (by first | (with_reducible assumption) | assumption)
                            have hx15 := bt_at a0 x5_3
                            replace p15 := eq_true p15
                            replace q15 := eq_true q15
                            go_wp2
                            go_roundg k3
                            case measure => have := HJ1.out; have := HJ5.out; have := HK3.out; omega
                            case rel => exact ⟨(wrap64 (x5_3 + 1)), (wrap64 ((wrap64 (10 * x7_3)) - (wrap64 ((wrap64 (bt a0 x5_3)) - 48)))), (true), (by first | rfl | (simp; done) | (simp [*]; done)), (by first | rfl | (simp; done) | (simp [*]; done)), (by first | rfl | (simp; done) | (simp [*]; done)), H', ⟨by have := HJ1.out; have := HJ5.out; have := HK3.out; omega⟩, by repeat (first | exact Drawn0.refl _ | apply Drawn0.step)⟩
                          · rw [if_neg c17] at H
                            have c17b0 : decide (x7_3 < (wrap64 (Int.tdiv (wrap64 ((-9223372036854775808) + (wrap64 ((wrap64 (bt a0 x5_3)) - 48)))) 10))) = false := decide_eq_false c17
                            try (have c17b0n := c17b0; rw [wrapFit (by omega) (by omega)] at c17b0n)
                            clear c17
                            by_cases c18 : x7_3 = (-922337203685477580)
                            · rw [if_pos c18] at H
                              have c18b0 : (x7_3 == (-922337203685477580)) = true := beq_iff_eq.mpr c18
                              have c18b1 : (x7_3 != (-922337203685477580)) = false := bne_eq_false_iff_eq.mpr c18
                              clear c18
                              have H' := Aside0.mk H
                              clear H
                              have p11 : 0 ≤ (x5_3 : Int) := of_decide_eq_true (by first | (with_reducible assumption) | assumption)
                              have q11 : x5_3 < (a0.size : Int) := of_decide_eq_true (by first | (with_reducible assumption) | assumption)
                              have hx11 := bt_at a0 x5_3
                              replace p11 := eq_true p11
                              replace q11 := eq_true q11
                              have p13 : 0 ≤ (x5_3 : Int) := of_decide_eq_true (by first | (with_reducible assumption) | assumption)
                              have q13 : x5_3 < (a0.size : Int) := of_decide_eq_true (by first | (with_reducible assumption) | assumption)
                              have hx13 := bt_at a0 x5_3
                              replace p13 := eq_true p13
                              replace q13 := eq_true q13
                              have p15 : 0 ≤ (x5_3 : Int) := of_decide_eq_true (by first | (with_reducible assumption) | assumption)
                              have q15 : x5_3 < (a0.size : Int) := of_decide_eq_true (by first | (with_reducible assumption) | assumption)
                              have hx15 := bt_at a0 x5_3
                              replace p15 := eq_true p15
                              replace q15 := eq_true q15
                              go_wp2
                              go_roundg k3
                              case measure => have := HJ1.out; have := HJ5.out; have := HK3.out; omega
                              case rel => exact ⟨(wrap64 (x5_3 + 1)), (wrap64 ((wrap64 (10 * x7_3)) - (wrap64 ((wrap64 (bt a0 x5_3)) - 48)))), (((wrap64 ((wrap64 (bt a0 x5_3)) - 48)) == 9)), (by first | rfl | (simp; done) | (simp [*]; done)), (by first | rfl | (simp; done) | (simp [*]; done)), (by first | rfl | (simp; done) | (simp [*]; done)), H', ⟨by have := HJ1.out; have := HJ5.out; have := HK3.out; omega⟩, by repeat (first | exact Drawn0.refl _ | apply Drawn0.step)⟩
                            · rw [if_neg c18] at H
                              have c18b0 : (x7_3 == (-922337203685477580)) = false := beq_eq_false_iff_ne.mpr c18
                              have c18b1 : (x7_3 != (-922337203685477580)) = true := bne_iff_ne.mpr c18
                              have H' := Aside0.mk H
                              clear H
                              have p11 : 0 ≤ (x5_3 : Int) := of_decide_eq_true (by first | (with_reducible assumption) | assumption)
                              have q11 : x5_3 < (a0.size : Int) := of_decide_eq_true (by first | (with_reducible assumption) | assumption)
                              have hx11 := bt_at a0 x5_3
                              replace p11 := eq_true p11
                              replace q11 := eq_true q11
                              have p13 : 0 ≤ (x5_3 : Int) := of_decide_eq_true (by first | (with_reducible assumption) | assumption)
                              have q13 : x5_3 < (a0.size : Int) := of_decide_eq_true (by first | (with_reducible assumption) | assumption)
                              have hx13 := bt_at a0 x5_3
                              replace p13 := eq_true p13
                              replace q13 := eq_true q13
                              have p15 : 0 ≤ (x5_3 : Int) := of_decide_eq_true (by first | (with_reducible assumption) | assumption)
                              have q15 : x5_3 < (a0.size : Int) := of_decide_eq_true (by first | (with_reducible assumption) | assumption)
                              have hx15 := bt_at a0 x5_3
                              replace p15 := eq_true p15
                              replace q15 := eq_true q15
                              go_wp2
                              go_roundg k3
                              case measure => have := HJ1.out; have := HJ5.out; have := HK3.out; omega
                              case rel => exact ⟨(wrap64 (x5_3 + 1)), (wrap64 ((wrap64 (10 * x7_3)) - (wrap64 ((wrap64 (bt a0 x5_3)) - 48)))), (false), (by first | rfl | (simp; done) | (simp [*]; done)), (by first | rfl | (simp; done) | (simp [*]; done)), (by first | rfl | (simp; done) | (simp [*]; done)), H', ⟨by have := HJ1.out; have := HJ5.out; have := HK3.out; omega⟩, by repeat (first | exact Drawn0.refl _ | apply Drawn0.step)⟩
                      · rw [if_neg c14] at H
                        have c14b0 : decide ((bt a0 x5_3) ≤ 57) = false := decide_eq_false c14
                        clear c14
                        have H' := Aside0.mk H
                        clear H
                        have p11 : 0 ≤ (x5_3 : Int) := of_decide_eq_true (by first | (with_reducible assumption) | assumption)
                        have q11 : x5_3 < (a0.size : Int) := of_decide_eq_true (by first | (with_reducible assumption) | assumption)
                        have hx11 := bt_at a0 x5_3
                        replace p11 := eq_true p11
                        replace q11 := eq_true q11
                        have p13 : 0 ≤ (x5_3 : Int) := of_decide_eq_true (by first | (with_reducible assumption) | assumption)
                        have q13 : x5_3 < (a0.size : Int) := of_decide_eq_true (by first | (with_reducible assumption) | assumption)
                        have hx13 := bt_at a0 x5_3
                        replace p13 := eq_true p13
                        replace q13 := eq_true q13
                        go_wp2
                        go_meet
                        case rel => exact ⟨_, (x5_3), (x7_3), (x8_3), (by first | rfl | (simp; done) | (simp [*]; done)), (by first | rfl | (simp; done) | (simp [*]; done)), (by first | rfl | (simp; done) | (simp [*]; done)), H', ⟨by have := HJ1.out; have := HJ5.out; have := HK3.out; first | omega | exact Nat.le_refl _⟩, by repeat (first | exact Drawn0.refl _ | apply Drawn0.step)⟩
                    · rw [if_neg c12] at H
                      have c12b0 : decide (48 ≤ (bt a0 x5_3)) = false := decide_eq_false c12
                      clear c12
                      have H' := Aside0.mk H
                      clear H
                      have p11 : 0 ≤ (x5_3 : Int) := of_decide_eq_true (by first | (with_reducible assumption) | assumption)
                      have q11 : x5_3 < (a0.size : Int) := of_decide_eq_true (by first | (with_reducible assumption) | assumption)
                      have hx11 := bt_at a0 x5_3
                      replace p11 := eq_true p11
                      replace q11 := eq_true q11
                      go_wp2
                      go_meet
                      case rel => exact ⟨_, (x5_3), (x7_3), (x8_3), (by first | rfl | (simp; done) | (simp [*]; done)), (by first | rfl | (simp; done) | (simp [*]; done)), (by first | rfl | (simp; done) | (simp [*]; done)), H', ⟨by have := HJ1.out; have := HJ5.out; have := HK3.out; first | omega | exact Nat.le_refl _⟩, by repeat (first | exact Drawn0.refl _ | apply Drawn0.step)⟩
                  · rw [if_neg c10] at H
                    exact absurd H (by simp)
                · rw [if_neg c9] at H
                  have c9b0 : decide (x5_3 < (a0.size : Int)) = false := decide_eq_false c9
                  clear c9
                  (first | rw [c9b0] | (simp only [i64_w, i32_w]; rw [c9b0]) | skip)
                  have H' := Aside0.mk H
                  clear H
                  go_wp2
                  go_meet
                  case rel => exact ⟨_, (x5_3), (x7_3), (x8_3), (by first | rfl | (simp; done) | (simp [*]; done)), (by first | rfl | (simp; done) | (simp [*]; done)), (by first | rfl | (simp; done) | (simp [*]; done)), H', ⟨by have := HJ1.out; have := HJ5.out; have := HK3.out; first | omega | exact Nat.le_refl _⟩, by repeat (first | exact Drawn0.refl _ | apply Drawn0.step)⟩
          case rest =>
            clear HC8
            try clear c1
            try clear p1
            try clear q1
            try clear hx1
            try clear p2
            try clear c3
            try clear c3b0
            try clear c3b1
            try clear c4
            try clear c4b0
            try clear c4b1
            try clear c5
            try clear p5
            try clear q5
            try clear hx5
            try clear qi5
            try clear p6
            try clear c7
            try clear c9
            try clear c9b0
            try clear c10
            try clear c10b0
            try clear p11
            try clear q11
            try clear hx11
            try clear c12
            try clear c12b0
            try clear p13
            try clear q13
            try clear hx13
            try clear c14
            try clear c14b0
            try clear p15
            try clear q15
            try clear hx15
            try clear c16
            try clear c17
            try clear c17b0
            try clear c18
            try clear c18b0
            try clear c18b1
            try clear p11
            try clear p13
            try clear p15
            try clear p2
            try clear p5
            try clear q11
            try clear q13
            try clear q15
            try clear q5
            obtain ⟨kq, x5_7, x7_7, x8_7, rfl, rfl, rfl, HA, HJ7, ⟨mc7, rfl⟩⟩ := hcut
            cases kq with
            | zero => exact absurd HA.out (by simp [dragomanref01_Whole.j3])
            | succ kj7 =>
              have H := HA.out
              clear HA
              simp only [dragomanref01_Whole.j3] at H
              by_cases c19 : x5_7 = x5_5
              · rw [if_pos c19] at H
                have c19b0 : (x5_7 == x5_5) = true := beq_iff_eq.mpr c19
                have c19b1 : (x5_7 != x5_5) = false := bne_eq_false_iff_eq.mpr c19
                clear c19
                simp only [Option.some.injEq, Prod.mk.injEq] at H
                obtain ⟨rfl, rfl, rfl⟩ := H
                go_wp2
                go_ret3
                exact ⟨by first | rfl | (simp; done) | (simp [*]; done), by repeat (first | exact Drawn0.refl _ | apply Drawn0.step)⟩
              · rw [if_neg c19] at H
                have c19b0 : (x5_7 == x5_5) = false := beq_eq_false_iff_ne.mpr c19
                have c19b1 : (x5_7 != x5_5) = true := bne_iff_ne.mpr c19
                have HC20 := Aside0.mk H
                clear H
                go_upto_region 14 with (fail)
                go_cut [70] (fun v70 wc => ∃ (kq : Nat) (x70_19 : Bool), v70 = .bool x70_19 ∧ Aside0 (dragomanref01_Whole.j4 kq x5_7 x5_5 x7_7 x8_7 x70_19 = some (r1, r2, r3)) ∧ Aside0 (kq ≤ kj7) ∧ Drawn0 w wc)
                case first =>
                  have H := HC20.out
                  clear HC20
                  by_cases c21 : x5_5 = 0
                  · rw [if_pos c21] at H
                    have c21b0 : (x5_5 == 0) = true := beq_iff_eq.mpr c21
                    have c21b1 : (x5_5 != 0) = false := bne_eq_false_iff_eq.mpr c21
                    clear c21
                    (first | rw [c21b0] | (simp only [i64_w, i32_w]; rw [c21b0]) | skip)
                    have H' := Aside0.mk H
                    clear H
                    go_wp2
                    go_meet
                    case rel => exact ⟨_, ((x7_7 == (-9223372036854775808))), (by first | rfl | (simp; done) | (simp [*]; done)), H', ⟨by have := HJ1.out; have := HJ5.out; have := HJ7.out; first | omega | exact Nat.le_refl _⟩, by repeat (first | exact Drawn0.refl _ | apply Drawn0.step)⟩
                  · rw [if_neg c21] at H
                    have c21b0 : (x5_5 == 0) = false := beq_eq_false_iff_ne.mpr c21
                    have c21b1 : (x5_5 != 0) = true := bne_iff_ne.mpr c21
                    (first | rw [c21b0] | (simp only [i64_w, i32_w]; rw [c21b0]) | skip)
                    have H' := Aside0.mk H
                    clear H
                    go_wp2
                    go_meet
                    case rel => exact ⟨_, (false), (by first | rfl | (simp; done) | (simp [*]; done)), H', ⟨by have := HJ1.out; have := HJ5.out; have := HJ7.out; first | omega | exact Nat.le_refl _⟩, by repeat (first | exact Drawn0.refl _ | apply Drawn0.step)⟩
                case rest =>
                  clear HC20
                  try clear c1
                  try clear p1
                  try clear q1
                  try clear hx1
                  try clear c2
                  try clear p2
                  try clear c3
                  try clear c3b0
                  try clear c3b1
                  try clear c4
                  try clear c4b0
                  try clear c4b1
                  try clear c5
                  try clear p5
                  try clear q5
                  try clear hx5
                  try clear qi5
                  try clear p6
                  try clear c7
                  try clear c9
                  try clear c9b0
                  try clear c10
                  try clear c10b0
                  try clear p11
                  try clear q11
                  try clear hx11
                  try clear c12
                  try clear c12b0
                  try clear p13
                  try clear q13
                  try clear hx13
                  try clear c14
                  try clear c14b0
                  try clear p15
                  try clear q15
                  try clear hx15
                  try clear c16
                  try clear c17
                  try clear c17b0
                  try clear c18
                  try clear c18b0
                  try clear c18b1
                  try clear c19
                  try clear c19b0
                  try clear c19b1
                  try clear c21
                  try clear c21b0
                  try clear c21b1
                  try clear p1
                  try clear p11
                  try clear p13
                  try clear p15
                  try clear p2
                  try clear p5
                  try clear p6
                  try clear q1
                  try clear q11
                  try clear q13
                  try clear q15
                  try clear q5
                  obtain ⟨kq, x70_19, rfl, HA, HJ19, ⟨mc19, rfl⟩⟩ := hcut
                  cases kq with
                  | zero => exact absurd HA.out (by simp [dragomanref01_Whole.j4])
                  | succ kj19 =>
                    have H := HA.out
                    clear HA
                    simp only [dragomanref01_Whole.j4] at H
                    have HC22 := Aside0.mk H
                    clear H
                    go_upto_if 70 with (fail)
                    go_cut [8] (fun v8 wc => ∃ (kq : Nat) (x8_21 : Bool), v8 = .bool x8_21 ∧ Aside0 (dragomanref01_Whole.j5 kq x5_7 x5_5 x7_7 x8_21 = some (r1, r2, r3)) ∧ Aside0 (kq ≤ kj19) ∧ Drawn0 w wc)
                    case first =>
                      have H := HC22.out
                      clear HC22
                      by_cases c23 : x70_19 = true
                      · subst c23
                        have H1 : (dragomanref01_Whole.j5 kj19 x5_7 x5_5 x7_7 true) = some (r1, r2, r3) := by rw [if_pos rfl] at H; exact H
                        clear H
                        have H := H1
                        clear H1
                        have H' := Aside0.mk H
                        clear H
                        go_wp2
                        go_meet
                        case rel => exact ⟨_, (true), (by first | rfl | (simp; done) | (simp [*]; done)), H', ⟨by have := HJ1.out; have := HJ5.out; have := HJ7.out; have := HJ19.out; first | omega | exact Nat.le_refl _⟩, by repeat (first | exact Drawn0.refl _ | apply Drawn0.step)⟩
                      · replace c23 := Bool.eq_false_iff.mpr c23
                        subst c23
                        have H1 : (dragomanref01_Whole.j5 kj19 x5_7 x5_5 x7_7 x8_7) = some (r1, r2, r3) := by rw [if_neg (show ¬ (false = true) by decide)] at H; exact H
                        clear H
                        have H := H1
                        clear H1
                        have H' := Aside0.mk H
                        clear H
                        go_wp2
                        go_meet
                        case rel => exact ⟨_, (x8_7), (by first | rfl | (simp; done) | (simp [*]; done)), H', ⟨by have := HJ1.out; have := HJ5.out; have := HJ7.out; have := HJ19.out; first | omega | exact Nat.le_refl _⟩, by repeat (first | exact Drawn0.refl _ | apply Drawn0.step)⟩
                    case rest =>
                      clear HC22
                      try clear c1
                      try clear p1
                      try clear q1
                      try clear hx1
                      try clear c2
                      try clear p2
                      try clear c3
                      try clear c3b0
                      try clear c3b1
                      try clear c4
                      try clear c4b0
                      try clear c4b1
                      try clear c5
                      try clear p5
                      try clear q5
                      try clear hx5
                      try clear qi5
                      try clear p6
                      try clear c7
                      try clear c9
                      try clear c9b0
                      try clear c10
                      try clear c10b0
                      try clear p11
                      try clear q11
                      try clear hx11
                      try clear c12
                      try clear c12b0
                      try clear p13
                      try clear q13
                      try clear hx13
                      try clear c14
                      try clear c14b0
                      try clear p15
                      try clear q15
                      try clear hx15
                      try clear c16
                      try clear c17
                      try clear c17b0
                      try clear c18
                      try clear c18b0
                      try clear c18b1
                      try clear c19
                      try clear c19b0
                      try clear c19b1
                      try clear c21
                      try clear c21b0
                      try clear c21b1
                      try clear c23
                      try clear p1
                      try clear p11
                      try clear p13
                      try clear p15
                      try clear p2
                      try clear p5
                      try clear p6
                      try clear q1
                      try clear q11
                      try clear q13
                      try clear q15
                      try clear q5
                      obtain ⟨kq, x8_21, rfl, HA, HJ21, ⟨mc21, rfl⟩⟩ := hcut
                      cases kq with
                      | zero => exact absurd HA.out (by simp [dragomanref01_Whole.j5])
                      | succ kj21 =>
                        have H := HA.out
                        clear HA
                        simp only [dragomanref01_Whole.j5] at H
                        by_cases c24 : x8_21 = true
                        · subst c24
                          have H1 : (some (0, 0, 3)) = some (r1, r2, r3) := by rw [if_pos rfl] at H; exact H
                          clear H
                          have H := H1
                          clear H1
                          simp only [Option.some.injEq, Prod.mk.injEq] at H
                          obtain ⟨rfl, rfl, rfl⟩ := H
                          go_wp2
                          go_ret3
                          exact ⟨by first | rfl | (simp; done) | (simp [*]; done), by repeat (first | exact Drawn0.refl _ | apply Drawn0.step)⟩
                        · replace c24 := Bool.eq_false_iff.mpr c24
                          subst c24
                          have H1 : (if x5_5 = 0 then (some (wrap64 (-x7_7), x5_7, 0)) else (some (x7_7, x5_7, 0))) = some (r1, r2, r3) := by rw [if_neg (show ¬ (false = true) by decide)] at H; exact H
                          clear H
                          have H := H1
                          clear H1
                          by_cases c25 : x5_5 = 0
                          · rw [if_pos c25] at H
                            have c25b0 : (x5_5 == 0) = true := beq_iff_eq.mpr c25
                            have c25b1 : (x5_5 != 0) = false := bne_eq_false_iff_eq.mpr c25
                            clear c25
                            simp only [Option.some.injEq, Prod.mk.injEq] at H
                            obtain ⟨rfl, rfl, rfl⟩ := H
                            go_wp2
                            go_ret3
                            exact ⟨by first | rfl | (simp; done) | (simp [*]; done), by repeat (first | exact Drawn0.refl _ | apply Drawn0.step)⟩
                          · rw [if_neg c25] at H
                            have c25b0 : (x5_5 == 0) = false := beq_eq_false_iff_ne.mpr c25
                            have c25b1 : (x5_5 != 0) = true := bne_iff_ne.mpr c25
                            simp only [Option.some.injEq, Prod.mk.injEq] at H
                            obtain ⟨rfl, rfl, rfl⟩ := H
                            go_wp2
                            go_ret3
                            exact ⟨by first | rfl | (simp; done) | (simp [*]; done), by repeat (first | exact Drawn0.refl _ | apply Drawn0.step)⟩

/-! ### dragomanref10_one: function 51 -/
def dragomanref10_one.f (a0 : Bool) : Option (Int) := if a0 = true then (some 1) else (some 0)
set_option maxHeartbeats 8000000 in
set_option maxRecDepth 100000 in
theorem dragomanref10_one.calls (a0 : Bool) (r : Int) (w : World) (h : dragomanref10_one.f a0 = some r) :
    Calls Tryd.prog 51 #[.bool a0] w fun e w' => e = .returned (.int .i64 r) ∧ Drawn0 w w' := by
  have H : (if a0 = true then (some 1) else (some 0)) = some r := h
  clear h
  by_cases c2 : a0 = true
  · subst c2
    have H1 : (some 1) = some r := by rw [if_pos rfl] at H; exact H
    clear H
    have H := H1
    clear H1
    obtain rfl := Option.some.inj H
    go_enter Tryd.func51, Tryd.ntmps51
    go_wp2
    go_ret
    exact ⟨by first | rfl | (simp; done) | (simp [*]; done), by repeat (first | exact Drawn0.refl _ | apply Drawn0.step)⟩
  · replace c2 := Bool.eq_false_iff.mpr c2
    subst c2
    have H1 : (some 0) = some r := by rw [if_neg (show ¬ (false = true) by decide)] at H; exact H
    clear H
    have H := H1
    clear H1
    obtain rfl := Option.some.inj H
    go_enter Tryd.func51, Tryd.ntmps51
    go_wp2
    go_ret
    exact ⟨by first | rfl | (simp; done) | (simp [*]; done), by repeat (first | exact Drawn0.refl _ | apply Drawn0.step)⟩

end Go.Proofs.YtambnodgfhlpfaaDoor.QA
