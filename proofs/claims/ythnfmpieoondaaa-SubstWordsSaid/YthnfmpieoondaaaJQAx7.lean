/- The Go functions of this part as Lean functions, each with a proof that a call of it comes to just what the Lean function does. Written by a program of the session's. Conditions: none but those in each theorem. -/
import Derived.Test.YthnfmpieoondaaaJQAx0
import Derived.Test.YthnfmpieoondaaaJQAx6
namespace Go.Proofs.Ythnfmpieoondaaa.QA
open Go.Proofs.Ythnfmpieoondaaa.G
open Go.RowKit Go.Proofs.YthnfmpieoondaaaW.PrintWords Go.Proofs.YthnfmpieoondaaaW.PrintLast Go.Proofs.YthnfmpieoondaaaW.PrintMore
attribute [local go_sem] max2_int min2_int max_two min_two max_three min_three max_four min_four   -- for this text's walks alone
attribute [local go_sem ↓] ix28_0 ix28_1 ia28_0 ia28_1
set_option linter.unusedVariables false
set_option linter.unusedSimpArgs false

/-! ### dragomanref04_Sign: function 38 -/
mutual
def dragomanref04_Sign.j0 : Nat → ByteArray → Int → Bool → Option (Int × Int × Int)
  | 0, _, _, _ => none
  | k + 1, x0, x5, x32 => if x32 = true then (some (0, 0, 2)) else (if x5 = 92 then (if (x0.size : Int) < 2 then (some (0, 0, 2)) else (dragomanref04_Sign.l0 k x0 (⟨#[92, 93, 91, 94, 45, 47, 46, 42, 43, 63, 40, 41, 124, 123, 125, 36]⟩ : ByteArray) 0)) else (some (x5, 1, 0)))
def dragomanref04_Sign.l0 : Nat → ByteArray → ByteArray → Int → Option (Int × Int × Int)
  | 0, _, _, _ => none
  | k + 1, x0, x6, x7 => if x7 < (x6.size : Int) then (if 1 < (x0.size : Int) then (if 0 ≤ x7 then (if (bt x0 1) = (bt x6 x7) then (some (bt x0 1, 2, 0)) else (dragomanref04_Sign.l0 k x0 x6 (wrap64 (x7 + 1)))) else (none)) else (none)) else (if (x0.size : Int) < 4 then (dragomanref04_Sign.j2 k x0 true) else (if 1 < (x0.size : Int) then (dragomanref04_Sign.j2 k x0 ((bt x0 1) != 120)) else (none)))
def dragomanref04_Sign.j2 : Nat → ByteArray → Bool → Option (Int × Int × Int)
  | 0, _, _ => none
  | k + 1, x0, x60 => if x60 = true then (some (0, 0, 2)) else (if 2 < (x0.size : Int) then ((dragomanref01_Digit.f k (bt x0 2)).bind fun t150 => (if 3 < (x0.size : Int) then ((dragomanref01_Digit.f k (bt x0 3)).bind fun t151 => (if t150 < 0 then (some (0, 0, 2)) else (if t151 < 0 then (some (0, 0, 2)) else (some ((wrap64 ((wrap64 (16 * t150)) + t151)) % 256, 4, 0))))) else (none))) else (none))
end
def dragomanref04_Sign.f (k : Nat) (a0 : ByteArray) : Option (Int × Int × Int) := if (a0.size : Int) < 1 then (some (0, 0, 2)) else (if 0 < (a0.size : Int) then (if (bt a0 0) = 10 then (dragomanref04_Sign.j0 k a0 (bt a0 0) true) else (if (bt a0 0) = 93 then (dragomanref04_Sign.j0 k a0 (bt a0 0) true) else (if (bt a0 0) = 91 then (dragomanref04_Sign.j0 k a0 (bt a0 0) true) else (if (bt a0 0) = 94 then (dragomanref04_Sign.j0 k a0 (bt a0 0) true) else (dragomanref04_Sign.j0 k a0 (bt a0 0) ((bt a0 0) == 45)))))) else (none))
set_option maxHeartbeats 8000000 in
set_option maxRecDepth 100000 in
theorem dragomanref04_Sign.calls (k : Nat) (a0 : ByteArray) (r1 : Int) (r2 : Int) (r3 : Int) (w : World) (h : dragomanref04_Sign.f k a0 = some (r1, r2, r3)) :
    Calls Try.prog 38 #[.string a0] w fun e w' => e = .returned (.tuple #[.int .u8 r1, .int .i64 r2, .int .i64 r3]) ∧ Drawn0 w w' := by
  have H : (if (a0.size : Int) < 1 then (some (0, 0, 2)) else (if 0 < (a0.size : Int) then (if (bt a0 0) = 10 then (dragomanref04_Sign.j0 k a0 (bt a0 0) true) else (if (bt a0 0) = 93 then (dragomanref04_Sign.j0 k a0 (bt a0 0) true) else (if (bt a0 0) = 91 then (dragomanref04_Sign.j0 k a0 (bt a0 0) true) else (if (bt a0 0) = 94 then (dragomanref04_Sign.j0 k a0 (bt a0 0) true) else (dragomanref04_Sign.j0 k a0 (bt a0 0) ((bt a0 0) == 45)))))) else (none))) = some (r1, r2, r3) := h
  clear h
  by_cases c2 : (a0.size : Int) < 1
  · rw [if_pos c2] at H
    have c2b0 : decide ((a0.size : Int) < 1) = true := decide_eq_true c2
    have c2b1 : decide (a0.size < 1) = true := decide_eq_true (by omega)
    clear c2
    simp only [Option.some.injEq, Prod.mk.injEq] at H
    obtain ⟨rfl, rfl, rfl⟩ := H
    go_enter Try.func38, Try.ntmps38
    go_wp2
    repeat (go_quiet (fail); try go_wp2)
    go_ret3
    exact ⟨by first | rfl | (simp; done) | (simp [*]; done), by repeat (first | exact Drawn0.refl _ | apply Drawn0.step)⟩
  · rw [if_neg c2] at H
    have c2b0 : decide ((a0.size : Int) < 1) = false := decide_eq_false c2
    have c2b1 : decide (a0.size < 1) = false := decide_eq_false (by omega)
    clear c2
    by_cases c3 : 0 < (a0.size : Int)
    · rw [if_pos c3] at H
      have c3b0 : decide (0 < (a0.size : Int)) = true := decide_eq_true c3
      have c3b1 : decide (0 < a0.size) = true := decide_eq_true (by omega)
      clear c3
      have HC5 := Aside0.mk H
      clear H
      have p4 : 0 ≤ (0 : Int) := (by omega)
      have q4 : 0 < a0.size := (by have : (0 : Int) < (a0.size : Int) := of_decide_eq_true (by first | (with_reducible assumption) | assumption); omega)
      have hx4 : ∀ h : 0 < a0.size, ((a0[0]'h).toNat : Int) = bt a0 0 := bt_at a0 0
      clear p4
      have qi4 : (0 < (a0.size : Int)) = True := eq_true (of_decide_eq_true (by first | (with_reducible assumption) | assumption))
      replace q4 := eq_true q4
      go_enter Try.func38, Try.ntmps38
      go_upto_region 4 with (fail)
      repeat (go_quiet (fail); go_upto_region 4 with (fail))
      go_cut [32] (fun v32 wc => ∃ (kq : Nat) (x32_4 : Bool), v32 = .bool x32_4 ∧ Aside0 (dragomanref04_Sign.j0 kq a0 (bt a0 0) x32_4 = some (r1, r2, r3)) ∧ Aside0 (kq ≤ k) ∧ Drawn0 w wc)
      case first =>
        have H := HC5.out
        clear HC5
        by_cases c6 : (bt a0 0) = 10
        · rw [if_pos c6] at H
          have c6b0 : ((bt a0 0) == 10) = true := beq_iff_eq.mpr c6
          have c6b1 : ((bt a0 0) != 10) = false := bne_eq_false_iff_eq.mpr c6
          clear c6
          (first | rw [c6b0] | (simp only [i64_w, i32_w]; rw [c6b0]) | skip)
          have H' := Aside0.mk H
          clear H
          go_wp2
          repeat (go_quiet (fail); try go_wp2)
          go_meet
          case rel => exact ⟨_, (true), (by first | rfl | (simp; done) | (simp [*]; done)), H', ⟨by first | omega | exact Nat.le_refl _⟩, by repeat (first | exact Drawn0.refl _ | apply Drawn0.step)⟩
        · rw [if_neg c6] at H
          have c6b0 : ((bt a0 0) == 10) = false := beq_eq_false_iff_ne.mpr c6
          have c6b1 : ((bt a0 0) != 10) = true := bne_iff_ne.mpr c6
          (first | rw [c6b0] | (simp only [i64_w, i32_w]; rw [c6b0]) | skip)
          by_cases c7 : (bt a0 0) = 93
          · rw [if_pos c7] at H
            have c7b0 : ((bt a0 0) == 93) = true := beq_iff_eq.mpr c7
            have c7b1 : ((bt a0 0) != 93) = false := bne_eq_false_iff_eq.mpr c7
            clear c7
            have H' := Aside0.mk H
            clear H
            go_wp2
            repeat (go_quiet (fail); try go_wp2)
            go_meet
            case rel => exact ⟨_, (true), (by first | rfl | (simp; done) | (simp [*]; done)), H', ⟨by first | omega | exact Nat.le_refl _⟩, by repeat (first | exact Drawn0.refl _ | apply Drawn0.step)⟩
          · rw [if_neg c7] at H
            have c7b0 : ((bt a0 0) == 93) = false := beq_eq_false_iff_ne.mpr c7
            have c7b1 : ((bt a0 0) != 93) = true := bne_iff_ne.mpr c7
            by_cases c8 : (bt a0 0) = 91
            · rw [if_pos c8] at H
              have c8b0 : ((bt a0 0) == 91) = true := beq_iff_eq.mpr c8
              have c8b1 : ((bt a0 0) != 91) = false := bne_eq_false_iff_eq.mpr c8
              clear c8
              have H' := Aside0.mk H
              clear H
              go_wp2
              repeat (go_quiet (fail); try go_wp2)
              go_meet
              case rel => exact ⟨_, (true), (by first | rfl | (simp; done) | (simp [*]; done)), H', ⟨by first | omega | exact Nat.le_refl _⟩, by repeat (first | exact Drawn0.refl _ | apply Drawn0.step)⟩
            · rw [if_neg c8] at H
              have c8b0 : ((bt a0 0) == 91) = false := beq_eq_false_iff_ne.mpr c8
              have c8b1 : ((bt a0 0) != 91) = true := bne_iff_ne.mpr c8
              by_cases c9 : (bt a0 0) = 94
              · rw [if_pos c9] at H
                have c9b0 : ((bt a0 0) == 94) = true := beq_iff_eq.mpr c9
                have c9b1 : ((bt a0 0) != 94) = false := bne_eq_false_iff_eq.mpr c9
                clear c9
                have H' := Aside0.mk H
                clear H
                go_wp2
                repeat (go_quiet (fail); try go_wp2)
                go_meet
                case rel => exact ⟨_, (true), (by first | rfl | (simp; done) | (simp [*]; done)), H', ⟨by first | omega | exact Nat.le_refl _⟩, by repeat (first | exact Drawn0.refl _ | apply Drawn0.step)⟩
              · rw [if_neg c9] at H
                have c9b0 : ((bt a0 0) == 94) = false := beq_eq_false_iff_ne.mpr c9
                have c9b1 : ((bt a0 0) != 94) = true := bne_iff_ne.mpr c9
                have H' := Aside0.mk H
                clear H
                go_wp2
                repeat (go_quiet (fail); try go_wp2)
                go_meet
                case rel => exact ⟨_, (((bt a0 0) == 45)), (by first | rfl | (simp; done) | (simp [*]; done)), H', ⟨by first | omega | exact Nat.le_refl _⟩, by repeat (first | exact Drawn0.refl _ | apply Drawn0.step)⟩
      case rest =>
        clear HC5
        try clear c2
        try clear c2b0
        try clear c2b1
        try clear p2
        try clear c3
        try clear c3b0
        try clear c3b1
        try clear p4
        try clear q4
        try clear hx4
        try clear qi4
        try clear c6
        try clear c6b0
        try clear c6b1
        try clear c7
        try clear c7b0
        try clear c7b1
        try clear c8
        try clear c8b0
        try clear c8b1
        try clear c9
        try clear c9b0
        try clear c9b1
        try clear p4
        try clear q4
        obtain ⟨kq, x32_4, rfl, HA, HJ4, ⟨mc4, rfl⟩⟩ := hcut
        cases kq with
        | zero => exact absurd HA.out (by simp [dragomanref04_Sign.j0])
        | succ kj4 =>
          have H := HA.out
          clear HA
          simp only [dragomanref04_Sign.j0] at H
          by_cases c10 : x32_4 = true
          · subst c10
            have H1 : (some (0, 0, 2)) = some (r1, r2, r3) := by rw [if_pos rfl] at H; exact H
            clear H
            have H := H1
            clear H1
            simp only [Option.some.injEq, Prod.mk.injEq] at H
            obtain ⟨rfl, rfl, rfl⟩ := H
            go_wp2
            repeat (go_quiet (fail); try go_wp2)
            go_ret3
            exact ⟨by first | rfl | (simp; done) | (simp [*]; done), by repeat (first | exact Drawn0.refl _ | apply Drawn0.step)⟩
          · replace c10 := Bool.eq_false_iff.mpr c10
            subst c10
            have H1 : (if (bt a0 0) = 92 then (if (a0.size : Int) < 2 then (some (0, 0, 2)) else (dragomanref04_Sign.l0 kj4 a0 (⟨#[92, 93, 91, 94, 45, 47, 46, 42, 43, 63, 40, 41, 124, 123, 125, 36]⟩ : ByteArray) 0)) else (some ((bt a0 0), 1, 0))) = some (r1, r2, r3) := by rw [if_neg (show ¬ (false = true) by decide)] at H; exact H
            clear H
            have H := H1
            clear H1
            by_cases c11 : (bt a0 0) = 92
            · rw [if_pos c11] at H
              have c11b0 : ((bt a0 0) == 92) = true := beq_iff_eq.mpr c11
              have c11b1 : ((bt a0 0) != 92) = false := bne_eq_false_iff_eq.mpr c11
              clear c11
              by_cases c12 : (a0.size : Int) < 2
              · rw [if_pos c12] at H
                have c12b0 : decide ((a0.size : Int) < 2) = true := decide_eq_true c12
                have c12b1 : decide (a0.size < 2) = true := decide_eq_true (by omega)
                clear c12
                simp only [Option.some.injEq, Prod.mk.injEq] at H
                obtain ⟨rfl, rfl, rfl⟩ := H
                go_wp2
                repeat (go_quiet (fail); try go_wp2)
                go_ret3
                exact ⟨by first | rfl | (simp; done) | (simp [*]; done), by repeat (first | exact Drawn0.refl _ | apply Drawn0.step)⟩
              · rw [if_neg c12] at H
                have c12b0 : decide ((a0.size : Int) < 2) = false := decide_eq_false c12
                have c12b1 : decide (a0.size < 2) = false := decide_eq_false (by omega)
                clear c12
                have H' := Aside0.mk H
                clear H
                go_wp2
                repeat (go_quiet (fail); try go_wp2)
                go_loopg [7] kj4 (fun kq v7 w' => ∃ (x7_2 : Int), v7 = .int .i64 x7_2 ∧ Aside0 (dragomanref04_Sign.l0 kq a0 (⟨#[92, 93, 91, 94, 45, 47, 46, 42, 43, 63, 40, 41, 124, 123, 125, 36]⟩ : ByteArray) x7_2 = some (r1, r2, r3)) ∧ Aside0 (kq ≤ kj4) ∧ Drawn0 w w')
                case atStart => exact ⟨(0), (by first | rfl | (simp; done) | (simp [*]; done)), H', ⟨Nat.le_refl _⟩, by repeat (first | exact Drawn0.refl _ | apply Drawn0.step)⟩
                case round =>
                  clear H'
                  try clear c1
                  try clear c2
                  try clear c2b0
                  try clear c2b1
                  try clear p2
                  try clear c3
                  try clear c3b0
                  try clear c3b1
                  try clear c4
                  try clear p4
                  try clear q4
                  try clear hx4
                  try clear qi4
                  try clear c6
                  try clear c6b0
                  try clear c6b1
                  try clear c7
                  try clear c7b0
                  try clear c7b1
                  try clear c8
                  try clear c8b0
                  try clear c8b1
                  try clear c9
                  try clear c9b0
                  try clear c9b1
                  try clear c10
                  try clear c11
                  try clear c11b0
                  try clear c11b1
                  try clear c12
                  try clear c12b0
                  try clear c12b1
                  try clear p2
                  try clear p4
                  try clear q4
                  obtain ⟨x7_2, rfl, HA, HK2, ⟨m2, rfl⟩⟩ := hrel
                  cases gk with
                  | zero => exact absurd HA.out (by simp [dragomanref04_Sign.l0])
                  | succ k2 =>
                    have H := HA.out
                    clear HA
                    simp only [dragomanref04_Sign.l0] at H
                    by_cases c13 : x7_2 < ((⟨#[92, 93, 91, 94, 45, 47, 46, 42, 43, 63, 40, 41, 124, 123, 125, 36]⟩ : ByteArray).size : Int)
                    · rw [if_pos c13] at H
                      have c13b0 : decide (x7_2 < ((⟨#[92, 93, 91, 94, 45, 47, 46, 42, 43, 63, 40, 41, 124, 123, 125, 36]⟩ : ByteArray).size : Int)) = true := decide_eq_true c13
                      try (have c13b0z : decide (x7_2 < 16) = true := c13b0)
                      clear c13
                      by_cases c14 : 1 < (a0.size : Int)
                      · rw [if_pos c14] at H
                        have c14b0 : decide (1 < (a0.size : Int)) = true := decide_eq_true c14
                        have c14b1 : decide (1 < a0.size) = true := decide_eq_true (by omega)
                        clear c14
                        by_cases c16 : 0 ≤ x7_2
                        · rw [if_pos c16] at H
                          have c16b0 : decide (0 ≤ x7_2) = true := decide_eq_true c16
                          clear c16
                          by_cases c18 : (bt a0 1) = (bt (⟨#[92, 93, 91, 94, 45, 47, 46, 42, 43, 63, 40, 41, 124, 123, 125, 36]⟩ : ByteArray) x7_2)
                          · rw [if_pos c18] at H
                            have c18b0 : ((bt a0 1) == (bt (⟨#[92, 93, 91, 94, 45, 47, 46, 42, 43, 63, 40, 41, 124, 123, 125, 36]⟩ : ByteArray) x7_2)) = true := beq_iff_eq.mpr c18
                            have c18b1 : ((bt a0 1) != (bt (⟨#[92, 93, 91, 94, 45, 47, 46, 42, 43, 63, 40, 41, 124, 123, 125, 36]⟩ : ByteArray) x7_2)) = false := bne_eq_false_iff_eq.mpr c18
                            clear c18
                            simp only [Option.some.injEq, Prod.mk.injEq] at H
                            obtain ⟨rfl, rfl, rfl⟩ := H
                            have p15 : 0 ≤ (1 : Int) := (by omega)
                            have q15 : 1 < a0.size := (by have : (1 : Int) < (a0.size : Int) := of_decide_eq_true (by first | (with_reducible assumption) | assumption); omega)
                            have hx15 : ∀ h : 1 < a0.size, ((a0[1]'h).toNat : Int) = bt a0 1 := bt_at a0 1
                            clear p15
                            have qi15 : (1 < (a0.size : Int)) = True := eq_true (of_decide_eq_true (by first | (with_reducible assumption) | assumption))
                            replace q15 := eq_true q15
                            have p17 : 0 ≤ (x7_2 : Int) := of_decide_eq_true (by first | (with_reducible assumption) | assumption)
                            have q17 : x7_2 < (16 : Int) := of_decide_eq_true (by first | (with_reducible assumption) | assumption)
                            have hx17 := bt_at (⟨#[92, 93, 91, 94, 45, 47, 46, 42, 43, 63, 40, 41, 124, 123, 125, 36]⟩ : ByteArray) x7_2
                            replace p17 := eq_true p17
                            replace q17 := eq_true q17
                            have p19 : 0 ≤ (1 : Int) := (by omega)
                            have q19 : 1 < a0.size := (by have : (1 : Int) < (a0.size : Int) := of_decide_eq_true (by first | (with_reducible assumption) | assumption); omega)
                            have hx19 : ∀ h : 1 < a0.size, ((a0[1]'h).toNat : Int) = bt a0 1 := bt_at a0 1
                            clear p19
                            have qi19 : (1 < (a0.size : Int)) = True := eq_true (of_decide_eq_true (by first | (with_reducible assumption) | assumption))
                            replace q19 := eq_true q19
                            go_wp2
                            repeat (go_quiet (fail); try go_wp2)
                            go_ret3
                            exact ⟨by first | rfl | (simp; done) | (simp [*]; done), by repeat (first | exact Drawn0.refl _ | apply Drawn0.step)⟩
                          · rw [if_neg c18] at H
                            have c18b0 : ((bt a0 1) == (bt (⟨#[92, 93, 91, 94, 45, 47, 46, 42, 43, 63, 40, 41, 124, 123, 125, 36]⟩ : ByteArray) x7_2)) = false := beq_eq_false_iff_ne.mpr c18
                            have c18b1 : ((bt a0 1) != (bt (⟨#[92, 93, 91, 94, 45, 47, 46, 42, 43, 63, 40, 41, 124, 123, 125, 36]⟩ : ByteArray) x7_2)) = true := bne_iff_ne.mpr c18
                            have H' := Aside0.mk H
                            clear H
                            have p15 : 0 ≤ (1 : Int) := (by omega)
                            have q15 : 1 < a0.size := (by have : (1 : Int) < (a0.size : Int) := of_decide_eq_true (by first | (with_reducible assumption) | assumption); omega)
                            have hx15 : ∀ h : 1 < a0.size, ((a0[1]'h).toNat : Int) = bt a0 1 := bt_at a0 1
                            clear p15
                            have qi15 : (1 < (a0.size : Int)) = True := eq_true (of_decide_eq_true (by first | (with_reducible assumption) | assumption))
                            replace q15 := eq_true q15
                            have p17 : 0 ≤ (x7_2 : Int) := of_decide_eq_true (by first | (with_reducible assumption) | assumption)
                            have q17 : x7_2 < (16 : Int) := of_decide_eq_true (by first | (with_reducible assumption) | assumption)
                            have hx17 := bt_at (⟨#[92, 93, 91, 94, 45, 47, 46, 42, 43, 63, 40, 41, 124, 123, 125, 36]⟩ : ByteArray) x7_2
                            replace p17 := eq_true p17
                            replace q17 := eq_true q17
                            go_wp2
                            repeat (go_quiet (fail); try go_wp2)
                            go_roundg k2
                            case measure => have := HJ4.out; have := HK2.out; omega
                            case rel => exact ⟨(wrap64 (x7_2 + 1)), (by first | rfl | (simp; done) | (simp [*]; done)), H', ⟨by have := HJ4.out; have := HK2.out; omega⟩, by repeat (first | exact Drawn0.refl _ | apply Drawn0.step)⟩
                        · rw [if_neg c16] at H
                          exact absurd H (by simp)
                      · rw [if_neg c14] at H
                        exact absurd H (by simp)
                    · rw [if_neg c13] at H
                      have c13b0 : decide (x7_2 < ((⟨#[92, 93, 91, 94, 45, 47, 46, 42, 43, 63, 40, 41, 124, 123, 125, 36]⟩ : ByteArray).size : Int)) = false := decide_eq_false c13
                      try (have c13b0z : decide (x7_2 < 16) = false := c13b0)
                      clear c13
                      have HC20 := Aside0.mk H
                      clear H
                      go_upto_region 16 with (fail)
                      repeat (go_quiet (fail); go_upto_region 16 with (fail))
                      go_cut [60] (fun v60 wc => ∃ (kq : Nat) (x60_19 : Bool), v60 = .bool x60_19 ∧ Aside0 (dragomanref04_Sign.j2 kq a0 x60_19 = some (r1, r2, r3)) ∧ Aside0 (kq ≤ k2) ∧ Drawn0 w wc)
                      case first =>
                        have H := HC20.out
                        clear HC20
                        by_cases c21 : (a0.size : Int) < 4
                        · rw [if_pos c21] at H
                          have c21b0 : decide ((a0.size : Int) < 4) = true := decide_eq_true c21
                          have c21b1 : decide (a0.size < 4) = true := decide_eq_true (by omega)
                          clear c21
                          (first | rw [c21b0] | (simp only [i64_w, i32_w]; rw [c21b0]) | skip)
                          have H' := Aside0.mk H
                          clear H
                          go_wp2
                          repeat (go_quiet (fail); try go_wp2)
                          go_meet
                          case rel => exact ⟨_, (true), (by first | rfl | (simp; done) | (simp [*]; done)), H', ⟨by have := HJ4.out; have := HK2.out; first | omega | exact Nat.le_refl _⟩, by repeat (first | exact Drawn0.refl _ | apply Drawn0.step)⟩
                        · rw [if_neg c21] at H
                          have c21b0 : decide ((a0.size : Int) < 4) = false := decide_eq_false c21
                          have c21b1 : decide (a0.size < 4) = false := decide_eq_false (by omega)
                          clear c21
                          (first | rw [c21b0] | (simp only [i64_w, i32_w]; rw [c21b0]) | skip)
                          by_cases c22 : 1 < (a0.size : Int)
                          · rw [if_pos c22] at H
                            have c22b0 : decide (1 < (a0.size : Int)) = true := decide_eq_true c22
                            have c22b1 : decide (1 < a0.size) = true := decide_eq_true (by omega)
                            clear c22
                            have H' := Aside0.mk H
                            clear H
                            have p23 : 0 ≤ (1 : Int) := (by omega)
                            have q23 : 1 < a0.size := (by have : (1 : Int) < (a0.size : Int) := of_decide_eq_true (by first | (with_reducible assumption) | assumption); omega)
                            have hx23 : ∀ h : 1 < a0.size, ((a0[1]'h).toNat : Int) = bt a0 1 := bt_at a0 1
                            clear p23
                            have qi23 : (1 < (a0.size : Int)) = True := eq_true (of_decide_eq_true (by first | (with_reducible assumption) | assumption))
                            replace q23 := eq_true q23
                            go_wp2
                            repeat (go_quiet (fail); try go_wp2)
                            go_meet
                            case rel => exact ⟨_, (((bt a0 1) != 120)), (by first | rfl | (simp; done) | (simp [*]; done)), H', ⟨by have := HJ4.out; have := HK2.out; first | omega | exact Nat.le_refl _⟩, by repeat (first | exact Drawn0.refl _ | apply Drawn0.step)⟩
                          · rw [if_neg c22] at H
                            exact absurd H (by simp)
                      case rest =>
                        clear HC20
                        try clear c1
                        try clear p1
                        try clear q1
                        try clear hx1
                        try clear qi1
                        try clear c2
                        try clear c2b0
                        try clear c2b1
                        try clear p2
                        try clear q2
                        try clear hx2
                        try clear qi2
                        try clear c3
                        try clear c3b0
                        try clear c3b1
                        try clear c4
                        try clear p4
                        try clear q4
                        try clear hx4
                        try clear qi4
                        try clear c6
                        try clear c6b0
                        try clear c6b1
                        try clear p6
                        try clear c7
                        try clear c7b0
                        try clear c7b1
                        try clear c8
                        try clear c8b0
                        try clear c8b1
                        try clear c9
                        try clear c9b0
                        try clear c9b1
                        try clear c10
                        try clear c11
                        try clear c11b0
                        try clear c11b1
                        try clear c12
                        try clear c12b0
                        try clear c12b1
                        try clear c13
                        try clear c13b0
                        try clear c14
                        try clear c14b0
                        try clear c14b1
                        try clear p15
                        try clear q15
                        try clear hx15
                        try clear qi15
                        try clear c16
                        try clear c16b0
                        try clear p17
                        try clear q17
                        try clear hx17
                        try clear c18
                        try clear c18b0
                        try clear c18b1
                        try clear p19
                        try clear q19
                        try clear hx19
                        try clear qi19
                        try clear c21
                        try clear c21b0
                        try clear c21b1
                        try clear c22
                        try clear c22b0
                        try clear c22b1
                        try clear p23
                        try clear q23
                        try clear hx23
                        try clear qi23
                        try clear p15
                        try clear p17
                        try clear p19
                        try clear p2
                        try clear p23
                        try clear p4
                        try clear q15
                        try clear q17
                        try clear q19
                        try clear q23
                        try clear q4
                        obtain ⟨kq, x60_19, rfl, HA, HJ19, ⟨mc19, rfl⟩⟩ := hcut
                        cases kq with
                        | zero => exact absurd HA.out (by simp [dragomanref04_Sign.j2])
                        | succ kj19 =>
                          have H := HA.out
                          clear HA
                          simp only [dragomanref04_Sign.j2] at H
                          by_cases c24 : x60_19 = true
                          · subst c24
                            have H1 : (some (0, 0, 2)) = some (r1, r2, r3) := by rw [if_pos rfl] at H; exact H
                            clear H
                            have H := H1
                            clear H1
                            simp only [Option.some.injEq, Prod.mk.injEq] at H
                            obtain ⟨rfl, rfl, rfl⟩ := H
                            go_wp2
                            repeat (go_quiet (fail); try go_wp2)
                            go_ret3
                            exact ⟨by first | rfl | (simp; done) | (simp [*]; done), by repeat (first | exact Drawn0.refl _ | apply Drawn0.step)⟩
                          · replace c24 := Bool.eq_false_iff.mpr c24
                            subst c24
                            have H1 : (if 2 < (a0.size : Int) then ((dragomanref01_Digit.f kj19 (bt a0 2)).bind fun t150 => (if 3 < (a0.size : Int) then ((dragomanref01_Digit.f kj19 (bt a0 3)).bind fun t151 => (if t150 < 0 then (some (0, 0, 2)) else (if t151 < 0 then (some (0, 0, 2)) else (some ((wrap64 ((wrap64 (16 * t150)) + t151)) % 256, 4, 0))))) else (none))) else (none)) = some (r1, r2, r3) := by rw [if_neg (show ¬ (false = true) by decide)] at H; exact H
                            clear H
                            have H := H1
                            clear H1
                            by_cases c25 : 2 < (a0.size : Int)
                            · rw [if_pos c25] at H
                              have c25b0 : decide (2 < (a0.size : Int)) = true := decide_eq_true c25
                              have c25b1 : decide (2 < a0.size) = true := decide_eq_true (by omega)
                              clear c25
                              replace H := Option.bind_eq_some_iff.mp H
                              obtain ⟨t150, A270, H⟩ := H
                              replace H : (if 3 < (a0.size : Int) then ((dragomanref01_Digit.f kj19 (bt a0 3)).bind fun t151 => (if t150 < 0 then (some (0, 0, 2)) else (if t151 < 0 then (some (0, 0, 2)) else (some ((wrap64 ((wrap64 (16 * t150)) + t151)) % 256, 4, 0))))) else (none)) = some (r1, r2, r3) := H
                              have A27 := Aside0.mk A270
                              clear A270
                              by_cases c28 : 3 < (a0.size : Int)
                              · rw [if_pos c28] at H
                                have c28b0 : decide (3 < (a0.size : Int)) = true := decide_eq_true c28
                                have c28b1 : decide (3 < a0.size) = true := decide_eq_true (by omega)
                                clear c28
                                replace H := Option.bind_eq_some_iff.mp H
                                obtain ⟨t151, A300, H⟩ := H
                                replace H : (if t150 < 0 then (some (0, 0, 2)) else (if t151 < 0 then (some (0, 0, 2)) else (some ((wrap64 ((wrap64 (16 * t150)) + t151)) % 256, 4, 0)))) = some (r1, r2, r3) := H
                                have A30 := Aside0.mk A300
                                clear A300
                                by_cases c31 : t150 < 0
                                · rw [if_pos c31] at H
                                  have c31b0 : decide (t150 < 0) = true := decide_eq_true c31
                                  clear c31
                                  simp only [Option.some.injEq, Prod.mk.injEq] at H
                                  obtain ⟨rfl, rfl, rfl⟩ := H
                                  have p26 : 0 ≤ (2 : Int) := (by omega)
                                  have q26 : 2 < a0.size := (by have : (2 : Int) < (a0.size : Int) := of_decide_eq_true (by first | (with_reducible assumption) | assumption); omega)
                                  have hx26 : ∀ h : 2 < a0.size, ((a0[2]'h).toNat : Int) = bt a0 2 := bt_at a0 2
                                  clear p26
                                  have qi26 : (2 < (a0.size : Int)) = True := eq_true (of_decide_eq_true (by first | (with_reducible assumption) | assumption))
                                  replace q26 := eq_true q26
                                  go_wp2_with (first | (go_at_call 55; (with_reducible refine (dragomanref01_Digit.calls kj19 (bt a0 2) t150 _ A27.out).mono ?_); rintro e w' ⟨rfl, ⟨nd, rfl⟩⟩; (try first | exact ⟨rfl, _, World.drewN_drewN _ _ _⟩ | exact ⟨rfl, _, Eq.trans (World.drewN_drewN _ _ _) (congrArg (World.drewN _) (Nat.add_assoc _ _ _))⟩); have p29 : 0 ≤ (3 : Int) := (by omega); have q29 : 3 < a0.size := (by have : (3 : Int) < (a0.size : Int) := of_decide_eq_true (by first | (with_reducible assumption) | assumption); omega); have hx29 : ∀ h : 3 < a0.size, ((a0[3]'h).toNat : Int) = bt a0 3 := bt_at a0 3; clear p29; have qi29 : (3 < (a0.size : Int)) = True := eq_true (of_decide_eq_true (by first | (with_reducible assumption) | assumption)); replace q29 := eq_true q29) | (go_at_call 55; (with_reducible refine (dragomanref01_Digit.calls kj19 (bt a0 3) t151 _ A30.out).mono ?_); rintro e w' ⟨rfl, ⟨nd, rfl⟩⟩; (try first | exact ⟨rfl, _, World.drewN_drewN _ _ _⟩ | exact ⟨rfl, _, Eq.trans (World.drewN_drewN _ _ _) (congrArg (World.drewN _) (Nat.add_assoc _ _ _))⟩)))
                                  repeat (go_quiet (first | (go_at_call 55; (with_reducible refine (dragomanref01_Digit.calls kj19 (bt a0 2) t150 _ A27.out).mono ?_); rintro e w' ⟨rfl, ⟨nd, rfl⟩⟩; (try first | exact ⟨rfl, _, World.drewN_drewN _ _ _⟩ | exact ⟨rfl, _, Eq.trans (World.drewN_drewN _ _ _) (congrArg (World.drewN _) (Nat.add_assoc _ _ _))⟩); have p29 : 0 ≤ (3 : Int) := (by omega); have q29 : 3 < a0.size := (by have : (3 : Int) < (a0.size : Int) := of_decide_eq_true (by first | (with_reducible assumption) | assumption); omega); have hx29 : ∀ h : 3 < a0.size, ((a0[3]'h).toNat : Int) = bt a0 3 := bt_at a0 3; clear p29; have qi29 : (3 < (a0.size : Int)) = True := eq_true (of_decide_eq_true (by first | (with_reducible assumption) | assumption)); replace q29 := eq_true q29) | (go_at_call 55; (with_reducible refine (dragomanref01_Digit.calls kj19 (bt a0 3) t151 _ A30.out).mono ?_); rintro e w' ⟨rfl, ⟨nd, rfl⟩⟩; (try first | exact ⟨rfl, _, World.drewN_drewN _ _ _⟩ | exact ⟨rfl, _, Eq.trans (World.drewN_drewN _ _ _) (congrArg (World.drewN _) (Nat.add_assoc _ _ _))⟩))); try go_wp2_with (first | (go_at_call 55; (with_reducible refine (dragomanref01_Digit.calls kj19 (bt a0 2) t150 _ A27.out).mono ?_); rintro e w' ⟨rfl, ⟨nd, rfl⟩⟩; (try first | exact ⟨rfl, _, World.drewN_drewN _ _ _⟩ | exact ⟨rfl, _, Eq.trans (World.drewN_drewN _ _ _) (congrArg (World.drewN _) (Nat.add_assoc _ _ _))⟩); have p29 : 0 ≤ (3 : Int) := (by omega); have q29 : 3 < a0.size := (by have : (3 : Int) < (a0.size : Int) := of_decide_eq_true (by first | (with_reducible assumption) | assumption); omega); have hx29 : ∀ h : 3 < a0.size, ((a0[3]'h).toNat : Int) = bt a0 3 := bt_at a0 3; clear p29; have qi29 : (3 < (a0.size : Int)) = True := eq_true (of_decide_eq_true (by first | (with_reducible assumption) | assumption)); replace q29 := eq_true q29) | (go_at_call 55; (with_reducible refine (dragomanref01_Digit.calls kj19 (bt a0 3) t151 _ A30.out).mono ?_); rintro e w' ⟨rfl, ⟨nd, rfl⟩⟩; (try first | exact ⟨rfl, _, World.drewN_drewN _ _ _⟩ | exact ⟨rfl, _, Eq.trans (World.drewN_drewN _ _ _) (congrArg (World.drewN _) (Nat.add_assoc _ _ _))⟩))))
                                  go_ret3
                                  exact ⟨by first | rfl | (simp; done) | (simp [*]; done), by repeat (first | exact Drawn0.refl _ | apply Drawn0.step)⟩
                                · rw [if_neg c31] at H
                                  have c31b0 : decide (t150 < 0) = false := decide_eq_false c31
                                  clear c31
                                  by_cases c32 : t151 < 0
                                  · rw [if_pos c32] at H
                                    have c32b0 : decide (t151 < 0) = true := decide_eq_true c32
                                    clear c32
                                    simp only [Option.some.injEq, Prod.mk.injEq] at H
                                    obtain ⟨rfl, rfl, rfl⟩ := H
                                    have p26 : 0 ≤ (2 : Int) := (by omega)
                                    have q26 : 2 < a0.size := (by have : (2 : Int) < (a0.size : Int) := of_decide_eq_true (by first | (with_reducible assumption) | assumption); omega)
                                    have hx26 : ∀ h : 2 < a0.size, ((a0[2]'h).toNat : Int) = bt a0 2 := bt_at a0 2
                                    clear p26
                                    have qi26 : (2 < (a0.size : Int)) = True := eq_true (of_decide_eq_true (by first | (with_reducible assumption) | assumption))
                                    replace q26 := eq_true q26
                                    go_wp2_with (first | (go_at_call 55; (with_reducible refine (dragomanref01_Digit.calls kj19 (bt a0 2) t150 _ A27.out).mono ?_); rintro e w' ⟨rfl, ⟨nd, rfl⟩⟩; (try first | exact ⟨rfl, _, World.drewN_drewN _ _ _⟩ | exact ⟨rfl, _, Eq.trans (World.drewN_drewN _ _ _) (congrArg (World.drewN _) (Nat.add_assoc _ _ _))⟩); have p29 : 0 ≤ (3 : Int) := (by omega); have q29 : 3 < a0.size := (by have : (3 : Int) < (a0.size : Int) := of_decide_eq_true (by first | (with_reducible assumption) | assumption); omega); have hx29 : ∀ h : 3 < a0.size, ((a0[3]'h).toNat : Int) = bt a0 3 := bt_at a0 3; clear p29; have qi29 : (3 < (a0.size : Int)) = True := eq_true (of_decide_eq_true (by first | (with_reducible assumption) | assumption)); replace q29 := eq_true q29) | (go_at_call 55; (with_reducible refine (dragomanref01_Digit.calls kj19 (bt a0 3) t151 _ A30.out).mono ?_); rintro e w' ⟨rfl, ⟨nd, rfl⟩⟩; (try first | exact ⟨rfl, _, World.drewN_drewN _ _ _⟩ | exact ⟨rfl, _, Eq.trans (World.drewN_drewN _ _ _) (congrArg (World.drewN _) (Nat.add_assoc _ _ _))⟩)))
                                    repeat (go_quiet (first | (go_at_call 55; (with_reducible refine (dragomanref01_Digit.calls kj19 (bt a0 2) t150 _ A27.out).mono ?_); rintro e w' ⟨rfl, ⟨nd, rfl⟩⟩; (try first | exact ⟨rfl, _, World.drewN_drewN _ _ _⟩ | exact ⟨rfl, _, Eq.trans (World.drewN_drewN _ _ _) (congrArg (World.drewN _) (Nat.add_assoc _ _ _))⟩); have p29 : 0 ≤ (3 : Int) := (by omega); have q29 : 3 < a0.size := (by have : (3 : Int) < (a0.size : Int) := of_decide_eq_true (by first | (with_reducible assumption) | assumption); omega); have hx29 : ∀ h : 3 < a0.size, ((a0[3]'h).toNat : Int) = bt a0 3 := bt_at a0 3; clear p29; have qi29 : (3 < (a0.size : Int)) = True := eq_true (of_decide_eq_true (by first | (with_reducible assumption) | assumption)); replace q29 := eq_true q29) | (go_at_call 55; (with_reducible refine (dragomanref01_Digit.calls kj19 (bt a0 3) t151 _ A30.out).mono ?_); rintro e w' ⟨rfl, ⟨nd, rfl⟩⟩; (try first | exact ⟨rfl, _, World.drewN_drewN _ _ _⟩ | exact ⟨rfl, _, Eq.trans (World.drewN_drewN _ _ _) (congrArg (World.drewN _) (Nat.add_assoc _ _ _))⟩))); try go_wp2_with (first | (go_at_call 55; (with_reducible refine (dragomanref01_Digit.calls kj19 (bt a0 2) t150 _ A27.out).mono ?_); rintro e w' ⟨rfl, ⟨nd, rfl⟩⟩; (try first | exact ⟨rfl, _, World.drewN_drewN _ _ _⟩ | exact ⟨rfl, _, Eq.trans (World.drewN_drewN _ _ _) (congrArg (World.drewN _) (Nat.add_assoc _ _ _))⟩); have p29 : 0 ≤ (3 : Int) := (by omega); have q29 : 3 < a0.size := (by have : (3 : Int) < (a0.size : Int) := of_decide_eq_true (by first | (with_reducible assumption) | assumption); omega); have hx29 : ∀ h : 3 < a0.size, ((a0[3]'h).toNat : Int) = bt a0 3 := bt_at a0 3; clear p29; have qi29 : (3 < (a0.size : Int)) = True := eq_true (of_decide_eq_true (by first | (with_reducible assumption) | assumption)); replace q29 := eq_true q29) | (go_at_call 55; (with_reducible refine (dragomanref01_Digit.calls kj19 (bt a0 3) t151 _ A30.out).mono ?_); rintro e w' ⟨rfl, ⟨nd, rfl⟩⟩; (try first | exact ⟨rfl, _, World.drewN_drewN _ _ _⟩ | exact ⟨rfl, _, Eq.trans (World.drewN_drewN _ _ _) (congrArg (World.drewN _) (Nat.add_assoc _ _ _))⟩))))
                                    go_ret3
                                    exact ⟨by first | rfl | (simp; done) | (simp [*]; done), by repeat (first | exact Drawn0.refl _ | apply Drawn0.step)⟩
                                  · rw [if_neg c32] at H
                                    have c32b0 : decide (t151 < 0) = false := decide_eq_false c32
                                    clear c32
                                    simp only [Option.some.injEq, Prod.mk.injEq] at H
                                    obtain ⟨rfl, rfl, rfl⟩ := H
                                    have p26 : 0 ≤ (2 : Int) := (by omega)
                                    have q26 : 2 < a0.size := (by have : (2 : Int) < (a0.size : Int) := of_decide_eq_true (by first | (with_reducible assumption) | assumption); omega)
                                    have hx26 : ∀ h : 2 < a0.size, ((a0[2]'h).toNat : Int) = bt a0 2 := bt_at a0 2
                                    clear p26
                                    have qi26 : (2 < (a0.size : Int)) = True := eq_true (of_decide_eq_true (by first | (with_reducible assumption) | assumption))
                                    replace q26 := eq_true q26
                                    go_wp2_with (first | (go_at_call 55; (with_reducible refine (dragomanref01_Digit.calls kj19 (bt a0 2) t150 _ A27.out).mono ?_); rintro e w' ⟨rfl, ⟨nd, rfl⟩⟩; (try first | exact ⟨rfl, _, World.drewN_drewN _ _ _⟩ | exact ⟨rfl, _, Eq.trans (World.drewN_drewN _ _ _) (congrArg (World.drewN _) (Nat.add_assoc _ _ _))⟩); have p29 : 0 ≤ (3 : Int) := (by omega); have q29 : 3 < a0.size := (by have : (3 : Int) < (a0.size : Int) := of_decide_eq_true (by first | (with_reducible assumption) | assumption); omega); have hx29 : ∀ h : 3 < a0.size, ((a0[3]'h).toNat : Int) = bt a0 3 := bt_at a0 3; clear p29; have qi29 : (3 < (a0.size : Int)) = True := eq_true (of_decide_eq_true (by first | (with_reducible assumption) | assumption)); replace q29 := eq_true q29) | (go_at_call 55; (with_reducible refine (dragomanref01_Digit.calls kj19 (bt a0 3) t151 _ A30.out).mono ?_); rintro e w' ⟨rfl, ⟨nd, rfl⟩⟩; (try first | exact ⟨rfl, _, World.drewN_drewN _ _ _⟩ | exact ⟨rfl, _, Eq.trans (World.drewN_drewN _ _ _) (congrArg (World.drewN _) (Nat.add_assoc _ _ _))⟩)))
                                    repeat (go_quiet (first | (go_at_call 55; (with_reducible refine (dragomanref01_Digit.calls kj19 (bt a0 2) t150 _ A27.out).mono ?_); rintro e w' ⟨rfl, ⟨nd, rfl⟩⟩; (try first | exact ⟨rfl, _, World.drewN_drewN _ _ _⟩ | exact ⟨rfl, _, Eq.trans (World.drewN_drewN _ _ _) (congrArg (World.drewN _) (Nat.add_assoc _ _ _))⟩); have p29 : 0 ≤ (3 : Int) := (by omega); have q29 : 3 < a0.size := (by have : (3 : Int) < (a0.size : Int) := of_decide_eq_true (by first | (with_reducible assumption) | assumption); omega); have hx29 : ∀ h : 3 < a0.size, ((a0[3]'h).toNat : Int) = bt a0 3 := bt_at a0 3; clear p29; have qi29 : (3 < (a0.size : Int)) = True := eq_true (of_decide_eq_true (by first | (with_reducible assumption) | assumption)); replace q29 := eq_true q29) | (go_at_call 55; (with_reducible refine (dragomanref01_Digit.calls kj19 (bt a0 3) t151 _ A30.out).mono ?_); rintro e w' ⟨rfl, ⟨nd, rfl⟩⟩; (try first | exact ⟨rfl, _, World.drewN_drewN _ _ _⟩ | exact ⟨rfl, _, Eq.trans (World.drewN_drewN _ _ _) (congrArg (World.drewN _) (Nat.add_assoc _ _ _))⟩))); try go_wp2_with (first | (go_at_call 55; (with_reducible refine (dragomanref01_Digit.calls kj19 (bt a0 2) t150 _ A27.out).mono ?_); rintro e w' ⟨rfl, ⟨nd, rfl⟩⟩; (try first | exact ⟨rfl, _, World.drewN_drewN _ _ _⟩ | exact ⟨rfl, _, Eq.trans (World.drewN_drewN _ _ _) (congrArg (World.drewN _) (Nat.add_assoc _ _ _))⟩); have p29 : 0 ≤ (3 : Int) := (by omega); have q29 : 3 < a0.size := (by have : (3 : Int) < (a0.size : Int) := of_decide_eq_true (by first | (with_reducible assumption) | assumption); omega); have hx29 : ∀ h : 3 < a0.size, ((a0[3]'h).toNat : Int) = bt a0 3 := bt_at a0 3; clear p29; have qi29 : (3 < (a0.size : Int)) = True := eq_true (of_decide_eq_true (by first | (with_reducible assumption) | assumption)); replace q29 := eq_true q29) | (go_at_call 55; (with_reducible refine (dragomanref01_Digit.calls kj19 (bt a0 3) t151 _ A30.out).mono ?_); rintro e w' ⟨rfl, ⟨nd, rfl⟩⟩; (try first | exact ⟨rfl, _, World.drewN_drewN _ _ _⟩ | exact ⟨rfl, _, Eq.trans (World.drewN_drewN _ _ _) (congrArg (World.drewN _) (Nat.add_assoc _ _ _))⟩))))
                                    go_ret3
                                    exact ⟨by first | rfl | (simp; done) | (simp [*]; done), by repeat (first | exact Drawn0.refl _ | apply Drawn0.step)⟩
                              · rw [if_neg c28] at H
                                exact absurd H (by simp)
                            · rw [if_neg c25] at H
                              exact absurd H (by simp)
            · rw [if_neg c11] at H
              have c11b0 : ((bt a0 0) == 92) = false := beq_eq_false_iff_ne.mpr c11
              have c11b1 : ((bt a0 0) != 92) = true := bne_iff_ne.mpr c11
              simp only [Option.some.injEq, Prod.mk.injEq] at H
              obtain ⟨rfl, rfl, rfl⟩ := H
              go_wp2
              repeat (go_quiet (fail); try go_wp2)
              go_ret3
              exact ⟨by first | rfl | (simp; done) | (simp [*]; done), by repeat (first | exact Drawn0.refl _ | apply Drawn0.step)⟩
    · rw [if_neg c3] at H
      exact absurd H (by simp)

/-- A state of type 68 at block g of W; what its slices lead to came in by w0. -/
def IsS68 (w0 W : World) (g : Nat) (f0 : ByteArray) (f1 : Int) (f2 : Int) (f3 : List (S55)) (f4 : Int) : Prop := ∃ A3 c3, W.heap[g]? = some (.cells #[.string f0, .int .i64 f1, .int .i64 f2, .slice A3 f3.length c3, .int .i64 f4] 68 (0, 0)) ∧ w0.heap.size ≤ g ∧ Kd.C k55 w0 A3 f3.length f3
theorem IsS68.grown {w0 W : World} {g : Nat} {f0 : ByteArray} {f1 : Int} {f2 : Int} {f3 : List (S55)} {f4 : Int} {W1 : World} {row : Option Nat} (h : IsS68 w0 W g f0 f1 f2 f3 f4) (hw : W.grownBy W1 row) (hne : some g ≠ row) : IsS68 w0 W1 g f0 f1 f2 f3 f4 := by
  obtain ⟨A3, c3, hb, hg, hr3⟩ := h
  exact ⟨A3, c3, blk_grown hb hw hne, hg, hr3⟩
theorem IsS68.kept {w0 W : World} {g : Nat} {f0 : ByteArray} {f1 : Int} {f2 : Int} {f3 : List (S55)} {f4 : Int} {W1 : World} {S : Nat → Prop} (h : IsS68 w0 W g f0 f1 f2 f3 f4) (hk : Kept W W1 S) (hne : ¬ S g) : IsS68 w0 W1 g f0 f1 f2 f3 f4 := by
  obtain ⟨A3, c3, hb, hg, hr3⟩ := h
  exact ⟨A3, c3, blk_kept hb hk hne, hg, hr3⟩
theorem IsS68.below {w0 W : World} {g : Nat} {f0 : ByteArray} {f1 : Int} {f2 : Int} {f3 : List (S55)} {f4 : Int} {W1 : World} (h : IsS68 w0 W g f0 f1 f2 f3 f4) (hw : Below W.heap.size W W1) : IsS68 w0 W1 g f0 f1 f2 f3 f4 := h.grown (grown_of_below hw none) (by simp)
theorem IsS68.alloc {w0 W : World} {g : Nat} {f0 : ByteArray} {f1 : Int} {f2 : Int} {f3 : List (S55)} {f4 : Int} (h : IsS68 w0 W g f0 f1 f2 f3 f4) (o : Obj) : IsS68 w0 (W.alloc o) g f0 f1 f2 f3 f4 := h.below (below_alloc (Below.refl _ _) o)
theorem IsS68.drewN {w0 W : World} {g : Nat} {f0 : ByteArray} {f1 : Int} {f2 : Int} {f3 : List (S55)} {f4 : Int} (h : IsS68 w0 W g f0 f1 f2 f3 f4) (m : Nat) : IsS68 w0 (W.drewN m) g f0 f1 f2 f3 f4 := h
theorem IsS68.drew {w0 W : World} {g : Nat} {f0 : ByteArray} {f1 : Int} {f2 : Int} {f3 : List (S55)} {f4 : Int} (h : IsS68 w0 W g f0 f1 f2 f3 f4) : IsS68 w0 W.drew g f0 f1 f2 f3 f4 := h
theorem IsS68.at_ {w0 W : World} {g : Nat} {f0 : ByteArray} {f1 : Int} {f2 : Int} {f3 : List (S55)} {f4 : Int} {w' : World} {m : Nat} (hq : W.drewN m = w') (h : IsS68 w0 W g f0 f1 f2 f3 f4) : IsS68 w0 w' g f0 f1 f2 f3 f4 := by subst hq; exact IsS68.drewN h m
theorem IsS68.apart {w0 W : World} {g : Nat} {f0 : ByteArray} {f1 : Int} {f2 : Int} {f3 : List (S55)} {f4 : Int} {α : Type} {d : Kd α} {e : Nat} {base : Nat} {ok : Nat → Prop} {v : Value} {xs : List α} (h : IsS68 w0 W g f0 f1 f2 f3 f4) (ho : d.R e W base ok v xs) (ht : ∀ q, q ∈ e :: d.E → q ≠ 68) : d.R e W base (fun k => ok k ∧ k ≠ g) v xs := by
  obtain ⟨A3, c3, hb, hg, hr3⟩ := h
  exact Kd.R_types ho hb ht
theorem IsS68.own_ne {w0 W : World} {g : Nat} {f0 : ByteArray} {f1 : Int} {f2 : Int} {f3 : List (S55)} {f4 : Int} {α : Type} {d : Kd α} {e : Nat} {base : Nat} {ok : Nat → Prop} {v : Value} {xs : List α} (h : IsS68 w0 W g f0 f1 f2 f3 f4) (ho : d.R e W base ok v xs) (ht : e ≠ 68) : some g ≠ v.ownBlock := by
  obtain ⟨A3, c3, hb, hg, hr3⟩ := h
  exact Kd.R_ne ho hb ht
theorem IsS68.lt {w0 W : World} {g : Nat} {f0 : ByteArray} {f1 : Int} {f2 : Int} {f3 : List (S55)} {f4 : Int} (h : IsS68 w0 W g f0 f1 f2 f3 f4) : g < W.heap.size := by
  obtain ⟨A3, c3, hb, hg, hr3⟩ := h
  exact blk_lt hb
theorem IsS68.far {w0 W : World} {g : Nat} {f0 : ByteArray} {f1 : Int} {f2 : Int} {f3 : List (S55)} {f4 : Int} {p : Addr} (h : IsS68 w0 W g f0 f1 f2 f3 f4) (hne : g ≠ p.block) (u : Value) : IsS68 w0 (W.setCell p u) g f0 f1 f2 f3 f4 := by
  obtain ⟨A3, c3, hb, hg, hr3⟩ := h
  exact ⟨A3, c3, blk_far hb hne u, hg, hr3⟩
theorem IsS68.new (w0 W : World) (A3 : Option Addr) (c3 : Nat) (f0 : ByteArray) (f1 : Int) (f2 : Int) (f3 : List (S55)) (f4 : Int) (hB : Below w0.heap.size w0 W) (hr3 : Kd.C k55 w0 A3 f3.length f3) : IsS68 w0 (W.alloc (.cells #[.string f0, .int .i64 f1, .int .i64 f2, .slice A3 f3.length c3, .int .i64 f4] 68)) W.heap.size f0 f1 f2 f3 f4 := ⟨A3, c3, by simpa using heap_alloc_new W _, hB.size, hr3⟩

/-! ### dragomanref05_parser_fail: function 42 -/
end Go.Proofs.Ythnfmpieoondaaa.QA
