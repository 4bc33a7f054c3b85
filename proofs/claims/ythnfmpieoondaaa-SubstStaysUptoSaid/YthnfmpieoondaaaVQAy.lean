/- Texts of this seat, put together: each part tells above it what it proves and on what conditions. -/
import Derived.Test.YthnfmpieoondaaaVQAx0
/- The Go functions of this part as Lean functions, each with a proof that a call of it comes to just what the Lean function does. Written by a program of the session's. Conditions: none but those in each theorem. -/
section
namespace Go.Proofs.Ythnfmpieoondaaa.QA
open Go.Proofs.Ythnfmpieoondaaa.G
open Go.RowKit Go.Proofs.YthnfmpieoondaaaW.PrintWords Go.Proofs.YthnfmpieoondaaaW.PrintLast Go.Proofs.YthnfmpieoondaaaW.PrintMore
attribute [local go_sem] max2_int min2_int max_two min_two max_three min_three max_four min_four   -- for this text's walks alone
attribute [local go_sem ↓] ix28_0 ix28_1 ia28_0 ia28_1
set_option linter.unusedVariables false
set_option linter.unusedSimpArgs false

theorem eqA28 (d : Nat) (w : World) (x0 y0 : Int) (x1 y1 : Int) :
    (Op.equalIn (d + 2) 28 (.agg #[.int .i64 x0, .int .i64 x1]) (.agg #[.int .i64 y0, .int .i64 y1])).run Try.prog w = .ok (x0 == y0 && (x1 == y1)) w := by
  exact eqA_28 d w x0 y0 x1 y1
end Go.Proofs.Ythnfmpieoondaaa.QA
end

/- The Go functions of this part as Lean functions, each with a proof that a call of it comes to just what the Lean function does. Written by a program of the session's. Conditions: none but those in each theorem. -/
section
namespace Go.Proofs.Ythnfmpieoondaaa.QA
open Go.Proofs.Ythnfmpieoondaaa.G
open Go.RowKit Go.Proofs.YthnfmpieoondaaaW.PrintWords Go.Proofs.YthnfmpieoondaaaW.PrintLast Go.Proofs.YthnfmpieoondaaaW.PrintMore
attribute [local go_sem] max2_int min2_int max_two min_two max_three min_three max_four min_four   -- for this text's walks alone
attribute [local go_sem ↓] ix28_0 ix28_1 ia28_0 ia28_1
set_option linter.unusedVariables false
set_option linter.unusedSimpArgs false

theorem eqA53 (d : Nat) (w : World) (x0 y0 : Int) (x1 y1 : Int) (x2 y2 : Int) (x3 y3 : Int) :
    (Op.equalIn (d + 2) 53 (.agg #[.int .u64 x0, .int .u64 x1, .int .u64 x2, .int .u64 x3]) (.agg #[.int .u64 y0, .int .u64 y1, .int .u64 y2, .int .u64 y3])).run Try.prog w = .ok (x0 == y0 && (x1 == y1 && (x2 == y2 && (x3 == y3)))) w := by
  exact eqA_53 d w x0 y0 x1 y1 x2 y2 x3 y3
end Go.Proofs.Ythnfmpieoondaaa.QA
end

/- The Go functions of this part as Lean functions, each with a proof that a call of it comes to just what the Lean function does. Written by a program of the session's. Conditions: none but those in each theorem. -/
section
namespace Go.Proofs.Ythnfmpieoondaaa.QA
open Go.Proofs.Ythnfmpieoondaaa.G
open Go.RowKit Go.Proofs.YthnfmpieoondaaaW.PrintWords Go.Proofs.YthnfmpieoondaaaW.PrintLast Go.Proofs.YthnfmpieoondaaaW.PrintMore
attribute [local go_sem] max2_int min2_int max_two min_two max_three min_three max_four min_four   -- for this text's walks alone
attribute [local go_sem ↓] ix28_0 ix28_1 ia28_0 ia28_1
set_option linter.unusedVariables false
set_option linter.unusedSimpArgs false

attribute [local go_sem high] eqA28 eqA53
/-! ### dragomanref07_Long: function 19 -/
def dragomanref07_Long.l0 : Nat → List ByteArray → Int → Int → Option (Int)
  | 0, _, _, _ => none
  | k + 1, x0, x3, x4 => if x4 < (x0.length : Int) then (if 0 ≤ x4 then (dragomanref07_Long.l0 k x0 (wrap64 (x3 + ((rdOf ByteArray.empty x0 x4).size : Int))) (wrap64 (x4 + 1))) else (none)) else (some x3)
def dragomanref07_Long.f (k : Nat) (l0 : List ByteArray) : Option (Int) := dragomanref07_Long.l0 k l0 (l0.length : Int) 0
set_option maxHeartbeats 8000000 in
set_option maxRecDepth 100000 in
theorem dragomanref07_Long.calls (k : Nat) (A0 : Option Addr) (c0 : Nat) (l0 : List ByteArray) (r : Int) (w : World) (hr0 : Kd.C Kd.string w A0 l0.length l0) (hc0 : l0.length ≤ c0) (h : dragomanref07_Long.f k l0 = some r) :
    Calls Try.prog 19 #[.slice A0 l0.length c0] w fun e w' => e = .returned (.int .i64 r) ∧ Drawn0 w w' := by
  have HR0 := Aside0.mk hr0
  have HC0 := Aside0.mk hc0
  clear hr0 hc0
  have H : (dragomanref07_Long.l0 k l0 (l0.length : Int) 0) = some r := h
  clear h
  have H' := Aside0.mk H
  clear H
  go_enter Try.func19, Try.ntmps19
  go_wp2
  go_loopg [3, 4] k (fun kq v3 v4 w' => ∃ (x3_1 : Int) (x4_1 : Int), v3 = .int .i64 x3_1 ∧ v4 = .int .i64 x4_1 ∧ Aside0 (dragomanref07_Long.l0 kq l0 x3_1 x4_1 = some r) ∧ Aside0 (kq ≤ k) ∧ Drawn0 w w')
  case atStart => exact ⟨((l0.length : Int)), (0), (by first | rfl | (simp; done) | (simp [*]; done)), (by first | rfl | (simp; done) | (simp [*]; done)), H', ⟨Nat.le_refl _⟩, by repeat (first | exact Drawn0.refl _ | apply Drawn0.step)⟩
  case round =>
    clear H'
    try clear c1
    obtain ⟨x3_1, x4_1, rfl, rfl, HA, HK1, ⟨m1, rfl⟩⟩ := hrel
    cases gk with
    | zero => exact absurd HA.out (by simp [dragomanref07_Long.l0])
    | succ k1 =>
      have H := HA.out
      clear HA
      simp only [dragomanref07_Long.l0] at H
      by_cases c2 : x4_1 < (l0.length : Int)
      · rw [if_pos c2] at H
        have c2b0 : decide (x4_1 < (l0.length : Int)) = true := decide_eq_true c2
        clear c2
        by_cases c3 : 0 ≤ x4_1
        · rw [if_pos c3] at H
          have c3b0 : decide (0 ≤ x4_1) = true := decide_eq_true c3
          clear c3
          have H' := Aside0.mk H
          clear H
          have p101 : 0 ≤ (x4_1 : Int) := of_decide_eq_true (by first | (with_reducible assumption) | assumption)
          have q101 : x4_1 < (l0.length : Int) := of_decide_eq_true (by first | (with_reducible assumption) | assumption)
          obtain ⟨ad101, e101, hx101_0⟩ := Kd.at_string HR0.out x4_1 p101 q101
          cases e101
          replace p101 := eq_true p101
          replace q101 := eq_true q101
          go_wp2
          go_roundg k1
          case measure => have := HK1.out; omega
          case rel => exact ⟨(wrap64 (x3_1 + ((rdOf ByteArray.empty l0 x4_1).size : Int))), (wrap64 (x4_1 + 1)), (by first | rfl | (simp; done) | (simp [*]; done)), (by first | rfl | (simp; done) | (simp [*]; done)), H', ⟨by have := HK1.out; omega⟩, by repeat (first | exact Drawn0.refl _ | apply Drawn0.step)⟩
        · rw [if_neg c3] at H
          exact absurd H (by simp)
      · rw [if_neg c2] at H
        have c2b0 : decide (x4_1 < (l0.length : Int)) = false := decide_eq_false c2
        clear c2
        obtain rfl := Option.some.inj H
        go_wp2
        go_ret
        exact ⟨by first | rfl | (simp; done) | (simp [*]; done), by repeat (first | exact Drawn0.refl _ | apply Drawn0.step)⟩

/-! ### dragomanref05_many: function 49 -/
mutual
def dragomanref05_many.j0 : Nat → Int → Bool → Option (Int)
  | 0, _, _ => none
  | k + 1, x0, x8 => if x8 = true then (some 2) else (if x0 ≥ 4 then (dragomanref05_many.j1 k x0 (decide (x0 ≤ 6))) else (dragomanref05_many.j1 k x0 false))
def dragomanref05_many.j1 : Nat → Int → Bool → Option (Int)
  | 0, _, _ => none
  | k + 1, x0, x14 => if x14 = true then (some 1) else (if x0 = 0 then (some 0) else (if x0 = 1 then (some 0) else (if x0 = 7 then (some 0) else (if x0 = 8 then (some 0) else (some (-1))))))
end
def dragomanref05_many.f (k : Nat) (a0 : Int) : Option (Int) := if a0 = 2 then (dragomanref05_many.j0 k a0 true) else (dragomanref05_many.j0 k a0 (a0 == 3))
theorem dragomanref05_many.mono_l : ∀ k, (∀ y0 y1, LeO (dragomanref05_many.j0 k y0 y1) (dragomanref05_many.j0 (k + 1) y0 y1)) ∧ (∀ y0 y1, LeO (dragomanref05_many.j1 k y0 y1) (dragomanref05_many.j1 (k + 1) y0 y1))
  | 0 => ⟨fun _ _ r h => by simp [dragomanref05_many.j0] at h, fun _ _ r h => by simp [dragomanref05_many.j1] at h⟩
  | k + 1 => by
    obtain ⟨ih0, ih1⟩ := dragomanref05_many.mono_l k
    refine ⟨?_, ?_⟩
    · intro y0 y1
      unfold dragomanref05_many.j0
      repeat' first
      | (with_reducible exact ih0 _ _)
      | (with_reducible exact ih1 _ _)
      | (with_reducible exact LeO.refl _)
      | (with_reducible exact LeO.none _)
      | (with_reducible refine LeO.ite ?_ ?_)
      | (with_reducible refine LeO.bind ?_ (fun _ => ?_))
      | exact ih0 _ _
      | exact ih1 _ _
      | exact LeO.none _
      | refine LeO.ite ?_ ?_
      | refine LeO.bind ?_ (fun _ => ?_)
    · intro y0 y1
      unfold dragomanref05_many.j1
      repeat' first
      | (with_reducible exact ih0 _ _)
      | (with_reducible exact ih1 _ _)
      | (with_reducible exact LeO.refl _)
      | (with_reducible exact LeO.none _)
      | (with_reducible refine LeO.ite ?_ ?_)
      | (with_reducible refine LeO.bind ?_ (fun _ => ?_))
      | exact ih0 _ _
      | exact ih1 _ _
      | exact LeO.none _
      | refine LeO.ite ?_ ?_
      | refine LeO.bind ?_ (fun _ => ?_)
theorem dragomanref05_many.mono : ∀ a0 k, LeO (dragomanref05_many.f k a0) (dragomanref05_many.f (k + 1) a0) := by
  intro a0 k
  obtain ⟨ih0, ih1⟩ := dragomanref05_many.mono_l k
  unfold dragomanref05_many.f
  repeat' first
      | (with_reducible exact ih0 _ _)
      | (with_reducible exact ih1 _ _)
      | (with_reducible exact LeO.refl _)
      | (with_reducible exact LeO.none _)
      | (with_reducible refine LeO.ite ?_ ?_)
      | (with_reducible refine LeO.bind ?_ (fun _ => ?_))
      | exact ih0 _ _
      | exact ih1 _ _
      | exact LeO.none _
      | refine LeO.ite ?_ ?_
      | refine LeO.bind ?_ (fun _ => ?_)
set_option maxHeartbeats 8000000 in
set_option maxRecDepth 100000 in
theorem dragomanref05_many.calls (k : Nat) (a0 : Int) (r : Int) (w : World) (h : dragomanref05_many.f k a0 = some r) :
    Calls Try.prog 49 #[.int .i64 a0] w fun e w' => e = .returned (.int .i64 r) ∧ Drawn0 w w' := by
  have H : (if a0 = 2 then (dragomanref05_many.j0 k a0 true) else (dragomanref05_many.j0 k a0 (a0 == 3))) = some r := h
  clear h
  have HC2 := Aside0.mk H
  clear H
  go_enter Try.func49, Try.ntmps49
  go_upto_region 1 with (fail)
  go_cut [8] (fun v8 wc => ∃ (kq : Nat) (x8_1 : Bool), v8 = .bool x8_1 ∧ Aside0 (dragomanref05_many.j0 kq a0 x8_1 = some r) ∧ Aside0 (kq ≤ k) ∧ Drawn0 w wc)
  case first =>
    have H := HC2.out
    clear HC2
    by_cases c3 : a0 = 2
    · rw [if_pos c3] at H
      have c3b0 : (a0 == 2) = true := beq_iff_eq.mpr c3
      have c3b1 : (a0 != 2) = false := bne_eq_false_iff_eq.mpr c3
      clear c3
      (first | rw [c3b0] | (simp only [i64_w, i32_w]; rw [c3b0]) | skip)
      have H' := Aside0.mk H
      clear H
      go_wp2
      go_meet
      case rel => exact ⟨_, (true), (by first | rfl | (simp; done) | (simp [*]; done)), H', ⟨by first | omega | exact Nat.le_refl _⟩, by repeat (first | exact Drawn0.refl _ | apply Drawn0.step)⟩
    · rw [if_neg c3] at H
      have c3b0 : (a0 == 2) = false := beq_eq_false_iff_ne.mpr c3
      have c3b1 : (a0 != 2) = true := bne_iff_ne.mpr c3
      (first | rw [c3b0] | (simp only [i64_w, i32_w]; rw [c3b0]) | skip)
      have H' := Aside0.mk H
      clear H
      go_wp2
      go_meet
      case rel => exact ⟨_, ((a0 == 3)), (by first | rfl | (simp; done) | (simp [*]; done)), H', ⟨by first | omega | exact Nat.le_refl _⟩, by repeat (first | exact Drawn0.refl _ | apply Drawn0.step)⟩
  case rest =>
    clear HC2
    try clear p2
    try clear c3
    try clear c3b0
    try clear c3b1
    obtain ⟨kq, x8_1, rfl, HA, HJ1, ⟨mc1, rfl⟩⟩ := hcut
    cases kq with
    | zero => exact absurd HA.out (by simp [dragomanref05_many.j0])
    | succ kj1 =>
      have H := HA.out
      clear HA
      simp only [dragomanref05_many.j0] at H
      by_cases c4 : x8_1 = true
      · subst c4
        have H1 : (some 2) = some r := by rw [if_pos rfl] at H; exact H
        clear H
        have H := H1
        clear H1
        obtain rfl := Option.some.inj H
        go_wp2
        go_ret
        exact ⟨by first | rfl | (simp; done) | (simp [*]; done), by repeat (first | exact Drawn0.refl _ | apply Drawn0.step)⟩
      · replace c4 := Bool.eq_false_iff.mpr c4
        subst c4
        have H1 : (if a0 ≥ 4 then (dragomanref05_many.j1 kj1 a0 (decide (a0 ≤ 6))) else (dragomanref05_many.j1 kj1 a0 false)) = some r := by rw [if_neg (show ¬ (false = true) by decide)] at H; exact H
        clear H
        have H := H1
        clear H1
        have HC5 := Aside0.mk H
        clear H
        go_upto_region 3 with (fail)
        go_cut [14] (fun v14 wc => ∃ (kq : Nat) (x14_4 : Bool), v14 = .bool x14_4 ∧ Aside0 (dragomanref05_many.j1 kq a0 x14_4 = some r) ∧ Aside0 (kq ≤ kj1) ∧ Drawn0 w wc)
        case first =>
          have H := HC5.out
          clear HC5
          by_cases c6 : a0 ≥ 4
          · rw [if_pos c6] at H
            have c6b0 : decide (4 ≤ a0) = true := decide_eq_true c6
            clear c6
            (first | rw [c6b0] | (simp only [i64_w, i32_w]; rw [c6b0]) | skip)
            have H' := Aside0.mk H
            clear H
            go_wp2
            go_meet
            case rel => exact ⟨_, (decide (a0 ≤ 6)), (by first | rfl | (simp; done) | (simp [*]; done)), H', ⟨by have := HJ1.out; first | omega | exact Nat.le_refl _⟩, by repeat (first | exact Drawn0.refl _ | apply Drawn0.step)⟩
          · rw [if_neg c6] at H
            have c6b0 : decide (4 ≤ a0) = false := decide_eq_false c6
            clear c6
            (first | rw [c6b0] | (simp only [i64_w, i32_w]; rw [c6b0]) | skip)
            have H' := Aside0.mk H
            clear H
            go_wp2
            go_meet
            case rel => exact ⟨_, (false), (by first | rfl | (simp; done) | (simp [*]; done)), H', ⟨by have := HJ1.out; first | omega | exact Nat.le_refl _⟩, by repeat (first | exact Drawn0.refl _ | apply Drawn0.step)⟩
        case rest =>
          clear HC5
          try clear c1
          try clear p2
          try clear c3
          try clear c3b0
          try clear c3b1
          try clear c4
          try clear c6
          try clear c6b0
          try clear p2
          obtain ⟨kq, x14_4, rfl, HA, HJ4, ⟨mc4, rfl⟩⟩ := hcut
          cases kq with
          | zero => exact absurd HA.out (by simp [dragomanref05_many.j1])
          | succ kj4 =>
            have H := HA.out
            clear HA
            simp only [dragomanref05_many.j1] at H
            by_cases c7 : x14_4 = true
            · subst c7
              have H1 : (some 1) = some r := by rw [if_pos rfl] at H; exact H
              clear H
              have H := H1
              clear H1
              obtain rfl := Option.some.inj H
              go_wp2
              go_ret
              exact ⟨by first | rfl | (simp; done) | (simp [*]; done), by repeat (first | exact Drawn0.refl _ | apply Drawn0.step)⟩
            · replace c7 := Bool.eq_false_iff.mpr c7
              subst c7
              have H1 : (if a0 = 0 then (some 0) else (if a0 = 1 then (some 0) else (if a0 = 7 then (some 0) else (if a0 = 8 then (some 0) else (some (-1)))))) = some r := by rw [if_neg (show ¬ (false = true) by decide)] at H; exact H
              clear H
              have H := H1
              clear H1
              by_cases c8 : a0 = 0
              · rw [if_pos c8] at H
                have c8b0 : (a0 == 0) = true := beq_iff_eq.mpr c8
                have c8b1 : (a0 != 0) = false := bne_eq_false_iff_eq.mpr c8
                clear c8
                obtain rfl := Option.some.inj H
                go_wp2
                go_ret
                exact ⟨by first | rfl | (simp; done) | (simp [*]; done), by repeat (first | exact Drawn0.refl _ | apply Drawn0.step)⟩
              · rw [if_neg c8] at H
                have c8b0 : (a0 == 0) = false := beq_eq_false_iff_ne.mpr c8
                have c8b1 : (a0 != 0) = true := bne_iff_ne.mpr c8
                by_cases c9 : a0 = 1
                · rw [if_pos c9] at H
                  have c9b0 : (a0 == 1) = true := beq_iff_eq.mpr c9
                  have c9b1 : (a0 != 1) = false := bne_eq_false_iff_eq.mpr c9
                  clear c9
                  obtain rfl := Option.some.inj H
                  go_wp2
                  go_ret
                  exact ⟨by first | rfl | (simp; done) | (simp [*]; done), by repeat (first | exact Drawn0.refl _ | apply Drawn0.step)⟩
                · rw [if_neg c9] at H
                  have c9b0 : (a0 == 1) = false := beq_eq_false_iff_ne.mpr c9
                  have c9b1 : (a0 != 1) = true := bne_iff_ne.mpr c9
                  by_cases c10 : a0 = 7
                  · rw [if_pos c10] at H
                    have c10b0 : (a0 == 7) = true := beq_iff_eq.mpr c10
                    have c10b1 : (a0 != 7) = false := bne_eq_false_iff_eq.mpr c10
                    clear c10
                    obtain rfl := Option.some.inj H
                    go_wp2
                    go_ret
                    exact ⟨by first | rfl | (simp; done) | (simp [*]; done), by repeat (first | exact Drawn0.refl _ | apply Drawn0.step)⟩
                  · rw [if_neg c10] at H
                    have c10b0 : (a0 == 7) = false := beq_eq_false_iff_ne.mpr c10
                    have c10b1 : (a0 != 7) = true := bne_iff_ne.mpr c10
                    by_cases c11 : a0 = 8
                    · rw [if_pos c11] at H
                      have c11b0 : (a0 == 8) = true := beq_iff_eq.mpr c11
                      have c11b1 : (a0 != 8) = false := bne_eq_false_iff_eq.mpr c11
                      clear c11
                      obtain rfl := Option.some.inj H
                      go_wp2
                      go_ret
                      exact ⟨by first | rfl | (simp; done) | (simp [*]; done), by repeat (first | exact Drawn0.refl _ | apply Drawn0.step)⟩
                    · rw [if_neg c11] at H
                      have c11b0 : (a0 == 8) = false := beq_eq_false_iff_ne.mpr c11
                      have c11b1 : (a0 != 8) = true := bne_iff_ne.mpr c11
                      obtain rfl := Option.some.inj H
                      go_wp2
                      go_ret
                      exact ⟨by first | rfl | (simp; done) | (simp [*]; done), by repeat (first | exact Drawn0.refl _ | apply Drawn0.step)⟩

/-! ### dragomanref05_begin: function 43 -/
mutual
def dragomanref05_begin.j0 : Nat → List (S55) → Int → Int → Bool → Int → Int → Int → Int → Int → Int → Int → Option (Int)
  | 0, _, _, _, _, _, _, _, _, _, _, _ => none
  | k + 1, x0, x1, x6, x29, x104000, x104001, x104002, x104003, x104004, x104005, x104006 => if x29 = true then (some (-1)) else (if x6 = 0 then (if (!(x104005 == 0) || (!(x104006 == 0))) = true then (some (-1)) else (some x1)) else (if x6 = 1 then (if (!(x104005 == (wrap64 (x1 - 1))) || (!(x104006 == 0))) = true then (some (-1)) else ((dragomanref05_begin.f k x0 (wrap64 (x1 - 1))).bind fun t105 => (some t105))) else ((dragomanref05_begin.f k x0 (wrap64 (x1 - 1))).bind fun t106 => (if t106 < 1 then (some (-1)) else (if (!(x104005 == (wrap64 (t106 - 1))) || (!(x104006 == (wrap64 (x1 - 1))))) = true then (some (-1)) else ((dragomanref05_begin.f k x0 (wrap64 (t106 - 1))).bind fun t107 => (some t107)))))))
def dragomanref05_begin.f : Nat → List (S55) → Int → Option (Int)
  | 0, _, _ => none
  | k + 1, l0, a1 => if a1 < 0 then (some (-1)) else (if 0 ≤ a1 then (if a1 < (l0.length : Int) then ((dragomanref05_many.f k ((rd_T55 l0 a1).f0)).bind fun t104 => (if t104 < 0 then (dragomanref05_begin.j0 k l0 a1 t104 true ((rd_T55 l0 a1).f0) ((rd_T55 l0 a1).f1.f0) ((rd_T55 l0 a1).f1.f1) ((rd_T55 l0 a1).f1.f2) ((rd_T55 l0 a1).f1.f3) ((rd_T55 l0 a1).f2.f0) ((rd_T55 l0 a1).f2.f1)) else (if ((rd_T55 l0 a1).f0) = 1 then (dragomanref05_begin.j0 k l0 a1 t104 false ((rd_T55 l0 a1).f0) ((rd_T55 l0 a1).f1.f0) ((rd_T55 l0 a1).f1.f1) ((rd_T55 l0 a1).f1.f2) ((rd_T55 l0 a1).f1.f3) ((rd_T55 l0 a1).f2.f0) ((rd_T55 l0 a1).f2.f1)) else (dragomanref05_begin.j0 k l0 a1 t104 (!(((rd_T55 l0 a1).f1.f0) == 0) || (!(((rd_T55 l0 a1).f1.f1) == 0) || (!(((rd_T55 l0 a1).f1.f2) == 0) || (!(((rd_T55 l0 a1).f1.f3) == 0))))) ((rd_T55 l0 a1).f0) ((rd_T55 l0 a1).f1.f0) ((rd_T55 l0 a1).f1.f1) ((rd_T55 l0 a1).f1.f2) ((rd_T55 l0 a1).f1.f3) ((rd_T55 l0 a1).f2.f0) ((rd_T55 l0 a1).f2.f1))))) else (none)) else (none))
end
theorem dragomanref05_begin.mono_l : ∀ k, (∀ y0 y1, LeO (dragomanref05_begin.f k y0 y1) (dragomanref05_begin.f (k + 1) y0 y1)) ∧ (∀ y0 y1 y2 y3 y4 y5 y6 y7 y8 y9 y10, LeO (dragomanref05_begin.j0 k y0 y1 y2 y3 y4 y5 y6 y7 y8 y9 y10) (dragomanref05_begin.j0 (k + 1) y0 y1 y2 y3 y4 y5 y6 y7 y8 y9 y10))
  | 0 => ⟨fun _ _ r h => by simp [dragomanref05_begin.f] at h, fun _ _ _ _ _ _ _ _ _ _ _ r h => by simp [dragomanref05_begin.j0] at h⟩
  | k + 1 => by
    obtain ⟨ih0, ih1⟩ := dragomanref05_begin.mono_l k
    refine ⟨?_, ?_⟩
    · intro y0 y1
      unfold dragomanref05_begin.f
      repeat' first
      | (with_reducible exact ih0 _ _)
      | (with_reducible exact ih1 _ _ _ _ _ _ _ _ _ _ _)
      | (with_reducible exact dragomanref05_many.mono _ _)
      | (with_reducible exact LeO.refl _)
      | (with_reducible exact LeO.none _)
      | (with_reducible refine LeO.ite ?_ ?_)
      | (with_reducible refine LeO.bind ?_ (fun _ => ?_))
      | exact ih0 _ _
      | exact ih1 _ _ _ _ _ _ _ _ _ _ _
      | exact dragomanref05_many.mono _ _
      | exact LeO.none _
      | refine LeO.ite ?_ ?_
      | refine LeO.bind ?_ (fun _ => ?_)
    · intro y0 y1 y2 y3 y4 y5 y6 y7 y8 y9 y10
      unfold dragomanref05_begin.j0
      repeat' first
      | (with_reducible exact ih0 _ _)
      | (with_reducible exact ih1 _ _ _ _ _ _ _ _ _ _ _)
      | (with_reducible exact dragomanref05_many.mono _ _)
      | (with_reducible exact LeO.refl _)
      | (with_reducible exact LeO.none _)
      | (with_reducible refine LeO.ite ?_ ?_)
      | (with_reducible refine LeO.bind ?_ (fun _ => ?_))
      | exact ih0 _ _
      | exact ih1 _ _ _ _ _ _ _ _ _ _ _
      | exact dragomanref05_many.mono _ _
      | exact LeO.none _
      | refine LeO.ite ?_ ?_
      | refine LeO.bind ?_ (fun _ => ?_)
theorem dragomanref05_begin.mono : ∀ a0 a1 k, LeO (dragomanref05_begin.f k a0 a1) (dragomanref05_begin.f (k + 1) a0 a1) := by
  intro a0 a1 k
  obtain ⟨ih0, ih1⟩ := dragomanref05_begin.mono_l k
  exact ih0 a0 a1
set_option maxHeartbeats 8000000 in
set_option maxRecDepth 100000 in
theorem dragomanref05_begin.calls (k : Nat) : ∀ (A0 : Option Addr) (c0 : Nat) (l0 : List (S55)) (a1 : Int) (r : Int) (w : World) (hr0 : Kd.C k55 w A0 l0.length l0) (hc0 : l0.length ≤ c0) (h : dragomanref05_begin.f k l0 a1 = some r),
    Calls Try.prog 43 #[.slice A0 l0.length c0, .int .i64 a1] w fun e w' => e = .returned (.int .i64 r) ∧ Below w.heap.size w w' := by
  induction k using Nat.strongRecOn with
  | _ k ih =>
  intro A0 c0 l0 a1 r w hr0 hc0 h
  cases k with
  | zero => exact absurd h (by simp [dragomanref05_begin.f])
  | succ k =>
  simp only [dragomanref05_begin.f] at h
  have hu55 := Try.underlying55
  have hu53 := Try.underlying53
  have hu28 := Try.underlying28
  have HR0 := Aside0.mk hr0
  have HC0 := Aside0.mk hc0
  clear hr0 hc0
  have HB := Aside0.mk (Below.refl w.heap.size w)
  have H : (if a1 < 0 then (some (-1)) else (if 0 ≤ a1 then (if a1 < (l0.length : Int) then ((dragomanref05_many.f k ((rd_T55 l0 a1).f0)).bind fun t104 => (if t104 < 0 then (dragomanref05_begin.j0 k l0 a1 t104 true ((rd_T55 l0 a1).f0) ((rd_T55 l0 a1).f1.f0) ((rd_T55 l0 a1).f1.f1) ((rd_T55 l0 a1).f1.f2) ((rd_T55 l0 a1).f1.f3) ((rd_T55 l0 a1).f2.f0) ((rd_T55 l0 a1).f2.f1)) else (if ((rd_T55 l0 a1).f0) = 1 then (dragomanref05_begin.j0 k l0 a1 t104 false ((rd_T55 l0 a1).f0) ((rd_T55 l0 a1).f1.f0) ((rd_T55 l0 a1).f1.f1) ((rd_T55 l0 a1).f1.f2) ((rd_T55 l0 a1).f1.f3) ((rd_T55 l0 a1).f2.f0) ((rd_T55 l0 a1).f2.f1)) else (dragomanref05_begin.j0 k l0 a1 t104 (!(((rd_T55 l0 a1).f1.f0) == 0) || (!(((rd_T55 l0 a1).f1.f1) == 0) || (!(((rd_T55 l0 a1).f1.f2) == 0) || (!(((rd_T55 l0 a1).f1.f3) == 0))))) ((rd_T55 l0 a1).f0) ((rd_T55 l0 a1).f1.f0) ((rd_T55 l0 a1).f1.f1) ((rd_T55 l0 a1).f1.f2) ((rd_T55 l0 a1).f1.f3) ((rd_T55 l0 a1).f2.f0) ((rd_T55 l0 a1).f2.f1))))) else (none)) else (none))) = some r := h
  clear h
  by_cases c3 : a1 < 0
  · rw [if_pos c3] at H
    have c3b0 : decide (a1 < 0) = true := decide_eq_true c3
    clear c3
    obtain rfl := Option.some.inj H
    go_enter Try.func43, Try.ntmps43
    go_wp2
    go_ret
    exact ⟨by first | rfl | (simp [errW_none, errW_some] <;> rfl) | (simp [*, errW_none, errW_some] <;> rfl), by repeat (first | (with_reducible first | exact HB.out | apply below_alloc | apply pw_below_drewN | apply below_drew1) | exact HB.out)⟩
  · rw [if_neg c3] at H
    have c3b0 : decide (a1 < 0) = false := decide_eq_false c3
    clear c3
    by_cases c4 : 0 ≤ a1
    · rw [if_pos c4] at H
      have c4b0 : decide (0 ≤ a1) = true := decide_eq_true c4
      clear c4
      by_cases c5 : a1 < (l0.length : Int)
      · rw [if_pos c5] at H
        have c5b0 : decide (a1 < (l0.length : Int)) = true := decide_eq_true c5
        clear c5
        replace H := Option.bind_eq_some_iff.mp H
        obtain ⟨t104, A60, H⟩ := H
        replace H : (if t104 < 0 then (dragomanref05_begin.j0 k l0 a1 t104 true ((rd_T55 l0 a1).f0) ((rd_T55 l0 a1).f1.f0) ((rd_T55 l0 a1).f1.f1) ((rd_T55 l0 a1).f1.f2) ((rd_T55 l0 a1).f1.f3) ((rd_T55 l0 a1).f2.f0) ((rd_T55 l0 a1).f2.f1)) else (if ((rd_T55 l0 a1).f0) = 1 then (dragomanref05_begin.j0 k l0 a1 t104 false ((rd_T55 l0 a1).f0) ((rd_T55 l0 a1).f1.f0) ((rd_T55 l0 a1).f1.f1) ((rd_T55 l0 a1).f1.f2) ((rd_T55 l0 a1).f1.f3) ((rd_T55 l0 a1).f2.f0) ((rd_T55 l0 a1).f2.f1)) else (dragomanref05_begin.j0 k l0 a1 t104 (!(((rd_T55 l0 a1).f1.f0) == 0) || (!(((rd_T55 l0 a1).f1.f1) == 0) || (!(((rd_T55 l0 a1).f1.f2) == 0) || (!(((rd_T55 l0 a1).f1.f3) == 0))))) ((rd_T55 l0 a1).f0) ((rd_T55 l0 a1).f1.f0) ((rd_T55 l0 a1).f1.f1) ((rd_T55 l0 a1).f1.f2) ((rd_T55 l0 a1).f1.f3) ((rd_T55 l0 a1).f2.f0) ((rd_T55 l0 a1).f2.f1)))) = some r := H
        have A6 := Aside0.mk A60
        clear A60
        have HC7 := Aside0.mk H
        clear H
        have p102 : 0 ≤ (a1 : Int) := of_decide_eq_true (by first | (with_reducible assumption) | assumption)
        have q102 : a1 < (l0.length : Int) := of_decide_eq_true (by first | (with_reducible assumption) | assumption)
        obtain ⟨ad102, e102, hx102_0, hx102_1, hx102_2, hx102_3, hx102_4, hx102_5, hx102_6⟩ := at_T55 HR0.out a1 p102 q102
        cases e102
        replace p102 := eq_true p102
        replace q102 := eq_true q102
        go_enter Try.func43, Try.ntmps43
        go_upto_region 5 with (first | ((with_reducible refine gate_dst (N := 5) rfl ?_); refine box_event ?hg (N := 5) ?hd (cs := #[.int .i64 0, .int .u64 0, .int .u64 0, .int .u64 0, .int .u64 0, .int .i64 0, .int .i64 0]) (t := 55) ?hr ?_; (case hd => rfl); (case hg => rfl); (case hr => first | (go_simp; done) | (go_simp; rfl)); intro gb103 hg w8 hbox hb; have n0_ := Aside0.mk (below_step (by repeat (first | (with_reducible first | exact HB.out | apply below_alloc | apply pw_below_drewN | apply below_drew1) | exact HB.out)) hb); have n1_ := Aside0.mk (hbox); have n2_ := Aside0.mk ((by rw [hg]; exact (below_size (by repeat (first | (with_reducible first | exact HB.out | apply below_alloc | apply pw_below_drewN | apply below_drew1) | exact HB.out))) : w.heap.size ≤ gb103)); have n3_ := Aside0.mk ((by rw [hg]; exact (below_size (by repeat (first | (with_reducible first | exact HB.out | apply below_alloc | apply pw_below_drewN | apply below_drew1) | exact HB.out))) : w.heap.size ≤ gb103)); clear HB; have HB := n0_; have BK103 := n1_; have GW103 := n2_; have GE103 := n3_; clear n0_ n1_ n2_ n3_; clear hb hbox hg; have hcz9_0 : w8.cell? ⟨gb103, 0, none⟩ = some (.int .i64 0) := (blk_cell BK103.out 0).trans rfl; have hcz9_1 : w8.cell? ⟨gb103, 1, none⟩ = some (.int .u64 0) := (blk_cell BK103.out 1).trans rfl; have hcz9_2 : w8.cell? ⟨gb103, 2, none⟩ = some (.int .u64 0) := (blk_cell BK103.out 2).trans rfl; have hcz9_3 : w8.cell? ⟨gb103, 3, none⟩ = some (.int .u64 0) := (blk_cell BK103.out 3).trans rfl; have hcz9_4 : w8.cell? ⟨gb103, 4, none⟩ = some (.int .u64 0) := (blk_cell BK103.out 4).trans rfl; have hcz9_5 : w8.cell? ⟨gb103, 5, none⟩ = some (.int .i64 0) := (blk_cell BK103.out 5).trans rfl; have hcz9_6 : w8.cell? ⟨gb103, 6, none⟩ = some (.int .i64 0) := (blk_cell BK103.out 6).trans rfl; have hfz9_0 := blk_frozen BK103.out 0; have hfz9_1 := blk_frozen BK103.out 1; have hfz9_2 := blk_frozen BK103.out 2; have hfz9_3 := blk_frozen BK103.out 3; have hfz9_4 := blk_frozen BK103.out 4; have hfz9_5 := blk_frozen BK103.out 5; have hfz9_6 := blk_frozen BK103.out 6) | ((with_reducible refine gate_callee (f := 49) rfl ?_); refine goesL_ (some 16) rfl rfl Try.func49 (by kernel_rfl) rfl #[.int .i64 ((rd_T55 l0 a1).f0)] rfl (by (try simp only [List.map_toArray, List.map_cons, List.map_nil]); first | done | rfl | (simp only [List.length_drop, List.length_take]; rfl)) ?_; (with_reducible refine (dragomanref05_many.calls k ((rd_T55 l0 a1).f0) t104 _ A6.out).mono ?_); rintro e w' ⟨rfl, ⟨nd, rfl⟩⟩; refine ⟨_, rfl, ?_⟩))
        (try simp only [Act.put, List.setIfInBounds_toArray, List.set_cons_zero, List.set_cons_succ])
        go_cut [29] (fun v29 wc => ∃ (kq : Nat) (x29_6 : Bool), v29 = .bool x29_6 ∧ Aside0 (dragomanref05_begin.j0 kq l0 a1 t104 x29_6 ((rd_T55 l0 a1).f0) ((rd_T55 l0 a1).f1.f0) ((rd_T55 l0 a1).f1.f1) ((rd_T55 l0 a1).f1.f2) ((rd_T55 l0 a1).f1.f3) ((rd_T55 l0 a1).f2.f0) ((rd_T55 l0 a1).f2.f1) = some r) ∧ Aside0 (kq ≤ k) ∧ Aside0 (wc.heap[gb103]? = some (.cells #[.int .i64 ((rd_T55 l0 a1).f0), .int .u64 ((rd_T55 l0 a1).f1.f0), .int .u64 ((rd_T55 l0 a1).f1.f1), .int .u64 ((rd_T55 l0 a1).f1.f2), .int .u64 ((rd_T55 l0 a1).f1.f3), .int .i64 ((rd_T55 l0 a1).f2.f0), .int .i64 ((rd_T55 l0 a1).f2.f1)] 55 (0, 0))) ∧ Aside0 (Below w.heap.size w wc))
        case first =>
          have H := HC7.out
          clear HC7
          by_cases c10 : t104 < 0
          · rw [if_pos c10] at H
            have c10b0 : decide (t104 < 0) = true := decide_eq_true c10
            clear c10
            (first | rw [c10b0] | (simp only [i64_w, i32_w]; rw [c10b0]) | skip)
            have H' := Aside0.mk H
            clear H
            go_wp2
            go_meet
            case rel => exact ⟨_, (true), (by first | rfl | (simp; done) | (simp [*]; done)), H', ⟨by first | omega | exact Nat.le_refl _⟩, ⟨by (with_reducible repeat (first | refine blk_drewN ?_ _ | refine blk_drew ?_ | refine blk_alloc ?_ _)); refine blk_put (cs := #[.int .i64 ((rd_T55 l0 a1).f0), .int .u64 ((rd_T55 l0 a1).f1.f0), .int .u64 ((rd_T55 l0 a1).f1.f1), .int .u64 ((rd_T55 l0 a1).f1.f2), .int .u64 ((rd_T55 l0 a1).f1.f3), .int .i64 ((rd_T55 l0 a1).f2.f0), .int .i64 0]) ?_ 6 _ rfl; (with_reducible repeat (first | refine blk_drewN ?_ _ | refine blk_drew ?_ | refine blk_alloc ?_ _)); refine blk_put (cs := #[.int .i64 ((rd_T55 l0 a1).f0), .int .u64 ((rd_T55 l0 a1).f1.f0), .int .u64 ((rd_T55 l0 a1).f1.f1), .int .u64 ((rd_T55 l0 a1).f1.f2), .int .u64 ((rd_T55 l0 a1).f1.f3), .int .i64 0, .int .i64 0]) ?_ 5 _ rfl; (with_reducible repeat (first | refine blk_drewN ?_ _ | refine blk_drew ?_ | refine blk_alloc ?_ _)); refine blk_put (cs := #[.int .i64 ((rd_T55 l0 a1).f0), .int .u64 ((rd_T55 l0 a1).f1.f0), .int .u64 ((rd_T55 l0 a1).f1.f1), .int .u64 ((rd_T55 l0 a1).f1.f2), .int .u64 0, .int .i64 0, .int .i64 0]) ?_ 4 _ rfl; (with_reducible repeat (first | refine blk_drewN ?_ _ | refine blk_drew ?_ | refine blk_alloc ?_ _)); refine blk_put (cs := #[.int .i64 ((rd_T55 l0 a1).f0), .int .u64 ((rd_T55 l0 a1).f1.f0), .int .u64 ((rd_T55 l0 a1).f1.f1), .int .u64 0, .int .u64 0, .int .i64 0, .int .i64 0]) ?_ 3 _ rfl; (with_reducible repeat (first | refine blk_drewN ?_ _ | refine blk_drew ?_ | refine blk_alloc ?_ _)); refine blk_put (cs := #[.int .i64 ((rd_T55 l0 a1).f0), .int .u64 ((rd_T55 l0 a1).f1.f0), .int .u64 0, .int .u64 0, .int .u64 0, .int .i64 0, .int .i64 0]) ?_ 2 _ rfl; (with_reducible repeat (first | refine blk_drewN ?_ _ | refine blk_drew ?_ | refine blk_alloc ?_ _)); refine blk_put (cs := #[.int .i64 ((rd_T55 l0 a1).f0), .int .u64 0, .int .u64 0, .int .u64 0, .int .u64 0, .int .i64 0, .int .i64 0]) ?_ 1 _ rfl; (with_reducible repeat (first | refine blk_drewN ?_ _ | refine blk_drew ?_ | refine blk_alloc ?_ _)); refine blk_put (cs := #[.int .i64 0, .int .u64 0, .int .u64 0, .int .u64 0, .int .u64 0, .int .i64 0, .int .i64 0]) ?_ 0 _ rfl; (with_reducible repeat (first | refine blk_drewN ?_ _ | refine blk_drew ?_ | refine blk_alloc ?_ _)); exact BK103.out⟩, ⟨by repeat (first | (with_reducible first | exact HB.out | apply below_alloc | apply pw_below_drewN | apply below_drew1 | refine below_set ?_ GE103.out) | exact HB.out)⟩⟩
          · rw [if_neg c10] at H
            have c10b0 : decide (t104 < 0) = false := decide_eq_false c10
            clear c10
            (first | rw [c10b0] | (simp only [i64_w, i32_w]; rw [c10b0]) | skip)
            by_cases c11 : ((rd_T55 l0 a1).f0) = 1
            · rw [if_pos c11] at H
              have c11b0 : (((rd_T55 l0 a1).f0) == 1) = true := beq_iff_eq.mpr c11
              have c11b1 : (((rd_T55 l0 a1).f0) != 1) = false := bne_eq_false_iff_eq.mpr c11
              clear c11
              have H' := Aside0.mk H
              clear H
              have hcz12_0 : w8.cell? ⟨gb103, 0, none⟩ = some (.int .i64 0) := (blk_cell BK103.out 0).trans rfl
              have hcz12_1 : w8.cell? ⟨gb103, 1, none⟩ = some (.int .u64 0) := (blk_cell BK103.out 1).trans rfl
              have hcz12_2 : w8.cell? ⟨gb103, 2, none⟩ = some (.int .u64 0) := (blk_cell BK103.out 2).trans rfl
              have hcz12_3 : w8.cell? ⟨gb103, 3, none⟩ = some (.int .u64 0) := (blk_cell BK103.out 3).trans rfl
              have hcz12_4 : w8.cell? ⟨gb103, 4, none⟩ = some (.int .u64 0) := (blk_cell BK103.out 4).trans rfl
              have hcz12_5 : w8.cell? ⟨gb103, 5, none⟩ = some (.int .i64 0) := (blk_cell BK103.out 5).trans rfl
              have hcz12_6 : w8.cell? ⟨gb103, 6, none⟩ = some (.int .i64 0) := (blk_cell BK103.out 6).trans rfl
              have hfz12_0 := blk_frozen BK103.out 0
              have hfz12_1 := blk_frozen BK103.out 1
              have hfz12_2 := blk_frozen BK103.out 2
              have hfz12_3 := blk_frozen BK103.out 3
              have hfz12_4 := blk_frozen BK103.out 4
              have hfz12_5 := blk_frozen BK103.out 5
              have hfz12_6 := blk_frozen BK103.out 6
              go_wp2
              go_meet
              case rel => exact ⟨_, (false), (by first | rfl | (simp; done) | (simp [*]; done)), H', ⟨by first | omega | exact Nat.le_refl _⟩, ⟨by (with_reducible repeat (first | refine blk_drewN ?_ _ | refine blk_drew ?_ | refine blk_alloc ?_ _)); refine blk_put (cs := #[.int .i64 ((rd_T55 l0 a1).f0), .int .u64 ((rd_T55 l0 a1).f1.f0), .int .u64 ((rd_T55 l0 a1).f1.f1), .int .u64 ((rd_T55 l0 a1).f1.f2), .int .u64 ((rd_T55 l0 a1).f1.f3), .int .i64 ((rd_T55 l0 a1).f2.f0), .int .i64 0]) ?_ 6 _ rfl; (with_reducible repeat (first | refine blk_drewN ?_ _ | refine blk_drew ?_ | refine blk_alloc ?_ _)); refine blk_put (cs := #[.int .i64 ((rd_T55 l0 a1).f0), .int .u64 ((rd_T55 l0 a1).f1.f0), .int .u64 ((rd_T55 l0 a1).f1.f1), .int .u64 ((rd_T55 l0 a1).f1.f2), .int .u64 ((rd_T55 l0 a1).f1.f3), .int .i64 0, .int .i64 0]) ?_ 5 _ rfl; (with_reducible repeat (first | refine blk_drewN ?_ _ | refine blk_drew ?_ | refine blk_alloc ?_ _)); refine blk_put (cs := #[.int .i64 ((rd_T55 l0 a1).f0), .int .u64 ((rd_T55 l0 a1).f1.f0), .int .u64 ((rd_T55 l0 a1).f1.f1), .int .u64 ((rd_T55 l0 a1).f1.f2), .int .u64 0, .int .i64 0, .int .i64 0]) ?_ 4 _ rfl; (with_reducible repeat (first | refine blk_drewN ?_ _ | refine blk_drew ?_ | refine blk_alloc ?_ _)); refine blk_put (cs := #[.int .i64 ((rd_T55 l0 a1).f0), .int .u64 ((rd_T55 l0 a1).f1.f0), .int .u64 ((rd_T55 l0 a1).f1.f1), .int .u64 0, .int .u64 0, .int .i64 0, .int .i64 0]) ?_ 3 _ rfl; (with_reducible repeat (first | refine blk_drewN ?_ _ | refine blk_drew ?_ | refine blk_alloc ?_ _)); refine blk_put (cs := #[.int .i64 ((rd_T55 l0 a1).f0), .int .u64 ((rd_T55 l0 a1).f1.f0), .int .u64 0, .int .u64 0, .int .u64 0, .int .i64 0, .int .i64 0]) ?_ 2 _ rfl; (with_reducible repeat (first | refine blk_drewN ?_ _ | refine blk_drew ?_ | refine blk_alloc ?_ _)); refine blk_put (cs := #[.int .i64 ((rd_T55 l0 a1).f0), .int .u64 0, .int .u64 0, .int .u64 0, .int .u64 0, .int .i64 0, .int .i64 0]) ?_ 1 _ rfl; (with_reducible repeat (first | refine blk_drewN ?_ _ | refine blk_drew ?_ | refine blk_alloc ?_ _)); refine blk_put (cs := #[.int .i64 0, .int .u64 0, .int .u64 0, .int .u64 0, .int .u64 0, .int .i64 0, .int .i64 0]) ?_ 0 _ rfl; (with_reducible repeat (first | refine blk_drewN ?_ _ | refine blk_drew ?_ | refine blk_alloc ?_ _)); exact BK103.out⟩, ⟨by repeat (first | (with_reducible first | exact HB.out | apply below_alloc | apply pw_below_drewN | apply below_drew1 | refine below_set ?_ GE103.out) | exact HB.out)⟩⟩
            · rw [if_neg c11] at H
              have c11b0 : (((rd_T55 l0 a1).f0) == 1) = false := beq_eq_false_iff_ne.mpr c11
              have c11b1 : (((rd_T55 l0 a1).f0) != 1) = true := bne_iff_ne.mpr c11
              have H' := Aside0.mk H
              clear H
              have hcz13_0 : w8.cell? ⟨gb103, 0, none⟩ = some (.int .i64 0) := (blk_cell BK103.out 0).trans rfl
              have hcz13_1 : w8.cell? ⟨gb103, 1, none⟩ = some (.int .u64 0) := (blk_cell BK103.out 1).trans rfl
              have hcz13_2 : w8.cell? ⟨gb103, 2, none⟩ = some (.int .u64 0) := (blk_cell BK103.out 2).trans rfl
              have hcz13_3 : w8.cell? ⟨gb103, 3, none⟩ = some (.int .u64 0) := (blk_cell BK103.out 3).trans rfl
              have hcz13_4 : w8.cell? ⟨gb103, 4, none⟩ = some (.int .u64 0) := (blk_cell BK103.out 4).trans rfl
              have hcz13_5 : w8.cell? ⟨gb103, 5, none⟩ = some (.int .i64 0) := (blk_cell BK103.out 5).trans rfl
              have hcz13_6 : w8.cell? ⟨gb103, 6, none⟩ = some (.int .i64 0) := (blk_cell BK103.out 6).trans rfl
              have hfz13_0 := blk_frozen BK103.out 0
              have hfz13_1 := blk_frozen BK103.out 1
              have hfz13_2 := blk_frozen BK103.out 2
              have hfz13_3 := blk_frozen BK103.out 3
              have hfz13_4 := blk_frozen BK103.out 4
              have hfz13_5 := blk_frozen BK103.out 5
              have hfz13_6 := blk_frozen BK103.out 6
              go_wp2
              go_meet
              case rel => exact ⟨_, ((!(((rd_T55 l0 a1).f1.f0) == 0) || (!(((rd_T55 l0 a1).f1.f1) == 0) || (!(((rd_T55 l0 a1).f1.f2) == 0) || (!(((rd_T55 l0 a1).f1.f3) == 0)))))), (by first | rfl | (simp; done) | (simp [*]; done)), H', ⟨by first | omega | exact Nat.le_refl _⟩, ⟨by (with_reducible repeat (first | refine blk_drewN ?_ _ | refine blk_drew ?_ | refine blk_alloc ?_ _)); refine blk_put (cs := #[.int .i64 ((rd_T55 l0 a1).f0), .int .u64 ((rd_T55 l0 a1).f1.f0), .int .u64 ((rd_T55 l0 a1).f1.f1), .int .u64 ((rd_T55 l0 a1).f1.f2), .int .u64 ((rd_T55 l0 a1).f1.f3), .int .i64 ((rd_T55 l0 a1).f2.f0), .int .i64 0]) ?_ 6 _ rfl; (with_reducible repeat (first | refine blk_drewN ?_ _ | refine blk_drew ?_ | refine blk_alloc ?_ _)); refine blk_put (cs := #[.int .i64 ((rd_T55 l0 a1).f0), .int .u64 ((rd_T55 l0 a1).f1.f0), .int .u64 ((rd_T55 l0 a1).f1.f1), .int .u64 ((rd_T55 l0 a1).f1.f2), .int .u64 ((rd_T55 l0 a1).f1.f3), .int .i64 0, .int .i64 0]) ?_ 5 _ rfl; (with_reducible repeat (first | refine blk_drewN ?_ _ | refine blk_drew ?_ | refine blk_alloc ?_ _)); refine blk_put (cs := #[.int .i64 ((rd_T55 l0 a1).f0), .int .u64 ((rd_T55 l0 a1).f1.f0), .int .u64 ((rd_T55 l0 a1).f1.f1), .int .u64 ((rd_T55 l0 a1).f1.f2), .int .u64 0, .int .i64 0, .int .i64 0]) ?_ 4 _ rfl; (with_reducible repeat (first | refine blk_drewN ?_ _ | refine blk_drew ?_ | refine blk_alloc ?_ _)); refine blk_put (cs := #[.int .i64 ((rd_T55 l0 a1).f0), .int .u64 ((rd_T55 l0 a1).f1.f0), .int .u64 ((rd_T55 l0 a1).f1.f1), .int .u64 0, .int .u64 0, .int .i64 0, .int .i64 0]) ?_ 3 _ rfl; (with_reducible repeat (first | refine blk_drewN ?_ _ | refine blk_drew ?_ | refine blk_alloc ?_ _)); refine blk_put (cs := #[.int .i64 ((rd_T55 l0 a1).f0), .int .u64 ((rd_T55 l0 a1).f1.f0), .int .u64 0, .int .u64 0, .int .u64 0, .int .i64 0, .int .i64 0]) ?_ 2 _ rfl; (with_reducible repeat (first | refine blk_drewN ?_ _ | refine blk_drew ?_ | refine blk_alloc ?_ _)); refine blk_put (cs := #[.int .i64 ((rd_T55 l0 a1).f0), .int .u64 0, .int .u64 0, .int .u64 0, .int .u64 0, .int .i64 0, .int .i64 0]) ?_ 1 _ rfl; (with_reducible repeat (first | refine blk_drewN ?_ _ | refine blk_drew ?_ | refine blk_alloc ?_ _)); refine blk_put (cs := #[.int .i64 0, .int .u64 0, .int .u64 0, .int .u64 0, .int .u64 0, .int .i64 0, .int .i64 0]) ?_ 0 _ rfl; (with_reducible repeat (first | refine blk_drewN ?_ _ | refine blk_drew ?_ | refine blk_alloc ?_ _)); exact BK103.out⟩, ⟨by repeat (first | (with_reducible first | exact HB.out | apply below_alloc | apply pw_below_drewN | apply below_drew1 | refine below_set ?_ GE103.out) | exact HB.out)⟩⟩
        case rest =>
          clear HC7
          try clear c1
          try clear p1
          try clear q1
          try clear hx1
          try clear p2
          try clear c3
          try clear c3b0
          try clear c4
          try clear c4b0
          try clear c5
          try clear c5b0
          try clear c10
          try clear c10b0
          try clear p10
          try clear q10
          try clear hx10
          try clear c11
          try clear c11b0
          try clear c11b1
          try clear hcz12_0
          try clear hcz12_1
          try clear hcz12_2
          try clear hcz12_3
          try clear hcz12_4
          try clear hcz12_5
          try clear hcz12_6
          try clear hcz13_0
          try clear hcz13_1
          try clear hcz13_2
          try clear hcz13_3
          try clear hcz13_4
          try clear hcz13_5
          try clear hcz13_6
          try clear hcz9_0
          try clear hcz9_1
          try clear hcz9_2
          try clear hcz9_3
          try clear hcz9_4
          try clear hcz9_5
          try clear hcz9_6
          try clear hfz12_0
          try clear hfz12_1
          try clear hfz12_2
          try clear hfz12_3
          try clear hfz12_4
          try clear hfz12_5
          try clear hfz12_6
          try clear hfz13_0
          try clear hfz13_1
          try clear hfz13_2
          try clear hfz13_3
          try clear hfz13_4
          try clear hfz13_5
          try clear hfz13_6
          try clear hfz9_0
          try clear hfz9_1
          try clear hfz9_2
          try clear hfz9_3
          try clear hfz9_4
          try clear hfz9_5
          try clear hfz9_6
          try clear hx102_0
          try clear hx102_1
          try clear hx102_2
          try clear hx102_3
          try clear hx102_4
          try clear hx102_5
          try clear hx102_6
          try clear p102
          try clear q102
          obtain ⟨kq, x29_6, rfl, HA, HJ6, BK103, HB⟩ := hcut
          cases kq with
          | zero => exact absurd HA.out (by simp [dragomanref05_begin.j0])
          | succ kj6 =>
            have H := HA.out
            clear HA
            simp only [dragomanref05_begin.j0] at H
            by_cases c14 : x29_6 = true
            · subst c14
              have H1 : (some (-1)) = some r := by rw [if_pos rfl] at H; exact H
              clear H
              have H := H1
              clear H1
              obtain rfl := Option.some.inj H
              go_wp2
              go_ret
              exact ⟨by first | rfl | (simp [errW_none, errW_some] <;> rfl) | (simp [*, errW_none, errW_some] <;> rfl), by repeat (first | (with_reducible first | exact HB.out | apply below_alloc | apply pw_below_drewN | apply below_drew1 | refine below_set ?_ GE103.out) | exact HB.out)⟩
            · replace c14 := Bool.eq_false_iff.mpr c14
              subst c14
              have H1 : (if t104 = 0 then (if (!(((rd_T55 l0 a1).f2.f0) == 0) || (!(((rd_T55 l0 a1).f2.f1) == 0))) = true then (some (-1)) else (some a1)) else (if t104 = 1 then (if (!(((rd_T55 l0 a1).f2.f0) == (wrap64 (a1 - 1))) || (!(((rd_T55 l0 a1).f2.f1) == 0))) = true then (some (-1)) else ((dragomanref05_begin.f kj6 l0 (wrap64 (a1 - 1))).bind fun t105 => (some t105))) else ((dragomanref05_begin.f kj6 l0 (wrap64 (a1 - 1))).bind fun t106 => (if t106 < 1 then (some (-1)) else (if (!(((rd_T55 l0 a1).f2.f0) == (wrap64 (t106 - 1))) || (!(((rd_T55 l0 a1).f2.f1) == (wrap64 (a1 - 1))))) = true then (some (-1)) else ((dragomanref05_begin.f kj6 l0 (wrap64 (t106 - 1))).bind fun t107 => (some t107))))))) = some r := by rw [if_neg (show ¬ (false = true) by decide)] at H; exact H
              clear H
              have H := H1
              clear H1
              by_cases c15 : t104 = 0
              · rw [if_pos c15] at H
                have c15b0 : (t104 == 0) = true := beq_iff_eq.mpr c15
                have c15b1 : (t104 != 0) = false := bne_eq_false_iff_eq.mpr c15
                clear c15
                by_cases c16 : (!(((rd_T55 l0 a1).f2.f0) == 0) || (!(((rd_T55 l0 a1).f2.f1) == 0))) = true
                · rw [if_pos c16] at H
                  have c16b0 : (!(((rd_T55 l0 a1).f2.f0) == 0) || (!(((rd_T55 l0 a1).f2.f1) == 0))) = true := c16
                  clear c16
                  obtain rfl := Option.some.inj H
                  have hcz17_0 : wc.cell? ⟨gb103, 0, none⟩ = some (.int .i64 ((rd_T55 l0 a1).f0)) := (blk_cell BK103.out 0).trans rfl
                  have hcz17_1 : wc.cell? ⟨gb103, 1, none⟩ = some (.int .u64 ((rd_T55 l0 a1).f1.f0)) := (blk_cell BK103.out 1).trans rfl
                  have hcz17_2 : wc.cell? ⟨gb103, 2, none⟩ = some (.int .u64 ((rd_T55 l0 a1).f1.f1)) := (blk_cell BK103.out 2).trans rfl
                  have hcz17_3 : wc.cell? ⟨gb103, 3, none⟩ = some (.int .u64 ((rd_T55 l0 a1).f1.f2)) := (blk_cell BK103.out 3).trans rfl
                  have hcz17_4 : wc.cell? ⟨gb103, 4, none⟩ = some (.int .u64 ((rd_T55 l0 a1).f1.f3)) := (blk_cell BK103.out 4).trans rfl
                  have hcz17_5 : wc.cell? ⟨gb103, 5, none⟩ = some (.int .i64 ((rd_T55 l0 a1).f2.f0)) := (blk_cell BK103.out 5).trans rfl
                  have hcz17_6 : wc.cell? ⟨gb103, 6, none⟩ = some (.int .i64 ((rd_T55 l0 a1).f2.f1)) := (blk_cell BK103.out 6).trans rfl
                  have hfz17_0 := blk_frozen BK103.out 0
                  have hfz17_1 := blk_frozen BK103.out 1
                  have hfz17_2 := blk_frozen BK103.out 2
                  have hfz17_3 := blk_frozen BK103.out 3
                  have hfz17_4 := blk_frozen BK103.out 4
                  have hfz17_5 := blk_frozen BK103.out 5
                  have hfz17_6 := blk_frozen BK103.out 6
                  go_wp2
                  go_ret
                  exact ⟨by first | rfl | (simp [errW_none, errW_some] <;> rfl) | (simp [*, errW_none, errW_some] <;> rfl), by repeat (first | (with_reducible first | exact HB.out | apply below_alloc | apply pw_below_drewN | apply below_drew1 | refine below_set ?_ GE103.out) | exact HB.out)⟩
                · rw [if_neg c16] at H
                  have c16b0 : (!(((rd_T55 l0 a1).f2.f0) == 0) || (!(((rd_T55 l0 a1).f2.f1) == 0))) = false := by simpa using c16
                  clear c16
                  obtain rfl := Option.some.inj H
                  have hcz18_0 : wc.cell? ⟨gb103, 0, none⟩ = some (.int .i64 ((rd_T55 l0 a1).f0)) := (blk_cell BK103.out 0).trans rfl
                  have hcz18_1 : wc.cell? ⟨gb103, 1, none⟩ = some (.int .u64 ((rd_T55 l0 a1).f1.f0)) := (blk_cell BK103.out 1).trans rfl
                  have hcz18_2 : wc.cell? ⟨gb103, 2, none⟩ = some (.int .u64 ((rd_T55 l0 a1).f1.f1)) := (blk_cell BK103.out 2).trans rfl
                  have hcz18_3 : wc.cell? ⟨gb103, 3, none⟩ = some (.int .u64 ((rd_T55 l0 a1).f1.f2)) := (blk_cell BK103.out 3).trans rfl
                  have hcz18_4 : wc.cell? ⟨gb103, 4, none⟩ = some (.int .u64 ((rd_T55 l0 a1).f1.f3)) := (blk_cell BK103.out 4).trans rfl
                  have hcz18_5 : wc.cell? ⟨gb103, 5, none⟩ = some (.int .i64 ((rd_T55 l0 a1).f2.f0)) := (blk_cell BK103.out 5).trans rfl
                  have hcz18_6 : wc.cell? ⟨gb103, 6, none⟩ = some (.int .i64 ((rd_T55 l0 a1).f2.f1)) := (blk_cell BK103.out 6).trans rfl
                  have hfz18_0 := blk_frozen BK103.out 0
                  have hfz18_1 := blk_frozen BK103.out 1
                  have hfz18_2 := blk_frozen BK103.out 2
                  have hfz18_3 := blk_frozen BK103.out 3
                  have hfz18_4 := blk_frozen BK103.out 4
                  have hfz18_5 := blk_frozen BK103.out 5
                  have hfz18_6 := blk_frozen BK103.out 6
                  go_wp2
                  go_ret
                  exact ⟨by first | rfl | (simp [errW_none, errW_some] <;> rfl) | (simp [*, errW_none, errW_some] <;> rfl), by repeat (first | (with_reducible first | exact HB.out | apply below_alloc | apply pw_below_drewN | apply below_drew1 | refine below_set ?_ GE103.out) | exact HB.out)⟩
              · rw [if_neg c15] at H
                have c15b0 : (t104 == 0) = false := beq_eq_false_iff_ne.mpr c15
                have c15b1 : (t104 != 0) = true := bne_iff_ne.mpr c15
                by_cases c19 : t104 = 1
                · rw [if_pos c19] at H
                  have c19b0 : (t104 == 1) = true := beq_iff_eq.mpr c19
                  have c19b1 : (t104 != 1) = false := bne_eq_false_iff_eq.mpr c19
                  clear c19
                  by_cases c20 : (!(((rd_T55 l0 a1).f2.f0) == (wrap64 (a1 - 1))) || (!(((rd_T55 l0 a1).f2.f1) == 0))) = true
                  · rw [if_pos c20] at H
                    have c20b0 : (!(((rd_T55 l0 a1).f2.f0) == (wrap64 (a1 - 1))) || (!(((rd_T55 l0 a1).f2.f1) == 0))) = true := c20
                    try (have c20b0n := c20b0; rw [wrapFit (by omega) (by omega)] at c20b0n)
                    clear c20
                    obtain rfl := Option.some.inj H
                    have hcz21_0 : wc.cell? ⟨gb103, 0, none⟩ = some (.int .i64 ((rd_T55 l0 a1).f0)) := (blk_cell BK103.out 0).trans rfl
                    have hcz21_1 : wc.cell? ⟨gb103, 1, none⟩ = some (.int .u64 ((rd_T55 l0 a1).f1.f0)) := (blk_cell BK103.out 1).trans rfl
                    have hcz21_2 : wc.cell? ⟨gb103, 2, none⟩ = some (.int .u64 ((rd_T55 l0 a1).f1.f1)) := (blk_cell BK103.out 2).trans rfl
                    have hcz21_3 : wc.cell? ⟨gb103, 3, none⟩ = some (.int .u64 ((rd_T55 l0 a1).f1.f2)) := (blk_cell BK103.out 3).trans rfl
                    have hcz21_4 : wc.cell? ⟨gb103, 4, none⟩ = some (.int .u64 ((rd_T55 l0 a1).f1.f3)) := (blk_cell BK103.out 4).trans rfl
                    have hcz21_5 : wc.cell? ⟨gb103, 5, none⟩ = some (.int .i64 ((rd_T55 l0 a1).f2.f0)) := (blk_cell BK103.out 5).trans rfl
                    have hcz21_6 : wc.cell? ⟨gb103, 6, none⟩ = some (.int .i64 ((rd_T55 l0 a1).f2.f1)) := (blk_cell BK103.out 6).trans rfl
                    have hfz21_0 := blk_frozen BK103.out 0
                    have hfz21_1 := blk_frozen BK103.out 1
                    have hfz21_2 := blk_frozen BK103.out 2
                    have hfz21_3 := blk_frozen BK103.out 3
                    have hfz21_4 := blk_frozen BK103.out 4
                    have hfz21_5 := blk_frozen BK103.out 5
                    have hfz21_6 := blk_frozen BK103.out 6
                    go_wp2
                    go_ret
                    exact ⟨by first | rfl | (simp [errW_none, errW_some] <;> rfl) | (simp [*, errW_none, errW_some] <;> rfl), by repeat (first | (with_reducible first | exact HB.out | apply below_alloc | apply pw_below_drewN | apply below_drew1 | refine below_set ?_ GE103.out) | exact HB.out)⟩
                  · rw [if_neg c20] at H
                    have c20b0 : (!(((rd_T55 l0 a1).f2.f0) == (wrap64 (a1 - 1))) || (!(((rd_T55 l0 a1).f2.f1) == 0))) = false := by simpa using c20
                    try (have c20b0n := c20b0; rw [wrapFit (by omega) (by omega)] at c20b0n)
                    clear c20
                    replace H := Option.bind_eq_some_iff.mp H
                    obtain ⟨t105, A220, H⟩ := H
                    replace H : (some t105) = some r := H
                    have A22 := Aside0.mk A220
                    clear A220
                    obtain rfl := Option.some.inj H
                    have hcz23_0 : wc.cell? ⟨gb103, 0, none⟩ = some (.int .i64 ((rd_T55 l0 a1).f0)) := (blk_cell BK103.out 0).trans rfl
                    have hcz23_1 : wc.cell? ⟨gb103, 1, none⟩ = some (.int .u64 ((rd_T55 l0 a1).f1.f0)) := (blk_cell BK103.out 1).trans rfl
                    have hcz23_2 : wc.cell? ⟨gb103, 2, none⟩ = some (.int .u64 ((rd_T55 l0 a1).f1.f1)) := (blk_cell BK103.out 2).trans rfl
                    have hcz23_3 : wc.cell? ⟨gb103, 3, none⟩ = some (.int .u64 ((rd_T55 l0 a1).f1.f2)) := (blk_cell BK103.out 3).trans rfl
                    have hcz23_4 : wc.cell? ⟨gb103, 4, none⟩ = some (.int .u64 ((rd_T55 l0 a1).f1.f3)) := (blk_cell BK103.out 4).trans rfl
                    have hcz23_5 : wc.cell? ⟨gb103, 5, none⟩ = some (.int .i64 ((rd_T55 l0 a1).f2.f0)) := (blk_cell BK103.out 5).trans rfl
                    have hcz23_6 : wc.cell? ⟨gb103, 6, none⟩ = some (.int .i64 ((rd_T55 l0 a1).f2.f1)) := (blk_cell BK103.out 6).trans rfl
                    have hfz23_0 := blk_frozen BK103.out 0
                    have hfz23_1 := blk_frozen BK103.out 1
                    have hfz23_2 := blk_frozen BK103.out 2
                    have hfz23_3 := blk_frozen BK103.out 3
                    have hfz23_4 := blk_frozen BK103.out 4
                    have hfz23_5 := blk_frozen BK103.out 5
                    have hfz23_6 := blk_frozen BK103.out 6
                    go_wp2_with (first | ((with_reducible refine gate_callee (f := 43) rfl ?_); refine goesL_ (some 48) rfl rfl Try.func43 (by kernel_rfl) rfl #[.slice (some ad102) l0.length c0, .int .i64 (wrap64 (a1 - 1))] rfl (by (try simp only [List.map_toArray, List.map_cons, List.map_nil]); first | done | rfl | (simp only [List.length_drop, List.length_take]; rfl)) ?_; (with_reducible refine (ih kj6 (by have := HJ6.out; omega) _ _ l0 (wrap64 (a1 - 1)) t105 _ ?side1 ?side2 A22.out).mono ?_); (case side1 => repeat (first | exact (Kd.C_below HR0.out HB.out) | (with_reducible refine Kd.C_alloc ?_ _) | (with_reducible refine Kd.C_drewN ?_ _) | (with_reducible refine Kd.C_drew ?_))); (case side2 => exact HC0.out); rintro e w24 ⟨rfl, hb⟩; refine ⟨_, rfl, ?_⟩; have n0_ := Aside0.mk (blk_below (g := gb103) (o := .cells #[.int .i64 ((rd_T55 l0 a1).f0), .int .u64 ((rd_T55 l0 a1).f1.f0), .int .u64 ((rd_T55 l0 a1).f1.f1), .int .u64 ((rd_T55 l0 a1).f1.f2), .int .u64 ((rd_T55 l0 a1).f1.f3), .int .i64 ((rd_T55 l0 a1).f2.f0), .int .i64 ((rd_T55 l0 a1).f2.f1)] 55 (0, 0)) (by (with_reducible repeat (first | refine blk_drewN ?_ _ | refine blk_drew ?_ | refine blk_alloc ?_ _)); exact BK103.out) hb); have n1_ := Aside0.mk (below_step (by repeat (first | (with_reducible first | exact HB.out | apply below_alloc | apply pw_below_drewN | apply below_drew1 | refine below_set ?_ GE103.out) | exact HB.out)) hb); clear BK103; clear HB; have BK103 := n0_; have HB := n1_; clear n0_ n1_; (try clear hb); (try clear hb2); (try clear hk); (try clear hi)))
                    go_ret
                    exact ⟨by first | rfl | (simp [errW_none, errW_some] <;> rfl) | (simp [*, errW_none, errW_some] <;> rfl), by repeat (first | (with_reducible first | exact HB.out | apply below_alloc | apply pw_below_drewN | apply below_drew1 | refine below_set ?_ GE103.out) | exact HB.out)⟩
                · rw [if_neg c19] at H
                  have c19b0 : (t104 == 1) = false := beq_eq_false_iff_ne.mpr c19
                  have c19b1 : (t104 != 1) = true := bne_iff_ne.mpr c19
                  replace H := Option.bind_eq_some_iff.mp H
                  obtain ⟨t106, A250, H⟩ := H
                  replace H : (if t106 < 1 then (some (-1)) else (if (!(((rd_T55 l0 a1).f2.f0) == (wrap64 (t106 - 1))) || (!(((rd_T55 l0 a1).f2.f1) == (wrap64 (a1 - 1))))) = true then (some (-1)) else ((dragomanref05_begin.f kj6 l0 (wrap64 (t106 - 1))).bind fun t107 => (some t107)))) = some r := H
                  have A25 := Aside0.mk A250
                  clear A250
                  by_cases c26 : t106 < 1
                  · rw [if_pos c26] at H
                    have c26b0 : decide (t106 < 1) = true := decide_eq_true c26
                    clear c26
                    obtain rfl := Option.some.inj H
                    go_wp2_with (first | ((with_reducible refine gate_callee (f := 43) rfl ?_); refine goesL_ (some 52) rfl rfl Try.func43 (by kernel_rfl) rfl #[.slice (some ad102) l0.length c0, .int .i64 (wrap64 (a1 - 1))] rfl (by (try simp only [List.map_toArray, List.map_cons, List.map_nil]); first | done | rfl | (simp only [List.length_drop, List.length_take]; rfl)) ?_; (with_reducible refine (ih kj6 (by have := HJ6.out; omega) _ _ l0 (wrap64 (a1 - 1)) t106 _ ?side1 ?side2 A25.out).mono ?_); (case side1 => repeat (first | exact (Kd.C_below HR0.out HB.out) | (with_reducible refine Kd.C_alloc ?_ _) | (with_reducible refine Kd.C_drewN ?_ _) | (with_reducible refine Kd.C_drew ?_))); (case side2 => exact HC0.out); rintro e w27 ⟨rfl, hb⟩; refine ⟨_, rfl, ?_⟩; have n0_ := Aside0.mk (blk_below (g := gb103) (o := .cells #[.int .i64 ((rd_T55 l0 a1).f0), .int .u64 ((rd_T55 l0 a1).f1.f0), .int .u64 ((rd_T55 l0 a1).f1.f1), .int .u64 ((rd_T55 l0 a1).f1.f2), .int .u64 ((rd_T55 l0 a1).f1.f3), .int .i64 ((rd_T55 l0 a1).f2.f0), .int .i64 ((rd_T55 l0 a1).f2.f1)] 55 (0, 0)) (by (with_reducible repeat (first | refine blk_drewN ?_ _ | refine blk_drew ?_ | refine blk_alloc ?_ _)); exact BK103.out) hb); have n1_ := Aside0.mk (below_step (by repeat (first | (with_reducible first | exact HB.out | apply below_alloc | apply pw_below_drewN | apply below_drew1 | refine below_set ?_ GE103.out) | exact HB.out)) hb); clear BK103; clear HB; have BK103 := n0_; have HB := n1_; clear n0_ n1_; (try clear hb); (try clear hb2); (try clear hk); (try clear hi)))
                    go_ret
                    exact ⟨by first | rfl | (simp [errW_none, errW_some] <;> rfl) | (simp [*, errW_none, errW_some] <;> rfl), by repeat (first | (with_reducible first | exact HB.out | apply below_alloc | apply pw_below_drewN | apply below_drew1 | refine below_set ?_ GE103.out) | exact HB.out)⟩
                  · rw [if_neg c26] at H
                    have c26b0 : decide (t106 < 1) = false := decide_eq_false c26
                    clear c26
                    by_cases c28 : (!(((rd_T55 l0 a1).f2.f0) == (wrap64 (t106 - 1))) || (!(((rd_T55 l0 a1).f2.f1) == (wrap64 (a1 - 1))))) = true
                    · rw [if_pos c28] at H
                      have c28b0 : (!(((rd_T55 l0 a1).f2.f0) == (wrap64 (t106 - 1))) || (!(((rd_T55 l0 a1).f2.f1) == (wrap64 (a1 - 1))))) = true := c28
                      try (have c28b0n := c28b0; rw [wrapFit (by omega) (by omega)] at c28b0n)
                      clear c28
                      obtain rfl := Option.some.inj H
                      go_wp2_with (first | ((with_reducible refine gate_callee (f := 43) rfl ?_); refine goesL_ (some 52) rfl rfl Try.func43 (by kernel_rfl) rfl #[.slice (some ad102) l0.length c0, .int .i64 (wrap64 (a1 - 1))] rfl (by (try simp only [List.map_toArray, List.map_cons, List.map_nil]); first | done | rfl | (simp only [List.length_drop, List.length_take]; rfl)) ?_; (with_reducible refine (ih kj6 (by have := HJ6.out; omega) _ _ l0 (wrap64 (a1 - 1)) t106 _ ?side1 ?side2 A25.out).mono ?_); (case side1 => repeat (first | exact (Kd.C_below HR0.out HB.out) | (with_reducible refine Kd.C_alloc ?_ _) | (with_reducible refine Kd.C_drewN ?_ _) | (with_reducible refine Kd.C_drew ?_))); (case side2 => exact HC0.out); rintro e w29 ⟨rfl, hb⟩; refine ⟨_, rfl, ?_⟩; have n0_ := Aside0.mk (blk_below (g := gb103) (o := .cells #[.int .i64 ((rd_T55 l0 a1).f0), .int .u64 ((rd_T55 l0 a1).f1.f0), .int .u64 ((rd_T55 l0 a1).f1.f1), .int .u64 ((rd_T55 l0 a1).f1.f2), .int .u64 ((rd_T55 l0 a1).f1.f3), .int .i64 ((rd_T55 l0 a1).f2.f0), .int .i64 ((rd_T55 l0 a1).f2.f1)] 55 (0, 0)) (by (with_reducible repeat (first | refine blk_drewN ?_ _ | refine blk_drew ?_ | refine blk_alloc ?_ _)); exact BK103.out) hb); have n1_ := Aside0.mk (below_step (by repeat (first | (with_reducible first | exact HB.out | apply below_alloc | apply pw_below_drewN | apply below_drew1 | refine below_set ?_ GE103.out) | exact HB.out)) hb); clear BK103; clear HB; have BK103 := n0_; have HB := n1_; clear n0_ n1_; (try clear hb); (try clear hb2); (try clear hk); (try clear hi); have hcz30_0 : w29.cell? ⟨gb103, 0, none⟩ = some (.int .i64 ((rd_T55 l0 a1).f0)) := (blk_cell BK103.out 0).trans rfl; have hcz30_1 : w29.cell? ⟨gb103, 1, none⟩ = some (.int .u64 ((rd_T55 l0 a1).f1.f0)) := (blk_cell BK103.out 1).trans rfl; have hcz30_2 : w29.cell? ⟨gb103, 2, none⟩ = some (.int .u64 ((rd_T55 l0 a1).f1.f1)) := (blk_cell BK103.out 2).trans rfl; have hcz30_3 : w29.cell? ⟨gb103, 3, none⟩ = some (.int .u64 ((rd_T55 l0 a1).f1.f2)) := (blk_cell BK103.out 3).trans rfl; have hcz30_4 : w29.cell? ⟨gb103, 4, none⟩ = some (.int .u64 ((rd_T55 l0 a1).f1.f3)) := (blk_cell BK103.out 4).trans rfl; have hcz30_5 : w29.cell? ⟨gb103, 5, none⟩ = some (.int .i64 ((rd_T55 l0 a1).f2.f0)) := (blk_cell BK103.out 5).trans rfl; have hcz30_6 : w29.cell? ⟨gb103, 6, none⟩ = some (.int .i64 ((rd_T55 l0 a1).f2.f1)) := (blk_cell BK103.out 6).trans rfl; have hfz30_0 := blk_frozen BK103.out 0; have hfz30_1 := blk_frozen BK103.out 1; have hfz30_2 := blk_frozen BK103.out 2; have hfz30_3 := blk_frozen BK103.out 3; have hfz30_4 := blk_frozen BK103.out 4; have hfz30_5 := blk_frozen BK103.out 5; have hfz30_6 := blk_frozen BK103.out 6))
                      go_ret
                      exact ⟨by first | rfl | (simp [errW_none, errW_some] <;> rfl) | (simp [*, errW_none, errW_some] <;> rfl), by repeat (first | (with_reducible first | exact HB.out | apply below_alloc | apply pw_below_drewN | apply below_drew1 | refine below_set ?_ GE103.out) | exact HB.out)⟩
                    · rw [if_neg c28] at H
                      have c28b0 : (!(((rd_T55 l0 a1).f2.f0) == (wrap64 (t106 - 1))) || (!(((rd_T55 l0 a1).f2.f1) == (wrap64 (a1 - 1))))) = false := by simpa using c28
                      try (have c28b0n := c28b0; rw [wrapFit (by omega) (by omega)] at c28b0n)
                      clear c28
                      replace H := Option.bind_eq_some_iff.mp H
                      obtain ⟨t107, A310, H⟩ := H
                      replace H : (some t107) = some r := H
                      have A31 := Aside0.mk A310
                      clear A310
                      obtain rfl := Option.some.inj H
                      go_wp2_with (first | ((with_reducible refine gate_callee (f := 43) rfl ?_); refine goesL_ (some 52) rfl rfl Try.func43 (by kernel_rfl) rfl #[.slice (some ad102) l0.length c0, .int .i64 (wrap64 (a1 - 1))] rfl (by (try simp only [List.map_toArray, List.map_cons, List.map_nil]); first | done | rfl | (simp only [List.length_drop, List.length_take]; rfl)) ?_; (with_reducible refine (ih kj6 (by have := HJ6.out; omega) _ _ l0 (wrap64 (a1 - 1)) t106 _ ?side1 ?side2 A25.out).mono ?_); (case side1 => repeat (first | exact (Kd.C_below HR0.out HB.out) | (with_reducible refine Kd.C_alloc ?_ _) | (with_reducible refine Kd.C_drewN ?_ _) | (with_reducible refine Kd.C_drew ?_))); (case side2 => exact HC0.out); rintro e w32 ⟨rfl, hb⟩; refine ⟨_, rfl, ?_⟩; have n0_ := Aside0.mk (blk_below (g := gb103) (o := .cells #[.int .i64 ((rd_T55 l0 a1).f0), .int .u64 ((rd_T55 l0 a1).f1.f0), .int .u64 ((rd_T55 l0 a1).f1.f1), .int .u64 ((rd_T55 l0 a1).f1.f2), .int .u64 ((rd_T55 l0 a1).f1.f3), .int .i64 ((rd_T55 l0 a1).f2.f0), .int .i64 ((rd_T55 l0 a1).f2.f1)] 55 (0, 0)) (by (with_reducible repeat (first | refine blk_drewN ?_ _ | refine blk_drew ?_ | refine blk_alloc ?_ _)); exact BK103.out) hb); have n1_ := Aside0.mk (below_step (by repeat (first | (with_reducible first | exact HB.out | apply below_alloc | apply pw_below_drewN | apply below_drew1 | refine below_set ?_ GE103.out) | exact HB.out)) hb); clear BK103; clear HB; have BK103 := n0_; have HB := n1_; clear n0_ n1_; (try clear hb); (try clear hb2); (try clear hk); (try clear hi); have hcz33_0 : w32.cell? ⟨gb103, 0, none⟩ = some (.int .i64 ((rd_T55 l0 a1).f0)) := (blk_cell BK103.out 0).trans rfl; have hcz33_1 : w32.cell? ⟨gb103, 1, none⟩ = some (.int .u64 ((rd_T55 l0 a1).f1.f0)) := (blk_cell BK103.out 1).trans rfl; have hcz33_2 : w32.cell? ⟨gb103, 2, none⟩ = some (.int .u64 ((rd_T55 l0 a1).f1.f1)) := (blk_cell BK103.out 2).trans rfl; have hcz33_3 : w32.cell? ⟨gb103, 3, none⟩ = some (.int .u64 ((rd_T55 l0 a1).f1.f2)) := (blk_cell BK103.out 3).trans rfl; have hcz33_4 : w32.cell? ⟨gb103, 4, none⟩ = some (.int .u64 ((rd_T55 l0 a1).f1.f3)) := (blk_cell BK103.out 4).trans rfl; have hcz33_5 : w32.cell? ⟨gb103, 5, none⟩ = some (.int .i64 ((rd_T55 l0 a1).f2.f0)) := (blk_cell BK103.out 5).trans rfl; have hcz33_6 : w32.cell? ⟨gb103, 6, none⟩ = some (.int .i64 ((rd_T55 l0 a1).f2.f1)) := (blk_cell BK103.out 6).trans rfl; have hfz33_0 := blk_frozen BK103.out 0; have hfz33_1 := blk_frozen BK103.out 1; have hfz33_2 := blk_frozen BK103.out 2; have hfz33_3 := blk_frozen BK103.out 3; have hfz33_4 := blk_frozen BK103.out 4; have hfz33_5 := blk_frozen BK103.out 5; have hfz33_6 := blk_frozen BK103.out 6) | ((with_reducible refine gate_callee (f := 43) rfl ?_); refine goesL_ (some 68) rfl rfl Try.func43 (by kernel_rfl) rfl #[.slice (some ad102) l0.length c0, .int .i64 (wrap64 (t106 - 1))] rfl (by (try simp only [List.map_toArray, List.map_cons, List.map_nil]); first | done | rfl | (simp only [List.length_drop, List.length_take]; rfl)) ?_; (with_reducible refine (ih kj6 (by have := HJ6.out; omega) _ _ l0 (wrap64 (t106 - 1)) t107 _ ?side1 ?side2 A31.out).mono ?_); (case side1 => repeat (first | exact (Kd.C_below HR0.out HB.out) | (with_reducible refine Kd.C_alloc ?_ _) | (with_reducible refine Kd.C_drewN ?_ _) | (with_reducible refine Kd.C_drew ?_))); (case side2 => exact HC0.out); rintro e w34 ⟨rfl, hb⟩; refine ⟨_, rfl, ?_⟩; have n0_ := Aside0.mk (blk_below (g := gb103) (o := .cells #[.int .i64 ((rd_T55 l0 a1).f0), .int .u64 ((rd_T55 l0 a1).f1.f0), .int .u64 ((rd_T55 l0 a1).f1.f1), .int .u64 ((rd_T55 l0 a1).f1.f2), .int .u64 ((rd_T55 l0 a1).f1.f3), .int .i64 ((rd_T55 l0 a1).f2.f0), .int .i64 ((rd_T55 l0 a1).f2.f1)] 55 (0, 0)) (by (with_reducible repeat (first | refine blk_drewN ?_ _ | refine blk_drew ?_ | refine blk_alloc ?_ _)); exact BK103.out) hb); have n1_ := Aside0.mk (below_step (by repeat (first | (with_reducible first | exact HB.out | apply below_alloc | apply pw_below_drewN | apply below_drew1 | refine below_set ?_ GE103.out) | exact HB.out)) hb); clear BK103; clear HB; have BK103 := n0_; have HB := n1_; clear n0_ n1_; (try clear hb); (try clear hb2); (try clear hk); (try clear hi)))
                      go_ret
                      exact ⟨by first | rfl | (simp [errW_none, errW_some] <;> rfl) | (simp [*, errW_none, errW_some] <;> rfl), by repeat (first | (with_reducible first | exact HB.out | apply below_alloc | apply pw_below_drewN | apply below_drew1 | refine below_set ?_ GE103.out) | exact HB.out)⟩
      · rw [if_neg c5] at H
        exact absurd H (by simp)
    · rw [if_neg c4] at H
      exact absurd H (by simp)

/-! ### dragomanref05_Right: function 27 -/
def dragomanref05_Right.f (k : Nat) (l0 : List (S55)) : Option (Bool) := if (l0.length : Int) ≤ 2000 then (if (l0.length : Int) > 0 then ((dragomanref05_begin.f k l0 (wrap64 ((l0.length : Int) - 1))).bind fun t108 => (some (t108 == 0))) else (some false)) else (some false)
theorem dragomanref05_Right.mono : ∀ a0 k, LeO (dragomanref05_Right.f k a0) (dragomanref05_Right.f (k + 1) a0) := by
  intro a0 k
  unfold dragomanref05_Right.f
  repeat' first
      | (with_reducible exact dragomanref05_begin.mono _ _ _)
      | (with_reducible exact LeO.refl _)
      | (with_reducible exact LeO.none _)
      | (with_reducible refine LeO.ite ?_ ?_)
      | (with_reducible refine LeO.bind ?_ (fun _ => ?_))
      | exact dragomanref05_begin.mono _ _ _
      | exact LeO.none _
      | refine LeO.ite ?_ ?_
      | refine LeO.bind ?_ (fun _ => ?_)
set_option maxHeartbeats 8000000 in
set_option maxRecDepth 100000 in
theorem dragomanref05_Right.calls (k : Nat) (A0 : Option Addr) (c0 : Nat) (l0 : List (S55)) (r : Bool) (w : World) (hr0 : Kd.C k55 w A0 l0.length l0) (hc0 : l0.length ≤ c0) (h : dragomanref05_Right.f k l0 = some r) :
    Calls Try.prog 27 #[.slice A0 l0.length c0] w fun e w' => e = .returned (.bool r) ∧ Below w.heap.size w w' := by
  have HR0 := Aside0.mk hr0
  have HC0 := Aside0.mk hc0
  clear hr0 hc0
  have HB := Aside0.mk (Below.refl w.heap.size w)
  have H : (if (l0.length : Int) ≤ 2000 then (if (l0.length : Int) > 0 then ((dragomanref05_begin.f k l0 (wrap64 ((l0.length : Int) - 1))).bind fun t108 => (some (t108 == 0))) else (some false)) else (some false)) = some r := h
  clear h
  by_cases c2 : (l0.length : Int) ≤ 2000
  · rw [if_pos c2] at H
    have c2b0 : decide ((l0.length : Int) ≤ 2000) = true := decide_eq_true c2
    have c2b1 : decide (l0.length ≤ 2000) = true := decide_eq_true (by omega)
    clear c2
    by_cases c3 : (l0.length : Int) > 0
    · rw [if_pos c3] at H
      have c3b0 : decide (0 < (l0.length : Int)) = true := decide_eq_true c3
      have c3b1 : decide (0 < l0.length) = true := decide_eq_true (by omega)
      clear c3
      replace H := Option.bind_eq_some_iff.mp H
      obtain ⟨t108, A40, H⟩ := H
      replace H : (some (t108 == 0)) = some r := H
      have A4 := Aside0.mk A40
      clear A40
      obtain rfl := Option.some.inj H
      go_enter Try.func27, Try.ntmps27
      go_wp2_with (first | (go_at_call 43; (with_reducible refine (dragomanref05_begin.calls k _ _ l0 (wrap64 ((l0.length : Int) - 1)) t108 _ ?side1 ?side2 A4.out).mono ?_); (case side1 => repeat (first | exact HR0.out | (with_reducible refine Kd.C_alloc ?_ _) | (with_reducible refine Kd.C_drewN ?_ _) | (with_reducible refine Kd.C_drew ?_))); (case side2 => exact HC0.out); rintro e w5 ⟨rfl, hb⟩; have n0_ := Aside0.mk (below_step (by repeat (first | (with_reducible first | exact HB.out | apply below_alloc | apply pw_below_drewN | apply below_drew1) | exact HB.out)) hb); clear HB; have HB := n0_; clear n0_; (try clear hb); (try clear hb2); (try clear hk); (try clear hi)))
      go_ret
      exact ⟨by first | rfl | (simp [errW_none, errW_some] <;> rfl) | (simp [*, errW_none, errW_some] <;> rfl), by repeat (first | (with_reducible first | exact HB.out | apply below_alloc | apply pw_below_drewN | apply below_drew1) | exact HB.out)⟩
    · rw [if_neg c3] at H
      have c3b0 : decide (0 < (l0.length : Int)) = false := decide_eq_false c3
      have c3b1 : decide (0 < l0.length) = false := decide_eq_false (by omega)
      clear c3
      obtain rfl := Option.some.inj H
      go_enter Try.func27, Try.ntmps27
      go_wp2
      go_ret
      exact ⟨by first | rfl | (simp [errW_none, errW_some] <;> rfl) | (simp [*, errW_none, errW_some] <;> rfl), by repeat (first | (with_reducible first | exact HB.out | apply below_alloc | apply pw_below_drewN | apply below_drew1) | exact HB.out)⟩
  · rw [if_neg c2] at H
    have c2b0 : decide ((l0.length : Int) ≤ 2000) = false := decide_eq_false c2
    have c2b1 : decide (l0.length ≤ 2000) = false := decide_eq_false (by omega)
    clear c2
    obtain rfl := Option.some.inj H
    go_enter Try.func27, Try.ntmps27
    go_wp2
    go_ret
    exact ⟨by first | rfl | (simp [errW_none, errW_some] <;> rfl) | (simp [*, errW_none, errW_some] <;> rfl), by repeat (first | (with_reducible first | exact HB.out | apply below_alloc | apply pw_below_drewN | apply below_drew1) | exact HB.out)⟩

/-! ### dragomanlaw07_few: function 11 -/
def dragomanlaw07_few.f (k : Nat) (l0 : List (S55)) (a1 : ByteArray) (l2 : List ByteArray) : Option (Bool) := if (l0.length : Int) ≤ 60 then (if (a1.size : Int) ≤ 30 then ((dragomanref07_Long.f k l2).bind fun t109 => (if t109 ≤ 200 then ((dragomanref05_Right.f k l0).bind fun t110 => (some t110)) else (some false))) else (some false)) else (some false)
set_option maxHeartbeats 8000000 in
set_option maxRecDepth 100000 in
theorem dragomanlaw07_few.calls (k : Nat) (A0 : Option Addr) (c0 : Nat) (l0 : List (S55)) (a1 : ByteArray) (A2 : Option Addr) (c2 : Nat) (l2 : List ByteArray) (r : Bool) (w : World) (hr0 : Kd.C k55 w A0 l0.length l0) (hc0 : l0.length ≤ c0) (hr2 : Kd.C Kd.string w A2 l2.length l2) (hc2 : l2.length ≤ c2) (h : dragomanlaw07_few.f k l0 a1 l2 = some r) :
    Calls Try.prog 11 #[.slice A0 l0.length c0, .string a1, .slice A2 l2.length c2] w fun e w' => e = .returned (.bool r) ∧ Below w.heap.size w w' := by
  have HR0 := Aside0.mk hr0
  have HC0 := Aside0.mk hc0
  clear hr0 hc0
  have HR2 := Aside0.mk hr2
  have HC2 := Aside0.mk hc2
  clear hr2 hc2
  have HB := Aside0.mk (Below.refl w.heap.size w)
  have H : (if (l0.length : Int) ≤ 60 then (if (a1.size : Int) ≤ 30 then ((dragomanref07_Long.f k l2).bind fun t109 => (if t109 ≤ 200 then ((dragomanref05_Right.f k l0).bind fun t110 => (some t110)) else (some false))) else (some false)) else (some false)) = some r := h
  clear h
  by_cases c4 : (l0.length : Int) ≤ 60
  · rw [if_pos c4] at H
    have c4b0 : decide ((l0.length : Int) ≤ 60) = true := decide_eq_true c4
    have c4b1 : decide (l0.length ≤ 60) = true := decide_eq_true (by omega)
    clear c4
    by_cases c5 : (a1.size : Int) ≤ 30
    · rw [if_pos c5] at H
      have c5b0 : decide ((a1.size : Int) ≤ 30) = true := decide_eq_true c5
      have c5b1 : decide (a1.size ≤ 30) = true := decide_eq_true (by omega)
      clear c5
      replace H := Option.bind_eq_some_iff.mp H
      obtain ⟨t109, A60, H⟩ := H
      replace H : (if t109 ≤ 200 then ((dragomanref05_Right.f k l0).bind fun t110 => (some t110)) else (some false)) = some r := H
      have A6 := Aside0.mk A60
      clear A60
      by_cases c7 : t109 ≤ 200
      · rw [if_pos c7] at H
        have c7b0 : decide (t109 ≤ 200) = true := decide_eq_true c7
        clear c7
        replace H := Option.bind_eq_some_iff.mp H
        obtain ⟨t110, A80, H⟩ := H
        replace H : (some t110) = some r := H
        have A8 := Aside0.mk A80
        clear A80
        obtain rfl := Option.some.inj H
        go_enter Try.func11, Try.ntmps11
        go_wp2_with (first | (go_at_call 19; (with_reducible refine (dragomanref07_Long.calls k _ _ l2 t109 _ ?side1 ?side2 A6.out).mono ?_); (case side1 => repeat (first | exact HR2.out | (with_reducible refine Kd.C_alloc ?_ _) | (with_reducible refine Kd.C_drewN ?_ _) | (with_reducible refine Kd.C_drew ?_))); (case side2 => exact HC2.out); rintro e w' ⟨rfl, ⟨nd, rfl⟩⟩) | (go_at_call 27; (with_reducible refine (dragomanref05_Right.calls k _ _ l0 t110 _ ?side1 ?side2 A8.out).mono ?_); (case side1 => repeat (first | exact HR0.out | (with_reducible refine Kd.C_alloc ?_ _) | (with_reducible refine Kd.C_drewN ?_ _) | (with_reducible refine Kd.C_drew ?_))); (case side2 => exact HC0.out); rintro e w9 ⟨rfl, hb⟩; have n0_ := Aside0.mk (below_step (by repeat (first | (with_reducible first | exact HB.out | apply below_alloc | apply pw_below_drewN | apply below_drew1) | exact HB.out)) hb); clear HB; have HB := n0_; clear n0_; (try clear hb); (try clear hb2); (try clear hk); (try clear hi)))
        go_ret
        exact ⟨by first | rfl | (simp [errW_none, errW_some] <;> rfl) | (simp [*, errW_none, errW_some] <;> rfl), by repeat (first | (with_reducible first | exact HB.out | apply below_alloc | apply pw_below_drewN | apply below_drew1) | exact HB.out)⟩
      · rw [if_neg c7] at H
        have c7b0 : decide (t109 ≤ 200) = false := decide_eq_false c7
        clear c7
        obtain rfl := Option.some.inj H
        go_enter Try.func11, Try.ntmps11
        go_wp2_with (first | (go_at_call 19; (with_reducible refine (dragomanref07_Long.calls k _ _ l2 t109 _ ?side1 ?side2 A6.out).mono ?_); (case side1 => repeat (first | exact HR2.out | (with_reducible refine Kd.C_alloc ?_ _) | (with_reducible refine Kd.C_drewN ?_ _) | (with_reducible refine Kd.C_drew ?_))); (case side2 => exact HC2.out); rintro e w' ⟨rfl, ⟨nd, rfl⟩⟩))
        go_ret
        exact ⟨by first | rfl | (simp [errW_none, errW_some] <;> rfl) | (simp [*, errW_none, errW_some] <;> rfl), by repeat (first | (with_reducible first | exact HB.out | apply below_alloc | apply pw_below_drewN | apply below_drew1) | exact HB.out)⟩
    · rw [if_neg c5] at H
      have c5b0 : decide ((a1.size : Int) ≤ 30) = false := decide_eq_false c5
      have c5b1 : decide (a1.size ≤ 30) = false := decide_eq_false (by omega)
      clear c5
      obtain rfl := Option.some.inj H
      go_enter Try.func11, Try.ntmps11
      go_wp2
      go_ret
      exact ⟨by first | rfl | (simp [errW_none, errW_some] <;> rfl) | (simp [*, errW_none, errW_some] <;> rfl), by repeat (first | (with_reducible first | exact HB.out | apply below_alloc | apply pw_below_drewN | apply below_drew1) | exact HB.out)⟩
  · rw [if_neg c4] at H
    have c4b0 : decide ((l0.length : Int) ≤ 60) = false := decide_eq_false c4
    have c4b1 : decide (l0.length ≤ 60) = false := decide_eq_false (by omega)
    clear c4
    obtain rfl := Option.some.inj H
    go_enter Try.func11, Try.ntmps11
    go_wp2
    go_ret
    exact ⟨by first | rfl | (simp [errW_none, errW_some] <;> rfl) | (simp [*, errW_none, errW_some] <;> rfl), by repeat (first | (with_reducible first | exact HB.out | apply below_alloc | apply pw_below_drewN | apply below_drew1) | exact HB.out)⟩

end Go.Proofs.Ythnfmpieoondaaa.QA
end
