/- The Go functions of this part as Lean functions, each with a proof that a call of it comes to just what the Lean function does. Written by a program of the session's. Conditions: none but those in each theorem. -/
import Derived.Test.YtgodmbcebpbdiaaDoorXQ1x0
namespace Go.Proofs.YtgodmbcebpbdiaaDoor.Q1
open Go.Proofs.YtgodmbcebpbdiaaDoor.G
open Go.RowKit Go.Proofs.YtgodmbcebpbdiaaDoorW.PrintWords Go.Proofs.YtgodmbcebpbdiaaDoorW.PrintLast Go.Proofs.YtgodmbcebpbdiaaDoorW.PrintMore
attribute [local go_sem] max2_int min2_int max_two min_two max_three min_three max_four min_four   -- for this text's walks alone
set_option linter.unusedVariables false
set_option linter.unusedSimpArgs false

/-! ### dec_span: function 35 -/
mutual
def dec_span.j1 : Nat → ByteArray → Int → Option (Int × Int × Int × Int)
  | 0, _, _ => none
  | k + 1, x0, x2 => if x2 < (x0.size : Int) then (if 0 ≤ x2 then (if (bt x0 x2) = 45 then (dec_span.j2 k x0 x2 x2 true) else (dec_span.j2 k x0 x2 x2 ((bt x0 x2) == 43))) else (none)) else (dec_span.j2 k x0 x2 x2 false)
def dec_span.j2 : Nat → ByteArray → Int → Int → Bool → Option (Int × Int × Int × Int)
  | 0, _, _, _, _ => none
  | k + 1, x0, x2, x3, x40 => if x40 = true then (dec_span.j3 k x0 x2 (wrap64 (x3 + 1))) else (dec_span.j3 k x0 x2 x3)
def dec_span.j3 : Nat → ByteArray → Int → Int → Option (Int × Int × Int × Int)
  | 0, _, _, _ => none
  | k + 1, x0, x2, x3 => dec_span.l1 k x0 x2 x3 x3
def dec_span.j5 : Nat → ByteArray → Int → Int → Int → Option (Int × Int × Int × Int)
  | 0, _, _, _, _ => none
  | k + 1, x0, x2, x3, x4 => if x4 < (x0.size : Int) then (if 0 ≤ x4 then (dec_span.j6 k x0 x2 x3 x4 x4 ((bt x0 x4) == 46)) else (none)) else (dec_span.j6 k x0 x2 x3 x4 x4 false)
def dec_span.j6 : Nat → ByteArray → Int → Int → Int → Int → Bool → Option (Int × Int × Int × Int)
  | 0, _, _, _, _, _, _ => none
  | k + 1, x0, x2, x3, x4, x5, x72 => if x72 = true then (dec_span.l2 k x0 x2 x3 x4 (wrap64 (x5 + 1))) else (some (x2, x3, x4, x5))
def dec_span.l2 : Nat → ByteArray → Int → Int → Int → Int → Option (Int × Int × Int × Int)
  | 0, _, _, _, _, _ => none
  | k + 1, x0, x2, x3, x4, x5 => if x5 < (x0.size : Int) then (if 0 ≤ x5 then (if (bt x0 x5) ≥ 48 then (if (bt x0 x5) ≤ 57 then (dec_span.l2 k x0 x2 x3 x4 (wrap64 (x5 + 1))) else (some (x2, x3, x4, x5))) else (some (x2, x3, x4, x5))) else (none)) else (some (x2, x3, x4, x5))
def dec_span.l1 : Nat → ByteArray → Int → Int → Int → Option (Int × Int × Int × Int)
  | 0, _, _, _, _ => none
  | k + 1, x0, x2, x3, x4 => if x4 < (x0.size : Int) then (if 0 ≤ x4 then (if (bt x0 x4) ≥ 48 then (if (bt x0 x4) ≤ 57 then (dec_span.l1 k x0 x2 x3 (wrap64 (x4 + 1))) else (dec_span.j5 k x0 x2 x3 x4)) else (dec_span.j5 k x0 x2 x3 x4)) else (none)) else (dec_span.j5 k x0 x2 x3 x4)
def dec_span.l0 : Nat → ByteArray → Int → Option (Int × Int × Int × Int)
  | 0, _, _ => none
  | k + 1, x0, x2 => if x2 < (x0.size : Int) then (if 0 ≤ x2 then (if (bt x0 x2) = 32 then (dec_span.l0 k x0 (wrap64 (x2 + 1))) else (if (bt x0 x2) = 9 then (dec_span.l0 k x0 (wrap64 (x2 + 1))) else (dec_span.j1 k x0 x2))) else (none)) else (dec_span.j1 k x0 x2)
end
def dec_span.f (k : Nat) (a0 : ByteArray) : Option (Int × Int × Int × Int) := dec_span.l0 k a0 0
set_option maxHeartbeats 8000000 in
set_option maxRecDepth 100000 in
theorem dec_span.calls (k : Nat) (a0 : ByteArray) (r1 : Int) (r2 : Int) (r3 : Int) (r4 : Int) (w : World) (h : dec_span.f k a0 = some (r1, r2, r3, r4)) :
    Calls Tryd.prog 35 #[.string a0] w fun e w' => e = .returned (.tuple #[.int .i64 r1, .int .i64 r2, .int .i64 r3, .int .i64 r4]) ∧ Drawn0 w w' := by
  have H : (dec_span.l0 k a0 0) = some (r1, r2, r3, r4) := h
  clear h
  have HC2 := Aside0.mk H
  clear H
  go_enter Tryd.func35, Tryd.ntmps35
  go_upto_block 0 with (fail)
  go_cut [2] (fun v2 wc => ∃ (kq : Nat) (x2_1 : Int), v2 = .int .i64 x2_1 ∧ Aside0 (dec_span.j1 kq a0 x2_1 = some (r1, r2, r3, r4)) ∧ Aside0 (kq ≤ k) ∧ Drawn0 w wc)
  case first =>
    have H := HC2.out
    clear HC2
    have H' := Aside0.mk H
    clear H
    go_wp2
    go_loopg [2] k (fun kq v2 w' => ∃ (x2_1 : Int), v2 = .int .i64 x2_1 ∧ Aside0 (dec_span.l0 kq a0 x2_1 = some (r1, r2, r3, r4)) ∧ Aside0 (kq ≤ k) ∧ Drawn0 w w')
    case atStart => exact ⟨(0), (by first | rfl | (simp; done) | (simp [*]; done)), H', ⟨Nat.le_refl _⟩, by repeat (first | exact Drawn0.refl _ | apply Drawn0.step)⟩
    case round =>
      clear H'
      try clear p2
      obtain ⟨x2_1, rfl, HA, HK1, ⟨m1, rfl⟩⟩ := hrel
      cases gk with
      | zero => exact absurd HA.out (by simp [dec_span.l0])
      | succ k1 =>
        have H := HA.out
        clear HA
        simp only [dec_span.l0] at H
        by_cases c3 : x2_1 < (a0.size : Int)
        · rw [if_pos c3] at H
          have c3b0 : decide (x2_1 < (a0.size : Int)) = true := decide_eq_true c3
          clear c3
          (first | rw [c3b0] | (simp only [i64_w, i32_w]; rw [c3b0]) | skip)
          by_cases c4 : 0 ≤ x2_1
          · rw [if_pos c4] at H
            have c4b0 : decide (0 ≤ x2_1) = true := decide_eq_true c4
            clear c4
            by_cases c6 : (bt a0 x2_1) = 32
            · rw [if_pos c6] at H
              have c6b0 : ((bt a0 x2_1) == 32) = true := beq_iff_eq.mpr c6
              have c6b1 : ((bt a0 x2_1) != 32) = false := bne_eq_false_iff_eq.mpr c6
              clear c6
              have H' := Aside0.mk H
              clear H
              have p5 : 0 ≤ (x2_1 : Int) := of_decide_eq_true (by first | (with_reducible assumption) | assumption)
              have q5 : x2_1 < (a0.size : Int) := of_decide_eq_true (by first | (with_reducible assumption) | assumption)
              have hx5 := bt_at a0 x2_1
              replace p5 := eq_true p5
              replace q5 := eq_true q5
              go_wp2
              go_roundg k1
              case measure => have := HK1.out; omega
              case rel => exact ⟨(wrap64 (x2_1 + 1)), (by first | rfl | (simp; done) | (simp [*]; done)), H', ⟨by have := HK1.out; omega⟩, by repeat (first | exact Drawn0.refl _ | apply Drawn0.step)⟩
            · rw [if_neg c6] at H
              have c6b0 : ((bt a0 x2_1) == 32) = false := beq_eq_false_iff_ne.mpr c6
              have c6b1 : ((bt a0 x2_1) != 32) = true := bne_iff_ne.mpr c6
              by_cases c8 : (bt a0 x2_1) = 9
              · rw [if_pos c8] at H
                have c8b0 : ((bt a0 x2_1) == 9) = true := beq_iff_eq.mpr c8
                have c8b1 : ((bt a0 x2_1) != 9) = false := bne_eq_false_iff_eq.mpr c8
                clear c8
                have H' := Aside0.mk H
                clear H
                have p5 : 0 ≤ (x2_1 : Int) := of_decide_eq_true (by first | (with_reducible assumption) | assumption)
                have q5 : x2_1 < (a0.size : Int) := of_decide_eq_true (by first | (with_reducible assumption) | assumption)
                have hx5 := bt_at a0 x2_1
                replace p5 := eq_true p5
                replace q5 := eq_true q5
                have p7 : 0 ≤ (x2_1 : Int) := of_decide_eq_true (by first | (with_reducible assumption) | assumption)
                have q7 : x2_1 < (a0.size : Int) := of_decide_eq_true (by first | (with_reducible assumption) | assumption)
                have hx7 := bt_at a0 x2_1
                replace p7 := eq_true p7
                replace q7 := eq_true q7
                go_wp2
                go_roundg k1
                case measure => have := HK1.out; omega
                case rel => exact ⟨(wrap64 (x2_1 + 1)), (by first | rfl | (simp; done) | (simp [*]; done)), H', ⟨by have := HK1.out; omega⟩, by repeat (first | exact Drawn0.refl _ | apply Drawn0.step)⟩
              · rw [if_neg c8] at H
                have c8b0 : ((bt a0 x2_1) == 9) = false := beq_eq_false_iff_ne.mpr c8
                have c8b1 : ((bt a0 x2_1) != 9) = true := bne_iff_ne.mpr c8
                have H' := Aside0.mk H
                clear H
                have p5 : 0 ≤ (x2_1 : Int) := of_decide_eq_true (by first | (with_reducible assumption) | assumption)
                have q5 : x2_1 < (a0.size : Int) := of_decide_eq_true (by first | (with_reducible assumption) | assumption)
                have hx5 := bt_at a0 x2_1
                replace p5 := eq_true p5
                replace q5 := eq_true q5
                have p7 : 0 ≤ (x2_1 : Int) := of_decide_eq_true (by first | (with_reducible assumption) | assumption)
                have q7 : x2_1 < (a0.size : Int) := of_decide_eq_true (by first | (with_reducible assumption) | assumption)
                have hx7 := bt_at a0 x2_1
                replace p7 := eq_true p7
                replace q7 := eq_true q7
                go_wp2
                go_meet
                case rel => exact ⟨_, (x2_1), (by first | rfl | (simp; done) | (simp [*]; done)), H', ⟨by have := HK1.out; first | omega | exact Nat.le_refl _⟩, by repeat (first | exact Drawn0.refl _ | apply Drawn0.step)⟩
          · rw [if_neg c4] at H
            exact absurd H (by simp)
        · rw [if_neg c3] at H
          have c3b0 : decide (x2_1 < (a0.size : Int)) = false := decide_eq_false c3
          clear c3
          (first | rw [c3b0] | (simp only [i64_w, i32_w]; rw [c3b0]) | skip)
          have H' := Aside0.mk H
          clear H
          go_wp2
          go_meet
          case rel => exact ⟨_, (x2_1), (by first | rfl | (simp; done) | (simp [*]; done)), H', ⟨by have := HK1.out; first | omega | exact Nat.le_refl _⟩, by repeat (first | exact Drawn0.refl _ | apply Drawn0.step)⟩
  case rest =>
    clear HC2
    try clear p2
    try clear c3
    try clear c3b0
    try clear c4
    try clear c4b0
    try clear p5
    try clear q5
    try clear hx5
    try clear c6
    try clear c6b0
    try clear c6b1
    try clear p6
    try clear p7
    try clear q7
    try clear hx7
    try clear c8
    try clear c8b0
    try clear c8b1
    try clear p2
    try clear p5
    try clear p7
    try clear q5
    try clear q7
    obtain ⟨kq, x2_1, rfl, HA, HJ1, ⟨mc1, rfl⟩⟩ := hcut
    cases kq with
    | zero => exact absurd HA.out (by simp [dec_span.j1])
    | succ kj1 =>
      have H := HA.out
      clear HA
      simp only [dec_span.j1] at H
      have HC9 := Aside0.mk H
      clear H
      go_upto_region 4 with (fail)
      go_cut [40] (fun v40 wc => ∃ (kq : Nat) (x40_8 : Bool), v40 = .bool x40_8 ∧ Aside0 (dec_span.j2 kq a0 x2_1 x2_1 x40_8 = some (r1, r2, r3, r4)) ∧ Aside0 (kq ≤ kj1) ∧ Drawn0 w wc)
      case first =>
        have H := HC9.out
        clear HC9
        by_cases c10 : x2_1 < (a0.size : Int)
        · rw [if_pos c10] at H
          have c10b0 : decide (x2_1 < (a0.size : Int)) = true := decide_eq_true c10
          clear c10
          (first | rw [c10b0] | (simp only [i64_w, i32_w]; rw [c10b0]) | skip)
          by_cases c11 : 0 ≤ x2_1
          · rw [if_pos c11] at H
            have c11b0 : decide (0 ≤ x2_1) = true := decide_eq_true c11
            clear c11
            by_cases c13 : (bt a0 x2_1) = 45
            · rw [if_pos c13] at H
              have c13b0 : ((bt a0 x2_1) == 45) = true := beq_iff_eq.mpr c13
              have c13b1 : ((bt a0 x2_1) != 45) = false := bne_eq_false_iff_eq.mpr c13
              clear c13
              have H' := Aside0.mk H
              clear H
              have p12 : 0 ≤ (x2_1 : Int) := of_decide_eq_true (by first | (with_reducible assumption) | assumption)
              have q12 : x2_1 < (a0.size : Int) := of_decide_eq_true (by first | (with_reducible assumption) | assumption)
              have hx12 := bt_at a0 x2_1
              replace p12 := eq_true p12
              replace q12 := eq_true q12
              go_wp2
              go_meet
              case rel => exact ⟨_, (true), (by first | rfl | (simp; done) | (simp [*]; done)), H', ⟨by have := HJ1.out; first | omega | exact Nat.le_refl _⟩, by repeat (first | exact Drawn0.refl _ | apply Drawn0.step)⟩
            · rw [if_neg c13] at H
              have c13b0 : ((bt a0 x2_1) == 45) = false := beq_eq_false_iff_ne.mpr c13
              have c13b1 : ((bt a0 x2_1) != 45) = true := bne_iff_ne.mpr c13
              have H' := Aside0.mk H
              clear H
              have p12 : 0 ≤ (x2_1 : Int) := of_decide_eq_true (by first | (with_reducible assumption) | assumption)
              have q12 : x2_1 < (a0.size : Int) := of_decide_eq_true (by first | (with_reducible assumption) | assumption)
              have hx12 := bt_at a0 x2_1
              replace p12 := eq_true p12
              replace q12 := eq_true q12
              have p14 : 0 ≤ (x2_1 : Int) := of_decide_eq_true (by first | (with_reducible assumption) | assumption)
              have q14 : x2_1 < (a0.size : Int) := of_decide_eq_true (by first | (with_reducible assumption) | assumption)
              have hx14 := bt_at a0 x2_1
              replace p14 := eq_true p14
              replace q14 := eq_true q14
              go_wp2
              go_meet
              case rel => exact ⟨_, (((bt a0 x2_1) == 43)), (by first | rfl | (simp; done) | (simp [*]; done)), H', ⟨by have := HJ1.out; first | omega | exact Nat.le_refl _⟩, by repeat (first | exact Drawn0.refl _ | apply Drawn0.step)⟩
          · rw [if_neg c11] at H
            exact absurd H (by simp)
        · rw [if_neg c10] at H
          have c10b0 : decide (x2_1 < (a0.size : Int)) = false := decide_eq_false c10
          clear c10
          (first | rw [c10b0] | (simp only [i64_w, i32_w]; rw [c10b0]) | skip)
          have H' := Aside0.mk H
          clear H
          go_wp2
          go_meet
          case rel => exact ⟨_, (false), (by first | rfl | (simp; done) | (simp [*]; done)), H', ⟨by have := HJ1.out; first | omega | exact Nat.le_refl _⟩, by repeat (first | exact Drawn0.refl _ | apply Drawn0.step)⟩
      case rest =>
        clear HC9
        try clear c1
        try clear p1
        try clear q1
        try clear hx1
        try clear p2
        try clear c3
        try clear c3b0
        try clear c4
        try clear c4b0
        try clear p5
        try clear q5
        try clear hx5
        try clear c6
        try clear c6b0
        try clear c6b1
        try clear p6
        try clear p7
        try clear q7
        try clear hx7
        try clear c8
        try clear c8b0
        try clear c8b1
        try clear c10
        try clear c10b0
        try clear c11
        try clear c11b0
        try clear p12
        try clear q12
        try clear hx12
        try clear c13
        try clear c13b0
        try clear c13b1
        try clear p14
        try clear q14
        try clear hx14
        try clear p12
        try clear p14
        try clear p2
        try clear p5
        try clear p6
        try clear p7
        try clear q12
        try clear q14
        try clear q5
        try clear q7
        obtain ⟨kq, x40_8, rfl, HA, HJ8, ⟨mc8, rfl⟩⟩ := hcut
        cases kq with
        | zero => exact absurd HA.out (by simp [dec_span.j2])
        | succ kj8 =>
          have H := HA.out
          clear HA
          simp only [dec_span.j2] at H
          have HC15 := Aside0.mk H
          clear H
          go_upto_if 40 with (fail)
          go_cut [3] (fun v3 wc => ∃ (kq : Nat) (x3_14 : Int), v3 = .int .i64 x3_14 ∧ Aside0 (dec_span.j3 kq a0 x2_1 x3_14 = some (r1, r2, r3, r4)) ∧ Aside0 (kq ≤ kj8) ∧ Drawn0 w wc)
          case first =>
            have H := HC15.out
            clear HC15
            by_cases c16 : x40_8 = true
            · subst c16
              have H1 : (dec_span.j3 kj8 a0 x2_1 (wrap64 (x2_1 + 1))) = some (r1, r2, r3, r4) := by rw [if_pos rfl] at H; exact H
              clear H
              have H := H1
              clear H1
              have H' := Aside0.mk H
              clear H
              go_wp2
              go_meet
              case rel => exact ⟨_, (wrap64 (x2_1 + 1)), (by first | rfl | (simp; done) | (simp [*]; done)), H', ⟨by have := HJ1.out; have := HJ8.out; first | omega | exact Nat.le_refl _⟩, by repeat (first | exact Drawn0.refl _ | apply Drawn0.step)⟩
            · replace c16 := Bool.eq_false_iff.mpr c16
              subst c16
              have H1 : (dec_span.j3 kj8 a0 x2_1 x2_1) = some (r1, r2, r3, r4) := by rw [if_neg (show ¬ (false = true) by decide)] at H; exact H
              clear H
              have H := H1
              clear H1
              have H' := Aside0.mk H
              clear H
              go_wp2
              go_meet
              case rel => exact ⟨_, (x2_1), (by first | rfl | (simp; done) | (simp [*]; done)), H', ⟨by have := HJ1.out; have := HJ8.out; first | omega | exact Nat.le_refl _⟩, by repeat (first | exact Drawn0.refl _ | apply Drawn0.step)⟩
          case rest =>
            clear HC15
            try clear c1
            try clear p1
            try clear q1
            try clear hx1
            try clear p2
            try clear c3
            try clear c3b0
            try clear c4
            try clear c4b0
            try clear p5
            try clear q5
            try clear hx5
            try clear c6
            try clear c6b0
            try clear c6b1
            try clear p6
            try clear p7
            try clear q7
            try clear hx7
            try clear c8
            try clear c8b0
            try clear c8b1
            try clear c10
            try clear c10b0
            try clear c11
            try clear c11b0
            try clear p12
            try clear q12
            try clear hx12
            try clear c13
            try clear c13b0
            try clear c13b1
            try clear p14
            try clear q14
            try clear hx14
            try clear c16
            try clear p1
            try clear p12
            try clear p14
            try clear p2
            try clear p5
            try clear p6
            try clear p7
            try clear q1
            try clear q12
            try clear q14
            try clear q5
            try clear q7
            obtain ⟨kq, x3_14, rfl, HA, HJ14, ⟨mc14, rfl⟩⟩ := hcut
            cases kq with
            | zero => exact absurd HA.out (by simp [dec_span.j3])
            | succ kj14 =>
              have H := HA.out
              clear HA
              simp only [dec_span.j3] at H
              have HC17 := Aside0.mk H
              clear H
              go_upto_block 2 with (fail)
              go_cut [4] (fun v4 wc => ∃ (kq : Nat) (x4_16 : Int), v4 = .int .i64 x4_16 ∧ Aside0 (dec_span.j5 kq a0 x2_1 x3_14 x4_16 = some (r1, r2, r3, r4)) ∧ Aside0 (kq ≤ kj14) ∧ Drawn0 w wc)
              case first =>
                have H := HC17.out
                clear HC17
                have H' := Aside0.mk H
                clear H
                go_wp2
                go_loopg [4] kj14 (fun kq v4 w' => ∃ (x4_4 : Int), v4 = .int .i64 x4_4 ∧ Aside0 (dec_span.l1 kq a0 x2_1 x3_14 x4_4 = some (r1, r2, r3, r4)) ∧ Aside0 (kq ≤ kj14) ∧ Drawn0 w w')
                case atStart => exact ⟨(x3_14), (by first | rfl | (simp; done) | (simp [*]; done)), H', ⟨Nat.le_refl _⟩, by repeat (first | exact Drawn0.refl _ | apply Drawn0.step)⟩
                case round =>
                  clear H'
                  try clear c1
                  try clear p1
                  try clear q1
                  try clear hx1
                  try clear p2
                  try clear c3
                  try clear c3b0
                  try clear c4
                  try clear c4b0
                  try clear p5
                  try clear q5
                  try clear hx5
                  try clear c6
                  try clear c6b0
                  try clear c6b1
                  try clear p6
                  try clear p7
                  try clear q7
                  try clear hx7
                  try clear c8
                  try clear c8b0
                  try clear c8b1
                  try clear c10
                  try clear c10b0
                  try clear c11
                  try clear c11b0
                  try clear p12
                  try clear q12
                  try clear hx12
                  try clear c13
                  try clear c13b0
                  try clear c13b1
                  try clear c14
                  try clear p14
                  try clear q14
                  try clear hx14
                  try clear c16
                  try clear p1
                  try clear p12
                  try clear p14
                  try clear p2
                  try clear p5
                  try clear p6
                  try clear p7
                  try clear q1
                  try clear q12
                  try clear q14
                  try clear q5
                  try clear q7
                  obtain ⟨x4_4, rfl, HA, HK4, ⟨m4, rfl⟩⟩ := hrel
                  cases gk with
                  | zero => exact absurd HA.out (by simp [dec_span.l1])
                  | succ k4 =>
                    have H := HA.out
                    clear HA
                    simp only [dec_span.l1] at H
                    by_cases c18 : x4_4 < (a0.size : Int)
                    · rw [if_pos c18] at H
                      have c18b0 : decide (x4_4 < (a0.size : Int)) = true := decide_eq_true c18
                      clear c18
                      (first | rw [c18b0] | (simp only [i64_w, i32_w]; rw [c18b0]) | skip)
                      by_cases c19 : 0 ≤ x4_4
                      · rw [if_pos c19] at H
                        have c19b0 : decide (0 ≤ x4_4) = true := decide_eq_true c19
                        clear c19
                        by_cases c21 : (bt a0 x4_4) ≥ 48
                        · rw [if_pos c21] at H
                          have c21b0 : decide (48 ≤ (bt a0 x4_4)) = true := decide_eq_true c21
                          clear c21
                          by_cases c23 : (bt a0 x4_4) ≤ 57
                          · rw [if_pos c23] at H
                            have c23b0 : decide ((bt a0 x4_4) ≤ 57) = true := decide_eq_true c23
                            clear c23
                            have H' := Aside0.mk H
                            clear H
                            have p20 : 0 ≤ (x4_4 : Int) := of_decide_eq_true (by first | (with_reducible assumption) | assumption)
                            have q20 : x4_4 < (a0.size : Int) := of_decide_eq_true (by first | (with_reducible assumption) | assumption)
                            have hx20 := bt_at a0 x4_4
                            replace p20 := eq_true p20
                            replace q20 := eq_true q20
                            have p22 : 0 ≤ (x4_4 : Int) := of_decide_eq_true (by first | (with_reducible assumption) | assumption)
                            have q22 : x4_4 < (a0.size : Int) := of_decide_eq_true (by first | (with_reducible assumption) | assumption)
                            have hx22 := bt_at a0 x4_4
                            replace p22 := eq_true p22
                            replace q22 := eq_true q22
                            go_wp2
                            go_roundg k4
                            case measure => have := HJ1.out; have := HJ8.out; have := HJ14.out; have := HK4.out; omega
                            case rel => exact ⟨(wrap64 (x4_4 + 1)), (by first | rfl | (simp; done) | (simp [*]; done)), H', ⟨by have := HJ1.out; have := HJ8.out; have := HJ14.out; have := HK4.out; omega⟩, by repeat (first | exact Drawn0.refl _ | apply Drawn0.step)⟩
                          · rw [if_neg c23] at H
                            have c23b0 : decide ((bt a0 x4_4) ≤ 57) = false := decide_eq_false c23
                            clear c23
                            have H' := Aside0.mk H
                            clear H
                            have p20 : 0 ≤ (x4_4 : Int) := of_decide_eq_true (by first | (with_reducible assumption) | assumption)
                            have q20 : x4_4 < (a0.size : Int) := of_decide_eq_true (by first | (with_reducible assumption) | assumption)
                            have hx20 := bt_at a0 x4_4
                            replace p20 := eq_true p20
                            replace q20 := eq_true q20
                            have p22 : 0 ≤ (x4_4 : Int) := of_decide_eq_true (by first | (with_reducible assumption) | assumption)
                            have q22 : x4_4 < (a0.size : Int) := of_decide_eq_true (by first | (with_reducible assumption) | assumption)
                            have hx22 := bt_at a0 x4_4
                            replace p22 := eq_true p22
                            replace q22 := eq_true q22
                            go_wp2
                            go_meet
                            case rel => exact ⟨_, (x4_4), (by first | rfl | (simp; done) | (simp [*]; done)), H', ⟨by have := HJ1.out; have := HJ8.out; have := HJ14.out; have := HK4.out; first | omega | exact Nat.le_refl _⟩, by repeat (first | exact Drawn0.refl _ | apply Drawn0.step)⟩
                        · rw [if_neg c21] at H
                          have c21b0 : decide (48 ≤ (bt a0 x4_4)) = false := decide_eq_false c21
                          clear c21
                          have H' := Aside0.mk H
                          clear H
                          have p20 : 0 ≤ (x4_4 : Int) := of_decide_eq_true (by first | (with_reducible assumption) | assumption)
                          have q20 : x4_4 < (a0.size : Int) := of_decide_eq_true (by first | (with_reducible assumption) | assumption)
                          have hx20 := bt_at a0 x4_4
                          replace p20 := eq_true p20
                          replace q20 := eq_true q20
                          go_wp2
                          go_meet
                          case rel => exact ⟨_, (x4_4), (by first | rfl | (simp; done) | (simp [*]; done)), H', ⟨by have := HJ1.out; have := HJ8.out; have := HJ14.out; have := HK4.out; first | omega | exact Nat.le_refl _⟩, by repeat (first | exact Drawn0.refl _ | apply Drawn0.step)⟩
                      · rw [if_neg c19] at H
                        exact absurd H (by simp)
                    · rw [if_neg c18] at H
                      have c18b0 : decide (x4_4 < (a0.size : Int)) = false := decide_eq_false c18
                      clear c18
                      (first | rw [c18b0] | (simp only [i64_w, i32_w]; rw [c18b0]) | skip)
                      have H' := Aside0.mk H
                      clear H
                      go_wp2
                      go_meet
                      case rel => exact ⟨_, (x4_4), (by first | rfl | (simp; done) | (simp [*]; done)), H', ⟨by have := HJ1.out; have := HJ8.out; have := HJ14.out; have := HK4.out; first | omega | exact Nat.le_refl _⟩, by repeat (first | exact Drawn0.refl _ | apply Drawn0.step)⟩
              case rest =>
                clear HC17
                try clear c1
                try clear p1
                try clear q1
                try clear hx1
                try clear c2
                try clear p2
                try clear q2
                try clear hx2
                try clear c3
                try clear c3b0
                try clear c4
                try clear c4b0
                try clear p5
                try clear q5
                try clear hx5
                try clear c6
                try clear c6b0
                try clear c6b1
                try clear p6
                try clear p7
                try clear q7
                try clear hx7
                try clear c8
                try clear c8b0
                try clear c8b1
                try clear c10
                try clear c10b0
                try clear c11
                try clear c11b0
                try clear p12
                try clear q12
                try clear hx12
                try clear c13
                try clear c13b0
                try clear c13b1
                try clear c14
                try clear p14
                try clear q14
                try clear hx14
                try clear c16
                try clear c18
                try clear c18b0
                try clear c19
                try clear c19b0
                try clear p20
                try clear q20
                try clear hx20
                try clear c21
                try clear c21b0
                try clear p22
                try clear q22
                try clear hx22
                try clear c23
                try clear c23b0
                try clear p1
                try clear p12
                try clear p14
                try clear p2
                try clear p20
                try clear p22
                try clear p5
                try clear p6
                try clear p7
                try clear q1
                try clear q12
                try clear q14
                try clear q20
                try clear q22
                try clear q5
                try clear q7
                obtain ⟨kq, x4_16, rfl, HA, HJ16, ⟨mc16, rfl⟩⟩ := hcut
                cases kq with
                | zero => exact absurd HA.out (by simp [dec_span.j5])
                | succ kj16 =>
                  have H := HA.out
                  clear HA
                  simp only [dec_span.j5] at H
                  have HC24 := Aside0.mk H
                  clear H
                  go_upto_region 10 with (fail)
                  go_cut [72] (fun v72 wc => ∃ (kq : Nat) (x72_23 : Bool), v72 = .bool x72_23 ∧ Aside0 (dec_span.j6 kq a0 x2_1 x3_14 x4_16 x4_16 x72_23 = some (r1, r2, r3, r4)) ∧ Aside0 (kq ≤ kj16) ∧ Drawn0 w wc)
                  case first =>
                    have H := HC24.out
                    clear HC24
                    by_cases c25 : x4_16 < (a0.size : Int)
                    · rw [if_pos c25] at H
                      have c25b0 : decide (x4_16 < (a0.size : Int)) = true := decide_eq_true c25
                      clear c25
                      (first | rw [c25b0] | (simp only [i64_w, i32_w]; rw [c25b0]) | skip)
                      by_cases c26 : 0 ≤ x4_16
                      · rw [if_pos c26] at H
                        have c26b0 : decide (0 ≤ x4_16) = true := decide_eq_true c26
                        clear c26
                        have H' := Aside0.mk H
                        clear H
                        have p27 : 0 ≤ (x4_16 : Int) := of_decide_eq_true (by first | (with_reducible assumption) | assumption)
                        have q27 : x4_16 < (a0.size : Int) := of_decide_eq_true (by first | (with_reducible assumption) | assumption)
                        have hx27 := bt_at a0 x4_16
                        replace p27 := eq_true p27
                        replace q27 := eq_true q27
                        go_wp2
                        go_meet
                        case rel => exact ⟨_, (((bt a0 x4_16) == 46)), (by first | rfl | (simp; done) | (simp [*]; done)), H', ⟨by have := HJ1.out; have := HJ8.out; have := HJ14.out; have := HJ16.out; first | omega | exact Nat.le_refl _⟩, by repeat (first | exact Drawn0.refl _ | apply Drawn0.step)⟩
                      · rw [if_neg c26] at H
                        exact absurd H (by simp)
                    · rw [if_neg c25] at H
                      have c25b0 : decide (x4_16 < (a0.size : Int)) = false := decide_eq_false c25
                      clear c25
                      (first | rw [c25b0] | (simp only [i64_w, i32_w]; rw [c25b0]) | skip)
                      have H' := Aside0.mk H
                      clear H
                      go_wp2
                      go_meet
                      case rel => exact ⟨_, (false), (by first | rfl | (simp; done) | (simp [*]; done)), H', ⟨by have := HJ1.out; have := HJ8.out; have := HJ14.out; have := HJ16.out; first | omega | exact Nat.le_refl _⟩, by repeat (first | exact Drawn0.refl _ | apply Drawn0.step)⟩
                  case rest =>
                    clear HC24
                    try clear c1
                    try clear p1
                    try clear q1
                    try clear hx1
                    try clear c2
                    try clear p2
                    try clear q2
                    try clear hx2
                    try clear c3
                    try clear c3b0
                    try clear c4
                    try clear c4b0
                    try clear p5
                    try clear q5
                    try clear hx5
                    try clear c6
                    try clear c6b0
                    try clear c6b1
                    try clear p6
                    try clear p7
                    try clear q7
                    try clear hx7
                    try clear c8
                    try clear c8b0
                    try clear c8b1
                    try clear c10
                    try clear c10b0
                    try clear c11
                    try clear c11b0
                    try clear p12
                    try clear q12
                    try clear hx12
                    try clear c13
                    try clear c13b0
                    try clear c13b1
                    try clear c14
                    try clear p14
                    try clear q14
                    try clear hx14
                    try clear c16
                    try clear c18
                    try clear c18b0
                    try clear c19
                    try clear c19b0
                    try clear p20
                    try clear q20
                    try clear hx20
                    try clear c21
                    try clear c21b0
                    try clear p22
                    try clear q22
                    try clear hx22
                    try clear c23
                    try clear c23b0
                    try clear c25
                    try clear c25b0
                    try clear c26
                    try clear c26b0
                    try clear p27
                    try clear q27
                    try clear hx27
                    try clear p1
                    try clear p12
                    try clear p14
                    try clear p2
                    try clear p20
                    try clear p22
                    try clear p27
                    try clear p5
                    try clear p6
                    try clear p7
                    try clear q1
                    try clear q12
                    try clear q14
                    try clear q2
                    try clear q20
                    try clear q22
                    try clear q27
                    try clear q5
                    try clear q7
                    obtain ⟨kq, x72_23, rfl, HA, HJ23, ⟨mc23, rfl⟩⟩ := hcut
                    cases kq with
                    | zero => exact absurd HA.out (by simp [dec_span.j6])
                    | succ kj23 =>
                      have H := HA.out
                      clear HA
                      simp only [dec_span.j6] at H
                      by_cases c28 : x72_23 = true
                      · subst c28
                        have H1 : (dec_span.l2 kj23 a0 x2_1 x3_14 x4_16 (wrap64 (x4_16 + 1))) = some (r1, r2, r3, r4) := by rw [if_pos rfl] at H; exact H
                        clear H
                        have H := H1
                        clear H1
                        have H' := Aside0.mk H
                        clear H
                        go_wp2
                        go_loopg [5] kj23 (fun kq v5 w' => ∃ (x5_6 : Int), v5 = .int .i64 x5_6 ∧ Aside0 (dec_span.l2 kq a0 x2_1 x3_14 x4_16 x5_6 = some (r1, r2, r3, r4)) ∧ Aside0 (kq ≤ kj23) ∧ Drawn0 w w')
                        case atStart => exact ⟨(wrap64 (x4_16 + 1)), (by first | rfl | (simp; done) | (simp [*]; done)), H', ⟨Nat.le_refl _⟩, by repeat (first | exact Drawn0.refl _ | apply Drawn0.step)⟩
                        case round =>
                          clear H'
                          try clear c1
                          try clear p1
                          try clear q1
                          try clear hx1
                          try clear c2
                          try clear p2
                          try clear q2
                          try clear hx2
                          try clear c3
                          try clear c3b0
                          try clear c4
                          try clear c4b0
                          try clear p5
                          try clear q5
                          try clear hx5
                          try clear c6
                          try clear c6b0
                          try clear c6b1
                          try clear p6
                          try clear p7
                          try clear q7
                          try clear hx7
                          try clear c8
                          try clear c8b0
                          try clear c8b1
                          try clear c10
                          try clear c10b0
                          try clear c11
                          try clear c11b0
                          try clear p12
                          try clear q12
                          try clear hx12
                          try clear c13
                          try clear c13b0
                          try clear c13b1
                          try clear c14
                          try clear p14
                          try clear q14
                          try clear hx14
                          try clear c16
                          try clear c18
                          try clear c18b0
                          try clear c19
                          try clear c19b0
                          try clear p20
                          try clear q20
                          try clear hx20
                          try clear c21
                          try clear c21b0
                          try clear p22
                          try clear q22
                          try clear hx22
                          try clear c23
                          try clear c23b0
                          try clear c25
                          try clear c25b0
                          try clear c26
                          try clear c26b0
                          try clear p27
                          try clear q27
                          try clear hx27
                          try clear c28
                          try clear p1
                          try clear p12
                          try clear p14
                          try clear p2
                          try clear p20
                          try clear p22
                          try clear p27
                          try clear p5
                          try clear p6
                          try clear p7
                          try clear q1
                          try clear q12
                          try clear q14
                          try clear q2
                          try clear q20
                          try clear q22
                          try clear q27
                          try clear q5
                          try clear q7
                          obtain ⟨x5_6, rfl, HA, HK6, ⟨m6, rfl⟩⟩ := hrel
                          cases gk with
                          | zero => exact absurd HA.out (by simp [dec_span.l2])
                          | succ k6 =>
                            have H := HA.out
                            clear HA
                            simp only [dec_span.l2] at H
                            by_cases c29 : x5_6 < (a0.size : Int)
                            · rw [if_pos c29] at H
                              have c29b0 : decide (x5_6 < (a0.size : Int)) = true := decide_eq_true c29
                              clear c29
                              by_cases c30 : 0 ≤ x5_6
                              · rw [if_pos c30] at H
                                have c30b0 : decide (0 ≤ x5_6) = true := decide_eq_true c30
                                clear c30
                                by_cases c32 : (bt a0 x5_6) ≥ 48
                                · rw [if_pos c32] at H
                                  have c32b0 : decide (48 ≤ (bt a0 x5_6)) = true := decide_eq_true c32
                                  clear c32
                                  by_cases c34 : (bt a0 x5_6) ≤ 57
                                  · rw [if_pos c34] at H
                                    have c34b0 : decide ((bt a0 x5_6) ≤ 57) = true := decide_eq_true c34
                                    clear c34
                                    have H' := Aside0.mk H
                                    clear H
                                    have p31 : 0 ≤ (x5_6 : Int) := of_decide_eq_true (by first | (with_reducible assumption) | assumption)
                                    have q31 : x5_6 < (a0.size : Int) := of_decide_eq_true (by first | (with_reducible assumption) | assumption)
                                    have hx31 := bt_at a0 x5_6
                                    replace p31 := eq_true p31
                                    replace q31 := eq_true q31
                                    have p33 : 0 ≤ (x5_6 : Int) := of_decide_eq_true (by first | (with_reducible assumption) | assumption)
                                    have q33 : x5_6 < (a0.size : Int) := of_decide_eq_true (by first | (with_reducible assumption) | assumption)
                                    have hx33 := bt_at a0 x5_6
                                    replace p33 := eq_true p33
                                    replace q33 := eq_true q33
                                    go_wp2
                                    go_roundg k6
                                    case measure => have := HJ1.out; have := HJ8.out; have := HJ14.out; have := HJ16.out; have := HJ23.out; have := HK6.out; omega
                                    case rel => exact ⟨(wrap64 (x5_6 + 1)), (by first | rfl | (simp; done) | (simp [*]; done)), H', ⟨by have := HJ1.out; have := HJ8.out; have := HJ14.out; have := HJ16.out; have := HJ23.out; have := HK6.out; omega⟩, by repeat (first | exact Drawn0.refl _ | apply Drawn0.step)⟩
                                  · rw [if_neg c34] at H
                                    have c34b0 : decide ((bt a0 x5_6) ≤ 57) = false := decide_eq_false c34
                                    clear c34
                                    simp only [Option.some.injEq, Prod.mk.injEq] at H
                                    obtain ⟨rfl, rfl, rfl, rfl⟩ := H
                                    have p31 : 0 ≤ (x5_6 : Int) := of_decide_eq_true (by first | (with_reducible assumption) | assumption)
                                    have q31 : x5_6 < (a0.size : Int) := of_decide_eq_true (by first | (with_reducible assumption) | assumption)
                                    have hx31 := bt_at a0 x5_6
                                    replace p31 := eq_true p31
                                    replace q31 := eq_true q31
                                    have p33 : 0 ≤ (x5_6 : Int) := of_decide_eq_true (by first | (with_reducible assumption) | assumption)
                                    have q33 : x5_6 < (a0.size : Int) := of_decide_eq_true (by first | (with_reducible assumption) | assumption)
                                    have hx33 := bt_at a0 x5_6
                                    replace p33 := eq_true p33
                                    replace q33 := eq_true q33
                                    go_wp2
                                    refine bodyPost_ret (results_list (rs := [.tmp 2, .tmp 3, .tmp 4, .tmp 5]) rfl (by simp) (.tmp (.tmp (.tmp (.tmp .nil))))) rfl ?_
                                    exact ⟨by first | rfl | (simp; done) | (simp [*]; done), by repeat (first | exact Drawn0.refl _ | apply Drawn0.step)⟩
                                · rw [if_neg c32] at H
                                  have c32b0 : decide (48 ≤ (bt a0 x5_6)) = false := decide_eq_false c32
                                  clear c32
                                  simp only [Option.some.injEq, Prod.mk.injEq] at H
                                  obtain ⟨rfl, rfl, rfl, rfl⟩ := H
                                  have p31 : 0 ≤ (x5_6 : Int) := of_decide_eq_true (by first | (with_reducible assumption) | assumption)
                                  have q31 : x5_6 < (a0.size : Int) := of_decide_eq_true (by first | (with_reducible assumption) | assumption)
                                  have hx31 := bt_at a0 x5_6
                                  replace p31 := eq_true p31
                                  replace q31 := eq_true q31
                                  go_wp2
                                  refine bodyPost_ret (results_list (rs := [.tmp 2, .tmp 3, .tmp 4, .tmp 5]) rfl (by simp) (.tmp (.tmp (.tmp (.tmp .nil))))) rfl ?_
                                  exact ⟨by first | rfl | (simp; done) | (simp [*]; done), by repeat (first | exact Drawn0.refl _ | apply Drawn0.step)⟩
                              · rw [if_neg c30] at H
                                exact absurd H (by simp)
                            · rw [if_neg c29] at H
                              have c29b0 : decide (x5_6 < (a0.size : Int)) = false := decide_eq_false c29
                              clear c29
                              simp only [Option.some.injEq, Prod.mk.injEq] at H
                              obtain ⟨rfl, rfl, rfl, rfl⟩ := H
                              go_wp2
                              refine bodyPost_ret (results_list (rs := [.tmp 2, .tmp 3, .tmp 4, .tmp 5]) rfl (by simp) (.tmp (.tmp (.tmp (.tmp .nil))))) rfl ?_
                              exact ⟨by first | rfl | (simp; done) | (simp [*]; done), by repeat (first | exact Drawn0.refl _ | apply Drawn0.step)⟩
                      · replace c28 := Bool.eq_false_iff.mpr c28
                        subst c28
                        have H1 : (some (x2_1, x3_14, x4_16, x4_16)) = some (r1, r2, r3, r4) := by rw [if_neg (show ¬ (false = true) by decide)] at H; exact H
                        clear H
                        have H := H1
                        clear H1
                        simp only [Option.some.injEq, Prod.mk.injEq] at H
                        obtain ⟨rfl, rfl, rfl, rfl⟩ := H
                        go_wp2
                        refine bodyPost_ret (results_list (rs := [.tmp 2, .tmp 3, .tmp 4, .tmp 5]) rfl (by simp) (.tmp (.tmp (.tmp (.tmp .nil))))) rfl ?_
                        exact ⟨by first | rfl | (simp; done) | (simp [*]; done), by repeat (first | exact Drawn0.refl _ | apply Drawn0.step)⟩

end Go.Proofs.YtgodmbcebpbdiaaDoor.Q1
