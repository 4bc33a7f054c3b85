/- The Go functions of this part as Lean functions, each with a proof that a call of it comes to just what the Lean function does. Written by a program of the session's. Conditions: none but those in each theorem. -/
import Derived.Test.YthnfmpieoondaaaKQAx0
namespace Go.Proofs.Ythnfmpieoondaaa.QA
open Go.Proofs.Ythnfmpieoondaaa.G
open Go.RowKit Go.Proofs.YthnfmpieoondaaaW.PrintWords Go.Proofs.YthnfmpieoondaaaW.PrintLast Go.Proofs.YthnfmpieoondaaaW.PrintMore
attribute [local go_sem] max2_int min2_int max_two min_two max_three min_three max_four min_four   -- for this text's walks alone
attribute [local go_sem ↓] ix28_0 ix28_1 ia28_0 ia28_1
set_option linter.unusedVariables false
set_option linter.unusedSimpArgs false

/-! ### dragomanref07_Same: function 22 -/
def dragomanref07_Same.l0 : Nat → List ByteArray → List ByteArray → Int → Option (Bool)
  | 0, _, _, _ => none
  | k + 1, x0, x1, x5 => if x5 < (x0.length : Int) then (if 0 ≤ x5 then (if x5 < (x1.length : Int) then (if (rdOf ByteArray.empty x0 x5).toList = (rdOf ByteArray.empty x1 x5).toList then (dragomanref07_Same.l0 k x0 x1 (wrap64 (x5 + 1))) else (some false)) else (none)) else (none)) else (some true)
def dragomanref07_Same.f (k : Nat) (l0 : List ByteArray) (l1 : List ByteArray) : Option (Bool) := if (l0.length : Int) = (l1.length : Int) then (dragomanref07_Same.l0 k l0 l1 0) else (some false)
set_option maxHeartbeats 8000000 in
set_option maxRecDepth 100000 in
theorem dragomanref07_Same.calls (k : Nat) (A0 : Option Addr) (c0 : Nat) (l0 : List ByteArray) (A1 : Option Addr) (c1 : Nat) (l1 : List ByteArray) (r : Bool) (w : World) (hr0 : Kd.C Kd.string w A0 l0.length l0) (hc0 : l0.length ≤ c0) (hr1 : Kd.C Kd.string w A1 l1.length l1) (hc1 : l1.length ≤ c1) (h : dragomanref07_Same.f k l0 l1 = some r) :
    Calls Try.prog 22 #[.slice A0 l0.length c0, .slice A1 l1.length c1] w fun e w' => e = .returned (.bool r) ∧ Drawn0 w w' := by
  have HR0 := Aside0.mk hr0
  have HC0 := Aside0.mk hc0
  clear hr0 hc0
  have HR1 := Aside0.mk hr1
  have HC1 := Aside0.mk hc1
  clear hr1 hc1
  have H : (if (l0.length : Int) = (l1.length : Int) then (dragomanref07_Same.l0 k l0 l1 0) else (some false)) = some r := h
  clear h
  by_cases c3 : (l0.length : Int) = (l1.length : Int)
  · rw [if_pos c3] at H
    have c3b0 : ((l0.length : Int) == (l1.length : Int)) = true := beq_iff_eq.mpr c3
    have c3b1 : ((l0.length : Int) != (l1.length : Int)) = false := bne_eq_false_iff_eq.mpr c3
    have c3b2 : (l0.length == l1.length) = true := by first | simpa using c3 | (simp at c3 ⊢; omega)
    clear c3
    have H' := Aside0.mk H
    clear H
    go_enter Try.func22, Try.ntmps22
    go_wp2
    repeat (go_quiet (fail); try go_wp2)
    go_loopg [5] k (fun kq v5 w' => ∃ (x5_1 : Int), v5 = .int .i64 x5_1 ∧ Aside0 (dragomanref07_Same.l0 kq l0 l1 x5_1 = some r) ∧ Aside0 (kq ≤ k) ∧ Drawn0 w w')
    case atStart => exact ⟨(0), (by first | rfl | (simp; done) | (simp [*]; done)), H', ⟨Nat.le_refl _⟩, by repeat (first | exact Drawn0.refl _ | apply Drawn0.step)⟩
    case round =>
      clear H'
      try clear c1
      try clear c2
      try clear p2
      try clear c3
      try clear c3b0
      try clear c3b1
      try clear c3b2
      obtain ⟨x5_1, rfl, HA, HK1, ⟨m1, rfl⟩⟩ := hrel
      cases gk with
      | zero => exact absurd HA.out (by simp [dragomanref07_Same.l0])
      | succ k1 =>
        have H := HA.out
        clear HA
        simp only [dragomanref07_Same.l0] at H
        by_cases c4 : x5_1 < (l0.length : Int)
        · rw [if_pos c4] at H
          have c4b0 : decide (x5_1 < (l0.length : Int)) = true := decide_eq_true c4
          clear c4
          by_cases c5 : 0 ≤ x5_1
          · rw [if_pos c5] at H
            have c5b0 : decide (0 ≤ x5_1) = true := decide_eq_true c5
            clear c5
            by_cases c6 : x5_1 < (l1.length : Int)
            · rw [if_pos c6] at H
              have c6b0 : decide (x5_1 < (l1.length : Int)) = true := decide_eq_true c6
              clear c6
              by_cases c7 : (rdOf ByteArray.empty l0 x5_1).toList = (rdOf ByteArray.empty l1 x5_1).toList
              · rw [if_pos c7] at H
                have c7b0 : ((rdOf ByteArray.empty l0 x5_1).toList == (rdOf ByteArray.empty l1 x5_1).toList) = true := beq_iff_eq.mpr c7
                have c7b1 : ((rdOf ByteArray.empty l0 x5_1).toList != (rdOf ByteArray.empty l1 x5_1).toList) = false := bne_eq_false_iff_eq.mpr c7
                clear c7
                have H' := Aside0.mk H
                clear H
                have p152 : 0 ≤ (x5_1 : Int) := of_decide_eq_true (by first | (with_reducible assumption) | assumption)
                have q152 : x5_1 < (l0.length : Int) := of_decide_eq_true (by first | (with_reducible assumption) | assumption)
                obtain ⟨ad152, e152, hx152_0⟩ := Kd.at_string HR0.out x5_1 p152 q152
                cases e152
                replace p152 := eq_true p152
                replace q152 := eq_true q152
                have p153 : 0 ≤ (x5_1 : Int) := of_decide_eq_true (by first | (with_reducible assumption) | assumption)
                have q153 : x5_1 < (l1.length : Int) := of_decide_eq_true (by first | (with_reducible assumption) | assumption)
                obtain ⟨ad153, e153, hx153_0⟩ := Kd.at_string HR1.out x5_1 p153 q153
                cases e153
                replace p153 := eq_true p153
                replace q153 := eq_true q153
                go_wp2
                repeat (go_quiet (fail); try go_wp2)
                go_roundg k1
                case measure => have := HK1.out; omega
                case rel => exact ⟨(wrap64 (x5_1 + 1)), (by first | rfl | (simp; done) | (simp [*]; done)), H', ⟨by have := HK1.out; omega⟩, by repeat (first | exact Drawn0.refl _ | apply Drawn0.step)⟩
              · rw [if_neg c7] at H
                have c7b0 : ((rdOf ByteArray.empty l0 x5_1).toList == (rdOf ByteArray.empty l1 x5_1).toList) = false := beq_eq_false_iff_ne.mpr c7
                have c7b1 : ((rdOf ByteArray.empty l0 x5_1).toList != (rdOf ByteArray.empty l1 x5_1).toList) = true := bne_iff_ne.mpr c7
                obtain rfl := Option.some.inj H
                have p152 : 0 ≤ (x5_1 : Int) := of_decide_eq_true (by first | (with_reducible assumption) | assumption)
                have q152 : x5_1 < (l0.length : Int) := of_decide_eq_true (by first | (with_reducible assumption) | assumption)
                obtain ⟨ad152, e152, hx152_0⟩ := Kd.at_string HR0.out x5_1 p152 q152
                cases e152
                replace p152 := eq_true p152
                replace q152 := eq_true q152
                have p153 : 0 ≤ (x5_1 : Int) := of_decide_eq_true (by first | (with_reducible assumption) | assumption)
                have q153 : x5_1 < (l1.length : Int) := of_decide_eq_true (by first | (with_reducible assumption) | assumption)
                obtain ⟨ad153, e153, hx153_0⟩ := Kd.at_string HR1.out x5_1 p153 q153
                cases e153
                replace p153 := eq_true p153
                replace q153 := eq_true q153
                go_wp2
                repeat (go_quiet (fail); try go_wp2)
                go_ret
                exact ⟨by first | rfl | (simp; done) | (simp [*]; done), by repeat (first | exact Drawn0.refl _ | apply Drawn0.step)⟩
            · rw [if_neg c6] at H
              exact absurd H (by simp)
          · rw [if_neg c5] at H
            exact absurd H (by simp)
        · rw [if_neg c4] at H
          have c4b0 : decide (x5_1 < (l0.length : Int)) = false := decide_eq_false c4
          clear c4
          obtain rfl := Option.some.inj H
          go_wp2
          repeat (go_quiet (fail); try go_wp2)
          go_ret
          exact ⟨by first | rfl | (simp; done) | (simp [*]; done), by repeat (first | exact Drawn0.refl _ | apply Drawn0.step)⟩
  · rw [if_neg c3] at H
    have c3b0 : ((l0.length : Int) == (l1.length : Int)) = false := beq_eq_false_iff_ne.mpr c3
    have c3b1 : ((l0.length : Int) != (l1.length : Int)) = true := bne_iff_ne.mpr c3
    have c3b2 : (l0.length == l1.length) = false := by first | simpa using c3 | (simp at c3 ⊢; omega)
    obtain rfl := Option.some.inj H
    go_enter Try.func22, Try.ntmps22
    go_wp2
    repeat (go_quiet (fail); try go_wp2)
    go_ret
    exact ⟨by first | rfl | (simp; done) | (simp [*]; done), by repeat (first | exact Drawn0.refl _ | apply Drawn0.step)⟩

/-! ### dragomanref01_digit: function 70 -/
def dragomanref01_digit.f (a0 : Int) : Option (ByteArray) := if a0 < 10 then (some (strOfNums (([(48 + a0) % 256] : List Int)))) else (some (strOfNums (([(87 + a0) % 256] : List Int))))
/-! ### dragomanref01_Hex: function 58 -/
def dragomanref01_Hex.l0 : Nat → ByteArray → ByteArray → Int → Option (ByteArray)
  | 0, _, _, _ => none
  | k + 1, x0, x3, x4 => if x4 < (x0.size : Int) then (if 0 ≤ x4 then ((dragomanref01_digit.f ((Int.tdiv (bt x0 x4) 16) % 256)).bind fun t160 => (if x3.size + t160.size ≤ 9223372036854775807 then ((dragomanref01_digit.f (Int.tmod (bt x0 x4) 16)).bind fun t161 => (if (x3 ++ t160).size + t161.size ≤ 9223372036854775807 then (dragomanref01_Hex.l0 k x0 ((x3 ++ t160) ++ t161) (wrap64 (x4 + 1))) else (none))) else (none))) else (none)) else (some x3)
def dragomanref01_Hex.f (k : Nat) (a0 : ByteArray) : Option (ByteArray) := dragomanref01_Hex.l0 k a0 (⟨#[120]⟩ : ByteArray) 0
theorem dragomanref01_Hex.mono_l : ∀ k, (∀ y0 y1 y2, LeO (dragomanref01_Hex.l0 k y0 y1 y2) (dragomanref01_Hex.l0 (k + 1) y0 y1 y2))
  | 0 => fun _ _ _ r h => by simp [dragomanref01_Hex.l0] at h
  | k + 1 => by
    have ih0 := dragomanref01_Hex.mono_l k
    · intro y0 y1 y2
      unfold dragomanref01_Hex.l0
      repeat' first
      | (with_reducible exact ih0 _ _ _)
      | (with_reducible exact LeO.refl _)
      | (with_reducible exact LeO.none _)
      | (with_reducible refine LeO.ite ?_ ?_)
      | (with_reducible refine LeO.bind ?_ (fun _ => ?_))
      | exact ih0 _ _ _
      | exact LeO.none _
      | refine LeO.ite ?_ ?_
      | refine LeO.bind ?_ (fun _ => ?_)
theorem dragomanref01_Hex.mono : ∀ a0 k, LeO (dragomanref01_Hex.f k a0) (dragomanref01_Hex.f (k + 1) a0) := by
  intro a0 k
  have ih0 := dragomanref01_Hex.mono_l k
  unfold dragomanref01_Hex.f
  repeat' first
      | (with_reducible exact ih0 _ _ _)
      | (with_reducible exact LeO.refl _)
      | (with_reducible exact LeO.none _)
      | (with_reducible refine LeO.ite ?_ ?_)
      | (with_reducible refine LeO.bind ?_ (fun _ => ?_))
      | exact ih0 _ _ _
      | exact LeO.none _
      | refine LeO.ite ?_ ?_
      | refine LeO.bind ?_ (fun _ => ?_)
/-! ### dragomanref04_Plain: function 40 -/
def dragomanref04_Plain.f (k : Nat) (a0 : Int) : Option (ByteArray) := (some (([a0] : List Int) : List Int)).bind fun y162 => (if a0 = 32 then (some (strOfNums y162)) else (if a0 = 95 then (some (strOfNums y162)) else (if a0 ≥ 48 then (if a0 ≤ 57 then (some (strOfNums y162)) else (if a0 ≥ 65 then (if a0 ≤ 90 then (some (strOfNums y162)) else (if a0 ≥ 97 then (if a0 ≤ 122 then (some (strOfNums y162)) else ((dragomanref01_Hex.f k (strOfNums y162)).bind fun t165 => (if 1 + t165.size ≤ 9223372036854775807 then (some ((⟨#[92]⟩ : ByteArray) ++ t165)) else (none)))) else ((dragomanref01_Hex.f k (strOfNums y162)).bind fun t166 => (if 1 + t166.size ≤ 9223372036854775807 then (some ((⟨#[92]⟩ : ByteArray) ++ t166)) else (none))))) else (if a0 ≥ 97 then (if a0 ≤ 122 then (some (strOfNums y162)) else ((dragomanref01_Hex.f k (strOfNums y162)).bind fun t167 => (if 1 + t167.size ≤ 9223372036854775807 then (some ((⟨#[92]⟩ : ByteArray) ++ t167)) else (none)))) else ((dragomanref01_Hex.f k (strOfNums y162)).bind fun t168 => (if 1 + t168.size ≤ 9223372036854775807 then (some ((⟨#[92]⟩ : ByteArray) ++ t168)) else (none)))))) else (if a0 ≥ 65 then (if a0 ≤ 90 then (some (strOfNums y162)) else (if a0 ≥ 97 then (if a0 ≤ 122 then (some (strOfNums y162)) else ((dragomanref01_Hex.f k (strOfNums y162)).bind fun t169 => (if 1 + t169.size ≤ 9223372036854775807 then (some ((⟨#[92]⟩ : ByteArray) ++ t169)) else (none)))) else ((dragomanref01_Hex.f k (strOfNums y162)).bind fun t170 => (if 1 + t170.size ≤ 9223372036854775807 then (some ((⟨#[92]⟩ : ByteArray) ++ t170)) else (none))))) else (if a0 ≥ 97 then (if a0 ≤ 122 then (some (strOfNums y162)) else ((dragomanref01_Hex.f k (strOfNums y162)).bind fun t171 => (if 1 + t171.size ≤ 9223372036854775807 then (some ((⟨#[92]⟩ : ByteArray) ++ t171)) else (none)))) else ((dragomanref01_Hex.f k (strOfNums y162)).bind fun t172 => (if 1 + t172.size ≤ 9223372036854775807 then (some ((⟨#[92]⟩ : ByteArray) ++ t172)) else (none))))))))
theorem dragomanref04_Plain.mono : ∀ a0 k, LeO (dragomanref04_Plain.f k a0) (dragomanref04_Plain.f (k + 1) a0) := by
  intro a0 k
  unfold dragomanref04_Plain.f
  repeat' first
      | (with_reducible exact dragomanref01_Hex.mono _ _)
      | (with_reducible exact LeO.refl _)
      | (with_reducible exact LeO.none _)
      | (with_reducible refine LeO.ite ?_ ?_)
      | (with_reducible refine LeO.bind ?_ (fun _ => ?_))
      | exact dragomanref01_Hex.mono _ _
      | exact LeO.none _
      | refine LeO.ite ?_ ?_
      | refine LeO.bind ?_ (fun _ => ?_)
end Go.Proofs.Ythnfmpieoondaaa.QA
