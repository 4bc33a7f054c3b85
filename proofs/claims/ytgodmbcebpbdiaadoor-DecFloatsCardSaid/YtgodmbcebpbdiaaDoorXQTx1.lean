/- The Go functions of this part as Lean functions, each with a proof that a call of it comes to just what the Lean function does. Written by a program of the session's. Conditions: none but those in each theorem. -/
import Derived.Test.YtgodmbcebpbdiaaDoorXQTx0
namespace Go.Proofs.YtgodmbcebpbdiaaDoor.QT
open Go.Proofs.YtgodmbcebpbdiaaDoor.G Go.Proofs.YtgodmbcebpbdiaaDoor.R2
open Go.RowKit Go.Proofs.YtgodmbcebpbdiaaDoorW.PrintWords Go.Proofs.YtgodmbcebpbdiaaDoorW.PrintLast Go.Proofs.YtgodmbcebpbdiaaDoorW.PrintMore
attribute [local go_sem] max2_int min2_int max_two min_two max_three min_three max_four min_four   -- for this text's walks alone
set_option linter.unusedVariables false
set_option linter.unusedSimpArgs false

/-! ### dec_split: function 43 -/
def dec_split.f (a0 : Int) : Option (Int × Bool) := if a0 < 0 then (some (IntKind.u64.wrap (-(IntKind.u64.wrap (a0))), true)) else (some (IntKind.u64.wrap (a0), false))
set_option maxHeartbeats 8000000 in
set_option maxRecDepth 100000 in
theorem dec_split.calls (a0 : Int) (r1 : Int) (r2 : Bool) (w : World) (h : dec_split.f a0 = some (r1, r2)) :
    Calls Tryd.prog 43 #[.int .i64 a0] w fun e w' => e = .returned (.tuple #[.int .u64 r1, .bool r2]) ∧ Drawn0 w w' := by
  have H : (if a0 < 0 then (some (IntKind.u64.wrap (-(IntKind.u64.wrap (a0))), true)) else (some (IntKind.u64.wrap (a0), false))) = some (r1, r2) := h
  clear h
  by_cases c2 : a0 < 0
  · rw [if_pos c2] at H
    have c2b0 : decide (a0 < 0) = true := decide_eq_true c2
    clear c2
    simp only [Option.some.injEq, Prod.mk.injEq] at H
    obtain ⟨rfl, rfl⟩ := H
    go_enter Tryd.func43, Tryd.ntmps43
    go_wp2
    go_ret2
    exact ⟨by first | rfl | (simp; done) | (simp [*]; done), by repeat (first | exact Drawn0.refl _ | apply Drawn0.step)⟩
  · rw [if_neg c2] at H
    have c2b0 : decide (a0 < 0) = false := decide_eq_false c2
    clear c2
    simp only [Option.some.injEq, Prod.mk.injEq] at H
    obtain ⟨rfl, rfl⟩ := H
    go_enter Tryd.func43, Tryd.ntmps43
    go_wp2
    go_ret2
    exact ⟨by first | rfl | (simp; done) | (simp [*]; done), by repeat (first | exact Drawn0.refl _ | apply Drawn0.step)⟩

/-! ### strings_trimRightByte: function 57 -/
def strings_trimRightByte.l0 : Nat → ByteArray → Int → Option (ByteArray)
  | 0, _, _ => none
  | k + 1, x0, x1 => if (x0.size : Int) > 0 then (if 0 ≤ (wrap64 ((x0.size : Int) - 1)) then (if (wrap64 ((x0.size : Int) - 1)) < (x0.size : Int) then (if (bt x0 (wrap64 ((x0.size : Int) - 1))) = x1 then (if (wrap64 ((x0.size : Int) - 1)) ≤ (x0.size : Int) then (strings_trimRightByte.l0 k (x0.extract 0 ((wrap64 ((x0.size : Int) - 1)) : Int).toNat) x1) else (none)) else (some x0)) else (none)) else (none)) else (some x0)
def strings_trimRightByte.f (k : Nat) (a0 : ByteArray) (a1 : Int) : Option (ByteArray) := strings_trimRightByte.l0 k a0 a1
set_option maxHeartbeats 8000000 in
set_option maxRecDepth 100000 in
theorem strings_trimRightByte.calls (k : Nat) (a0 : ByteArray) (a1 : Int) (r : ByteArray) (w : World) (h : strings_trimRightByte.f k a0 a1 = some r) :
    Calls Tryd.prog 57 #[.string a0, .int .u8 a1] w fun e w' => e = .returned (.string r) ∧ Drawn0 w w' := by
  have H : (strings_trimRightByte.l0 k a0 a1) = some r := h
  clear h
  have H' := Aside0.mk H
  clear H
  go_enter Tryd.func57, Tryd.ntmps57
  go_wp2
  go_loopg [0] k (fun kq v0 w' => ∃ (x0_1 : ByteArray), v0 = .string x0_1 ∧ Aside0 (strings_trimRightByte.l0 kq x0_1 a1 = some r) ∧ Aside0 (kq ≤ k) ∧ Drawn0 w w')
  case atStart => exact ⟨(a0), (by first | rfl | (simp; done) | (simp [*]; done)), H', ⟨Nat.le_refl _⟩, by repeat (first | exact Drawn0.refl _ | apply Drawn0.step)⟩
  case round =>
    clear H'
    try clear p2
    obtain ⟨x0_1, rfl, HA, HK1, ⟨m1, rfl⟩⟩ := hrel
    cases gk with
    | zero => exact absurd HA.out (by simp [strings_trimRightByte.l0])
    | succ k1 =>
      have H := HA.out
      clear HA
      simp only [strings_trimRightByte.l0] at H
      by_cases c3 : (x0_1.size : Int) > 0
      · rw [if_pos c3] at H
        have c3b0 : decide (0 < (x0_1.size : Int)) = true := decide_eq_true c3
        have c3b1 : decide (0 < x0_1.size) = true := decide_eq_true (by omega)
        clear c3
        obtain ⟨ji4, hji4⟩ : ∃ j_ : Int, (wrap64 ((x0_1.size : Int) - 1)) = j_ := ⟨_, rfl⟩
        replace H : (if 0 ≤ (ji4) then (if (ji4) < (x0_1.size : Int) then (if (bt x0_1 (ji4)) = a1 then (if (ji4) ≤ (x0_1.size : Int) then (strings_trimRightByte.l0 k1 (x0_1.extract 0 ((ji4) : Int).toNat) a1) else (none)) else (some x0_1)) else (none)) else (none)) = some r := by first | (rw [hji4] at H; exact H) | (simp only [hji4] at H ⊢; exact H)
        have hji4w : (IntKind.i64.wrap ((x0_1.size : Int) - 1)) = ji4 := (i64_w _).trans hji4
        by_cases c5 : 0 ≤ (ji4)
        · rw [if_pos c5] at H
          have c5b0 : decide (0 ≤ (ji4)) = true := decide_eq_true c5
          clear c5
          by_cases c6 : (ji4) < (x0_1.size : Int)
          · rw [if_pos c6] at H
            have c6b0 : decide ((ji4) < (x0_1.size : Int)) = true := decide_eq_true c6
            clear c6
            by_cases c8 : (bt x0_1 (ji4)) = a1
            · rw [if_pos c8] at H
              have c8b0 : ((bt x0_1 (ji4)) == a1) = true := beq_iff_eq.mpr c8
              have c8b1 : ((bt x0_1 (ji4)) != a1) = false := bne_eq_false_iff_eq.mpr c8
              clear c8
              have c9b0 := eq_true (of_decide_eq_true (by first | (with_reducible assumption) | assumption) : 0 ≤ (ji4))
              by_cases c10 : (ji4) ≤ (x0_1.size : Int)
              · rw [if_pos c10] at H
                have c10b0 := eq_true c10
                have c10b1 : decide ((ji4) ≤ (x0_1.size : Int)) = true := decide_eq_true c10
                clear c10
                have H' := Aside0.mk H
                clear H
                have p7 : 0 ≤ ((ji4) : Int) := of_decide_eq_true (by first | (with_reducible assumption) | assumption)
                have q7 : (ji4) < (x0_1.size : Int) := of_decide_eq_true (by first | (with_reducible assumption) | assumption)
                have hx7 := bt_at x0_1 (ji4)
                replace p7 := eq_true p7
                replace q7 := eq_true q7
                go_wp2
                go_roundg k1
                case measure => have := HK1.out; omega
                case rel => exact ⟨(x0_1.extract 0 ((ji4) : Int).toNat), (by first | rfl | (simp; done) | (simp only [← hji4] <;> (first | rfl | simp)) | (simp [*]; done)), H', ⟨by have := HK1.out; omega⟩, by repeat (first | exact Drawn0.refl _ | apply Drawn0.step)⟩
              · rw [if_neg c10] at H
                exact absurd H (by simp)
            · rw [if_neg c8] at H
              have c8b0 : ((bt x0_1 (ji4)) == a1) = false := beq_eq_false_iff_ne.mpr c8
              have c8b1 : ((bt x0_1 (ji4)) != a1) = true := bne_iff_ne.mpr c8
              obtain rfl := Option.some.inj H
              have p7 : 0 ≤ ((ji4) : Int) := of_decide_eq_true (by first | (with_reducible assumption) | assumption)
              have q7 : (ji4) < (x0_1.size : Int) := of_decide_eq_true (by first | (with_reducible assumption) | assumption)
              have hx7 := bt_at x0_1 (ji4)
              replace p7 := eq_true p7
              replace q7 := eq_true q7
              go_wp2
              go_ret
              exact ⟨by first | rfl | (simp; done) | (simp only [← hji4] <;> (first | rfl | simp)) | (simp [*]; done), by repeat (first | exact Drawn0.refl _ | apply Drawn0.step)⟩
          · rw [if_neg c6] at H
            exact absurd H (by simp)
        · rw [if_neg c5] at H
          exact absurd H (by simp)
      · rw [if_neg c3] at H
        have c3b0 : decide (0 < (x0_1.size : Int)) = false := decide_eq_false c3
        have c3b1 : decide (0 < x0_1.size) = false := decide_eq_false (by omega)
        clear c3
        obtain rfl := Option.some.inj H
        go_wp2
        go_ret
        exact ⟨by first | rfl | (simp; done) | (simp [*]; done), by repeat (first | exact Drawn0.refl _ | apply Drawn0.step)⟩

/-! ### strings_TrimRight: function 45 -/
mutual
def strings_TrimRight.j0 : Nat → ByteArray → ByteArray → Bool → Option (ByteArray)
  | 0, _, _, _ => none
  | k + 1, x0, x1, x12 => if x12 = true then (some x0) else (if (x1.size : Int) = 1 then (if 0 < (x1.size : Int) then (strings_TrimRight.j1 k x0 x1 (decide ((bt x1 0) < 128))) else (none)) else (strings_TrimRight.j1 k x0 x1 false))
def strings_TrimRight.j1 : Nat → ByteArray → ByteArray → Bool → Option (ByteArray)
  | 0, _, _, _ => none
  | k + 1, x0, x1, x21 => if x21 = true then (if 0 < (x1.size : Int) then ((strings_trimRightByte.f k x0 (bt x1 0)).bind fun t101 => (some t101)) else (none)) else (none)
end
def strings_TrimRight.f (k : Nat) (a0 : ByteArray) (a1 : ByteArray) : Option (ByteArray) := if a0.toList = ([] : List UInt8) then (strings_TrimRight.j0 k a0 a1 true) else (strings_TrimRight.j0 k a0 a1 (a1.toList == ([] : List UInt8)))
set_option maxHeartbeats 8000000 in
set_option maxRecDepth 100000 in
theorem strings_TrimRight.calls (k : Nat) (a0 : ByteArray) (a1 : ByteArray) (r : ByteArray) (w : World) (h : strings_TrimRight.f k a0 a1 = some r) :
    Calls Tryd.prog 45 #[.string a0, .string a1] w fun e w' => e = .returned (.string r) ∧ Below w.heap.size w w' := by
  have HB := Aside0.mk (Below.refl w.heap.size w)
  have H : (if a0.toList = ([] : List UInt8) then (strings_TrimRight.j0 k a0 a1 true) else (strings_TrimRight.j0 k a0 a1 (a1.toList == ([] : List UInt8)))) = some r := h
  clear h
  have HC3 := Aside0.mk H
  clear H
  go_enter Tryd.func45, Tryd.ntmps45
  go_upto_region 1 with (fail)
  go_cut [12] (fun v12 wc => ∃ (kq : Nat) (x12_2 : Bool), v12 = .bool x12_2 ∧ Aside0 (strings_TrimRight.j0 kq a0 a1 x12_2 = some r) ∧ Aside0 (kq ≤ k) ∧ Aside0 (Below w.heap.size w wc))
  case first =>
    have H := HC3.out
    clear HC3
    by_cases c4 : a0.toList = ([] : List UInt8)
    · rw [if_pos c4] at H
      have c4b0 : (a0.toList == ([] : List UInt8)) = true := beq_iff_eq.mpr c4
      have c4b1 : (a0.toList != ([] : List UInt8)) = false := bne_eq_false_iff_eq.mpr c4
      clear c4
      (first | rw [c4b0] | (simp only [i64_w, i32_w]; rw [c4b0]) | skip)
      have H' := Aside0.mk H
      clear H
      go_wp2
      go_meet
      case rel => exact ⟨_, (true), (by first | rfl | (simp; done) | (simp [*]; done)), H', ⟨by first | omega | exact Nat.le_refl _⟩, ⟨by repeat (first | (with_reducible first | exact HB.out | apply below_alloc | apply pw_below_drewN | apply below_drew1) | exact HB.out)⟩⟩
    · rw [if_neg c4] at H
      have c4b0 : (a0.toList == ([] : List UInt8)) = false := beq_eq_false_iff_ne.mpr c4
      have c4b1 : (a0.toList != ([] : List UInt8)) = true := bne_iff_ne.mpr c4
      (first | rw [c4b0] | (simp only [i64_w, i32_w]; rw [c4b0]) | skip)
      have H' := Aside0.mk H
      clear H
      go_wp2
      go_meet
      case rel => exact ⟨_, ((a1.toList == ([] : List UInt8))), (by first | rfl | (simp; done) | (simp [*]; done)), H', ⟨by first | omega | exact Nat.le_refl _⟩, ⟨by repeat (first | (with_reducible first | exact HB.out | apply below_alloc | apply pw_below_drewN | apply below_drew1) | exact HB.out)⟩⟩
  case rest =>
    clear HC3
    try clear p2
    try clear c4
    try clear c4b0
    try clear c4b1
    obtain ⟨kq, x12_2, rfl, HA, HJ2, HB⟩ := hcut
    cases kq with
    | zero => exact absurd HA.out (by simp [strings_TrimRight.j0])
    | succ kj2 =>
      have H := HA.out
      clear HA
      simp only [strings_TrimRight.j0] at H
      by_cases c5 : x12_2 = true
      · subst c5
        have H1 : (some a0) = some r := by rw [if_pos rfl] at H; exact H
        clear H
        have H := H1
        clear H1
        obtain rfl := Option.some.inj H
        go_wp2
        go_ret
        exact ⟨by first | rfl | (simp [errW_none, errW_some] <;> rfl) | (simp [*, errW_none, errW_some] <;> rfl), by repeat (first | (with_reducible first | exact HB.out | apply below_alloc | apply pw_below_drewN | apply below_drew1) | exact HB.out)⟩
      · replace c5 := Bool.eq_false_iff.mpr c5
        subst c5
        have H1 : (if (a1.size : Int) = 1 then (if 0 < (a1.size : Int) then (strings_TrimRight.j1 kj2 a0 a1 (decide ((bt a1 0) < 128))) else (none)) else (strings_TrimRight.j1 kj2 a0 a1 false)) = some r := by rw [if_neg (show ¬ (false = true) by decide)] at H; exact H
        clear H
        have H := H1
        clear H1
        have HC6 := Aside0.mk H
        clear H
        go_upto_region 3 with (fail)
        go_cut [21] (fun v21 wc => ∃ (kq : Nat) (x21_5 : Bool), v21 = .bool x21_5 ∧ Aside0 (strings_TrimRight.j1 kq a0 a1 x21_5 = some r) ∧ Aside0 (kq ≤ kj2) ∧ Aside0 (Below w.heap.size w wc))
        case first =>
          have H := HC6.out
          clear HC6
          by_cases c7 : (a1.size : Int) = 1
          · rw [if_pos c7] at H
            have c7b0 : ((a1.size : Int) == 1) = true := beq_iff_eq.mpr c7
            have c7b1 : ((a1.size : Int) != 1) = false := bne_eq_false_iff_eq.mpr c7
            clear c7
            (first | rw [c7b0] | (simp only [i64_w, i32_w]; rw [c7b0]) | skip)
            by_cases c8 : 0 < (a1.size : Int)
            · rw [if_pos c8] at H
              have c8b0 : decide (0 < (a1.size : Int)) = true := decide_eq_true c8
              have c8b1 : decide (0 < a1.size) = true := decide_eq_true (by omega)
              clear c8
              have H' := Aside0.mk H
              clear H
              have p9 : 0 ≤ (0 : Int) := (by omega)
              have q9 : 0 < a1.size := (by have : (0 : Int) < (a1.size : Int) := of_decide_eq_true (by first | (with_reducible assumption) | assumption); omega)
              have hx9 : ∀ h : 0 < a1.size, ((a1[0]'h).toNat : Int) = bt a1 0 := bt_at a1 0
              clear p9
              have qi9 : (0 < (a1.size : Int)) = True := eq_true (of_decide_eq_true (by first | (with_reducible assumption) | assumption))
              replace q9 := eq_true q9
              go_wp2
              go_meet
              case rel => exact ⟨_, (decide ((bt a1 0) < 128)), (by first | rfl | (simp; done) | (simp [*]; done)), H', ⟨by have := HJ2.out; first | omega | exact Nat.le_refl _⟩, ⟨by repeat (first | (with_reducible first | exact HB.out | apply below_alloc | apply pw_below_drewN | apply below_drew1) | exact HB.out)⟩⟩
            · rw [if_neg c8] at H
              exact absurd H (by simp)
          · rw [if_neg c7] at H
            have c7b0 : ((a1.size : Int) == 1) = false := beq_eq_false_iff_ne.mpr c7
            have c7b1 : ((a1.size : Int) != 1) = true := bne_iff_ne.mpr c7
            (first | rw [c7b0] | (simp only [i64_w, i32_w]; rw [c7b0]) | skip)
            have H' := Aside0.mk H
            clear H
            go_wp2
            go_meet
            case rel => exact ⟨_, (false), (by first | rfl | (simp; done) | (simp [*]; done)), H', ⟨by have := HJ2.out; first | omega | exact Nat.le_refl _⟩, ⟨by repeat (first | (with_reducible first | exact HB.out | apply below_alloc | apply pw_below_drewN | apply below_drew1) | exact HB.out)⟩⟩
        case rest =>
          clear HC6
          try clear p2
          try clear c4
          try clear c4b0
          try clear c4b1
          try clear c5
          try clear c7
          try clear c7b0
          try clear c7b1
          try clear c8
          try clear c8b0
          try clear c8b1
          try clear p9
          try clear q9
          try clear hx9
          try clear qi9
          try clear p2
          try clear p9
          try clear q9
          obtain ⟨kq, x21_5, rfl, HA, HJ5, HB⟩ := hcut
          cases kq with
          | zero => exact absurd HA.out (by simp [strings_TrimRight.j1])
          | succ kj5 =>
            have H := HA.out
            clear HA
            simp only [strings_TrimRight.j1] at H
            by_cases c10 : x21_5 = true
            · subst c10
              have H1 : (if 0 < (a1.size : Int) then ((strings_trimRightByte.f kj5 a0 (bt a1 0)).bind fun t101 => (some t101)) else (none)) = some r := by rw [if_pos rfl] at H; exact H
              clear H
              have H := H1
              clear H1
              by_cases c11 : 0 < (a1.size : Int)
              · rw [if_pos c11] at H
                have c11b0 : decide (0 < (a1.size : Int)) = true := decide_eq_true c11
                have c11b1 : decide (0 < a1.size) = true := decide_eq_true (by omega)
                clear c11
                replace H := Option.bind_eq_some_iff.mp H
                obtain ⟨t101, A130, H⟩ := H
                replace H : (some t101) = some r := H
                have A13 := Aside0.mk A130
                clear A130
                obtain rfl := Option.some.inj H
                have p12 : 0 ≤ (0 : Int) := (by omega)
                have q12 : 0 < a1.size := (by have : (0 : Int) < (a1.size : Int) := of_decide_eq_true (by first | (with_reducible assumption) | assumption); omega)
                have hx12 : ∀ h : 0 < a1.size, ((a1[0]'h).toNat : Int) = bt a1 0 := bt_at a1 0
                clear p12
                have qi12 : (0 < (a1.size : Int)) = True := eq_true (of_decide_eq_true (by first | (with_reducible assumption) | assumption))
                replace q12 := eq_true q12
                go_wp2_with (first | ((with_reducible refine gate_callee (f := 57) rfl ?_); refine goesL_ (some 25) rfl rfl Tryd.func57 (by kernel_rfl) rfl #[.string a0, .int .u8 (bt a1 0)] rfl (by (try simp only [List.map_toArray, List.map_cons, List.map_nil]); first | done | rfl | (simp only [List.length_drop, List.length_take]; rfl)) ?_; (with_reducible refine (strings_trimRightByte.calls kj5 a0 (bt a1 0) t101 _ A13.out).mono ?_); rintro e w' ⟨rfl, ⟨nd, rfl⟩⟩; refine ⟨_, rfl, ?_⟩))
                go_ret
                exact ⟨by first | rfl | (simp [errW_none, errW_some] <;> rfl) | (simp [*, errW_none, errW_some] <;> rfl), by repeat (first | (with_reducible first | exact HB.out | apply below_alloc | apply pw_below_drewN | apply below_drew1) | exact HB.out)⟩
              · rw [if_neg c11] at H
                exact absurd H (by simp)
            · replace c10 := Bool.eq_false_iff.mpr c10
              subst c10
              have H1 : (none) = some r := by rw [if_neg (show ¬ (false = true) by decide)] at H; exact H
              clear H
              have H := H1
              clear H1
              exact absurd H (by simp)

/-! ### dec_Text: function 15 -/
def dec_Text.f (k : Nat) (a0 : Int) : Option (ByteArray) := (dec_split.f a0).bind fun bt102 => ((hex_Figures.f (wrap64 (IntKind.u64.wrap (Int.tdiv bt102.1 1000000)))).bind fun t104 => (if (Int.tmod bt102.1 1000000) = 0 then (if bt102.2 = true then (if 1 + t104.size ≤ 9223372036854775807 then (some ((⟨#[45]⟩ : ByteArray) ++ t104)) else (none)) else (some t104)) else ((hex_Figures.f (wrap64 (IntKind.u64.wrap (1000000 + (Int.tmod bt102.1 1000000))))).bind fun t105 => (if 1 ≤ (t105.size : Int) then ((strings_TrimRight.f k (t105.extract 1 t105.size) (⟨#[48]⟩ : ByteArray)).bind fun t106 => (if 1 + t106.size ≤ 9223372036854775807 then (if t104.size + ((⟨#[46]⟩ : ByteArray) ++ t106).size ≤ 9223372036854775807 then (if bt102.2 = true then (if 1 + (t104 ++ ((⟨#[46]⟩ : ByteArray) ++ t106)).size ≤ 9223372036854775807 then (some ((⟨#[45]⟩ : ByteArray) ++ (t104 ++ ((⟨#[46]⟩ : ByteArray) ++ t106)))) else (none)) else (some (t104 ++ ((⟨#[46]⟩ : ByteArray) ++ t106)))) else (none)) else (none))) else (none)))))
set_option maxHeartbeats 8000000 in
set_option maxRecDepth 100000 in
theorem dec_Text.calls (k : Nat) (a0 : Int) (r : ByteArray) (w : World) (hG : GT w) (h : dec_Text.f k a0 = some r) :
    Calls Tryd.prog 15 #[.int .i64 a0] w fun e w' => e = .returned (.string r) ∧ Below w.heap.size w w' := by
  have HB := Aside0.mk (Below.refl w.heap.size w)
  have H : ((dec_split.f a0).bind fun bt102 => ((hex_Figures.f (wrap64 (IntKind.u64.wrap (Int.tdiv bt102.1 1000000)))).bind fun t104 => (if (Int.tmod bt102.1 1000000) = 0 then (if bt102.2 = true then (if 1 + t104.size ≤ 9223372036854775807 then (some ((⟨#[45]⟩ : ByteArray) ++ t104)) else (none)) else (some t104)) else ((hex_Figures.f (wrap64 (IntKind.u64.wrap (1000000 + (Int.tmod bt102.1 1000000))))).bind fun t105 => (if 1 ≤ (t105.size : Int) then ((strings_TrimRight.f k (t105.extract 1 t105.size) (⟨#[48]⟩ : ByteArray)).bind fun t106 => (if 1 + t106.size ≤ 9223372036854775807 then (if t104.size + ((⟨#[46]⟩ : ByteArray) ++ t106).size ≤ 9223372036854775807 then (if bt102.2 = true then (if 1 + (t104 ++ ((⟨#[46]⟩ : ByteArray) ++ t106)).size ≤ 9223372036854775807 then (some ((⟨#[45]⟩ : ByteArray) ++ (t104 ++ ((⟨#[46]⟩ : ByteArray) ++ t106)))) else (none)) else (some (t104 ++ ((⟨#[46]⟩ : ByteArray) ++ t106)))) else (none)) else (none))) else (none)))))) = some r := h
  clear h
  replace H := Option.bind_eq_some_iff.mp H
  obtain ⟨⟨t102, t103⟩, A20, H⟩ := H
  replace H : ((hex_Figures.f (wrap64 (IntKind.u64.wrap (Int.tdiv t102 1000000)))).bind fun t104 => (if (Int.tmod t102 1000000) = 0 then (if t103 = true then (if 1 + t104.size ≤ 9223372036854775807 then (some ((⟨#[45]⟩ : ByteArray) ++ t104)) else (none)) else (some t104)) else ((hex_Figures.f (wrap64 (IntKind.u64.wrap (1000000 + (Int.tmod t102 1000000))))).bind fun t105 => (if 1 ≤ (t105.size : Int) then ((strings_TrimRight.f k (t105.extract 1 t105.size) (⟨#[48]⟩ : ByteArray)).bind fun t106 => (if 1 + t106.size ≤ 9223372036854775807 then (if t104.size + ((⟨#[46]⟩ : ByteArray) ++ t106).size ≤ 9223372036854775807 then (if t103 = true then (if 1 + (t104 ++ ((⟨#[46]⟩ : ByteArray) ++ t106)).size ≤ 9223372036854775807 then (some ((⟨#[45]⟩ : ByteArray) ++ (t104 ++ ((⟨#[46]⟩ : ByteArray) ++ t106)))) else (none)) else (some (t104 ++ ((⟨#[46]⟩ : ByteArray) ++ t106)))) else (none)) else (none))) else (none))))) = some r := H
  have A2 := Aside0.mk A20
  clear A20
  replace H := Option.bind_eq_some_iff.mp H
  obtain ⟨t104, A30, H⟩ := H
  replace H : (if (Int.tmod t102 1000000) = 0 then (if t103 = true then (if 1 + t104.size ≤ 9223372036854775807 then (some ((⟨#[45]⟩ : ByteArray) ++ t104)) else (none)) else (some t104)) else ((hex_Figures.f (wrap64 (IntKind.u64.wrap (1000000 + (Int.tmod t102 1000000))))).bind fun t105 => (if 1 ≤ (t105.size : Int) then ((strings_TrimRight.f k (t105.extract 1 t105.size) (⟨#[48]⟩ : ByteArray)).bind fun t106 => (if 1 + t106.size ≤ 9223372036854775807 then (if t104.size + ((⟨#[46]⟩ : ByteArray) ++ t106).size ≤ 9223372036854775807 then (if t103 = true then (if 1 + (t104 ++ ((⟨#[46]⟩ : ByteArray) ++ t106)).size ≤ 9223372036854775807 then (some ((⟨#[45]⟩ : ByteArray) ++ (t104 ++ ((⟨#[46]⟩ : ByteArray) ++ t106)))) else (none)) else (some (t104 ++ ((⟨#[46]⟩ : ByteArray) ++ t106)))) else (none)) else (none))) else (none)))) = some r := H
  have A3 := Aside0.mk A30
  clear A30
  by_cases c4 : (Int.tmod t102 1000000) = 0
  · rw [if_pos c4] at H
    have c4b0 : ((Int.tmod t102 1000000) == 0) = true := beq_iff_eq.mpr c4
    have c4b1 : ((Int.tmod t102 1000000) != 0) = false := bne_eq_false_iff_eq.mpr c4
    clear c4
    by_cases c5 : t103 = true
    · subst c5
      have H1 : (if 1 + t104.size ≤ 9223372036854775807 then (some ((⟨#[45]⟩ : ByteArray) ++ t104)) else (none)) = some r := by rw [if_pos rfl] at H; exact H
      clear H
      have H := H1
      clear H1
      by_cases c6 : 1 + t104.size ≤ 9223372036854775807
      · rw [if_pos c6] at H
        have c6b0 := eq_true c6
        have c6b1 : decide (1 + t104.size ≤ 9223372036854775807) = true := decide_eq_true c6
        try have c6b2 : (9223372036854775807 < 1 + t104.size) = False := eq_false (Nat.not_lt.2 c6)
        try (have c6b3 := c6b2; simp only [ByteArray.size_append, ByteArray.size_extract, Nat.min_self] at c6b3)
        try (have c6b4 := c6b2; simp only [ByteArray.size_append, ByteArray.size_extract, Nat.min_self, show (⟨#[46]⟩ : ByteArray).size = 1 from rfl] at c6b4)
        obtain rfl := Option.some.inj H
        go_enter Tryd.func15, Tryd.ntmps15
        go_wp2_with (first | ((with_reducible refine gate_callee (f := 43) rfl ?_); refine goesL_ (some 9) rfl rfl Tryd.func43 (by kernel_rfl) rfl #[.int .i64 a0] rfl (by (try simp only [List.map_toArray, List.map_cons, List.map_nil]); first | done | rfl | (simp only [List.length_drop, List.length_take]; rfl)) ?_; (with_reducible refine (dec_split.calls a0 t102 true _ A2.out).mono ?_); rintro e w' ⟨rfl, ⟨nd, rfl⟩⟩; refine ⟨_, rfl, ?_⟩) | ((with_reducible refine gate_callee (f := 44) rfl ?_); refine goesL_ (some 15) rfl rfl Tryd.func44 (by kernel_rfl) rfl #[.int .i64 (wrap64 (IntKind.u64.wrap (Int.tdiv t102 1000000)))] rfl (by (try simp only [List.map_toArray, List.map_cons, List.map_nil]); first | done | rfl | (simp only [List.length_drop, List.length_take]; rfl)) ?_; (with_reducible refine (hex_Figures.calls (wrap64 (IntKind.u64.wrap (Int.tdiv t102 1000000))) t104 _ ?side1 A3.out).mono ?_); (case side1 => refine GT.below hG ?_; repeat (first | (with_reducible first | exact HB.out | apply below_alloc | apply pw_below_drewN | apply below_drew1) | exact HB.out)); rintro e w7 ⟨rfl, hb⟩; refine ⟨_, rfl, ?_⟩; have n0_ := Aside0.mk (below_step (by repeat (first | (with_reducible first | exact HB.out | apply below_alloc | apply pw_below_drewN | apply below_drew1) | exact HB.out)) hb); clear HB; have HB := n0_; clear n0_; (try clear hb); (try clear hb2); (try clear hk); (try clear hi)))
        go_ret
        exact ⟨by first | rfl | (simp [errW_none, errW_some] <;> rfl) | (simp [*, errW_none, errW_some] <;> rfl), by repeat (first | (with_reducible first | exact HB.out | apply below_alloc | apply pw_below_drewN | apply below_drew1) | exact HB.out)⟩
      · rw [if_neg c6] at H
        exact absurd H (by simp)
    · replace c5 := Bool.eq_false_iff.mpr c5
      subst c5
      have H1 : (some t104) = some r := by rw [if_neg (show ¬ (false = true) by decide)] at H; exact H
      clear H
      have H := H1
      clear H1
      obtain rfl := Option.some.inj H
      go_enter Tryd.func15, Tryd.ntmps15
      go_wp2_with (first | ((with_reducible refine gate_callee (f := 43) rfl ?_); refine goesL_ (some 9) rfl rfl Tryd.func43 (by kernel_rfl) rfl #[.int .i64 a0] rfl (by (try simp only [List.map_toArray, List.map_cons, List.map_nil]); first | done | rfl | (simp only [List.length_drop, List.length_take]; rfl)) ?_; (with_reducible refine (dec_split.calls a0 t102 false _ A2.out).mono ?_); rintro e w' ⟨rfl, ⟨nd, rfl⟩⟩; refine ⟨_, rfl, ?_⟩) | ((with_reducible refine gate_callee (f := 44) rfl ?_); refine goesL_ (some 15) rfl rfl Tryd.func44 (by kernel_rfl) rfl #[.int .i64 (wrap64 (IntKind.u64.wrap (Int.tdiv t102 1000000)))] rfl (by (try simp only [List.map_toArray, List.map_cons, List.map_nil]); first | done | rfl | (simp only [List.length_drop, List.length_take]; rfl)) ?_; (with_reducible refine (hex_Figures.calls (wrap64 (IntKind.u64.wrap (Int.tdiv t102 1000000))) t104 _ ?side1 A3.out).mono ?_); (case side1 => refine GT.below hG ?_; repeat (first | (with_reducible first | exact HB.out | apply below_alloc | apply pw_below_drewN | apply below_drew1) | exact HB.out)); rintro e w8 ⟨rfl, hb⟩; refine ⟨_, rfl, ?_⟩; have n0_ := Aside0.mk (below_step (by repeat (first | (with_reducible first | exact HB.out | apply below_alloc | apply pw_below_drewN | apply below_drew1) | exact HB.out)) hb); clear HB; have HB := n0_; clear n0_; (try clear hb); (try clear hb2); (try clear hk); (try clear hi)))
      go_ret
      exact ⟨by first | rfl | (simp [errW_none, errW_some] <;> rfl) | (simp [*, errW_none, errW_some] <;> rfl), by repeat (first | (with_reducible first | exact HB.out | apply below_alloc | apply pw_below_drewN | apply below_drew1) | exact HB.out)⟩
  · rw [if_neg c4] at H
    have c4b0 : ((Int.tmod t102 1000000) == 0) = false := beq_eq_false_iff_ne.mpr c4
    have c4b1 : ((Int.tmod t102 1000000) != 0) = true := bne_iff_ne.mpr c4
    replace H := Option.bind_eq_some_iff.mp H
    obtain ⟨t105, A90, H⟩ := H
    replace H : (if 1 ≤ (t105.size : Int) then ((strings_TrimRight.f k (t105.extract 1 t105.size) (⟨#[48]⟩ : ByteArray)).bind fun t106 => (if 1 + t106.size ≤ 9223372036854775807 then (if t104.size + ((⟨#[46]⟩ : ByteArray) ++ t106).size ≤ 9223372036854775807 then (if t103 = true then (if 1 + (t104 ++ ((⟨#[46]⟩ : ByteArray) ++ t106)).size ≤ 9223372036854775807 then (some ((⟨#[45]⟩ : ByteArray) ++ (t104 ++ ((⟨#[46]⟩ : ByteArray) ++ t106)))) else (none)) else (some (t104 ++ ((⟨#[46]⟩ : ByteArray) ++ t106)))) else (none)) else (none))) else (none)) = some r := H
    have A9 := Aside0.mk A90
    clear A90
    by_cases c10 : 1 ≤ (t105.size : Int)
    · rw [if_pos c10] at H
      have c10b0 := eq_true c10
      have c10b1 : decide (1 ≤ (t105.size : Int)) = true := decide_eq_true c10
      clear c10
      replace H := Option.bind_eq_some_iff.mp H
      obtain ⟨t106, A110, H⟩ := H
      replace H : (if 1 + t106.size ≤ 9223372036854775807 then (if t104.size + ((⟨#[46]⟩ : ByteArray) ++ t106).size ≤ 9223372036854775807 then (if t103 = true then (if 1 + (t104 ++ ((⟨#[46]⟩ : ByteArray) ++ t106)).size ≤ 9223372036854775807 then (some ((⟨#[45]⟩ : ByteArray) ++ (t104 ++ ((⟨#[46]⟩ : ByteArray) ++ t106)))) else (none)) else (some (t104 ++ ((⟨#[46]⟩ : ByteArray) ++ t106)))) else (none)) else (none)) = some r := H
      have A11 := Aside0.mk A110
      clear A110
      by_cases c12 : 1 + t106.size ≤ 9223372036854775807
      · rw [if_pos c12] at H
        have c12b0 := eq_true c12
        have c12b1 : decide (1 + t106.size ≤ 9223372036854775807) = true := decide_eq_true c12
        try have c12b2 : (9223372036854775807 < 1 + t106.size) = False := eq_false (Nat.not_lt.2 c12)
        try (have c12b3 := c12b2; simp only [ByteArray.size_append, ByteArray.size_extract, Nat.min_self] at c12b3)
        try (have c12b4 := c12b2; simp only [ByteArray.size_append, ByteArray.size_extract, Nat.min_self, show (⟨#[46]⟩ : ByteArray).size = 1 from rfl] at c12b4)
        by_cases c13 : t104.size + ((⟨#[46]⟩ : ByteArray) ++ t106).size ≤ 9223372036854775807
        · rw [if_pos c13] at H
          have c13b0 := eq_true c13
          have c13b1 : decide (t104.size + ((⟨#[46]⟩ : ByteArray) ++ t106).size ≤ 9223372036854775807) = true := decide_eq_true c13
          try have c13b2 : (9223372036854775807 < t104.size + ((⟨#[46]⟩ : ByteArray) ++ t106).size) = False := eq_false (Nat.not_lt.2 c13)
          try (have c13b3 := c13b2; simp only [ByteArray.size_append, ByteArray.size_extract, Nat.min_self] at c13b3)
          try (have c13b4 := c13b2; simp only [ByteArray.size_append, ByteArray.size_extract, Nat.min_self, show (⟨#[46]⟩ : ByteArray).size = 1 from rfl] at c13b4)
          by_cases c14 : t103 = true
          · subst c14
            have H1 : (if 1 + (t104 ++ ((⟨#[46]⟩ : ByteArray) ++ t106)).size ≤ 9223372036854775807 then (some ((⟨#[45]⟩ : ByteArray) ++ (t104 ++ ((⟨#[46]⟩ : ByteArray) ++ t106)))) else (none)) = some r := by rw [if_pos rfl] at H; exact H
            clear H
            have H := H1
            clear H1
            by_cases c15 : 1 + (t104 ++ ((⟨#[46]⟩ : ByteArray) ++ t106)).size ≤ 9223372036854775807
            · rw [if_pos c15] at H
              have c15b0 := eq_true c15
              have c15b1 : decide (1 + (t104 ++ ((⟨#[46]⟩ : ByteArray) ++ t106)).size ≤ 9223372036854775807) = true := decide_eq_true c15
              try have c15b2 : (9223372036854775807 < 1 + (t104 ++ ((⟨#[46]⟩ : ByteArray) ++ t106)).size) = False := eq_false (Nat.not_lt.2 c15)
              try (have c15b3 := c15b2; simp only [ByteArray.size_append, ByteArray.size_extract, Nat.min_self] at c15b3)
              try (have c15b4 := c15b2; simp only [ByteArray.size_append, ByteArray.size_extract, Nat.min_self, show (⟨#[46]⟩ : ByteArray).size = 1 from rfl] at c15b4)
              obtain rfl := Option.some.inj H
              go_enter Tryd.func15, Tryd.ntmps15
              go_wp2_with (first | ((with_reducible refine gate_callee (f := 43) rfl ?_); refine goesL_ (some 9) rfl rfl Tryd.func43 (by kernel_rfl) rfl #[.int .i64 a0] rfl (by (try simp only [List.map_toArray, List.map_cons, List.map_nil]); first | done | rfl | (simp only [List.length_drop, List.length_take]; rfl)) ?_; (with_reducible refine (dec_split.calls a0 t102 true _ A2.out).mono ?_); rintro e w' ⟨rfl, ⟨nd, rfl⟩⟩; refine ⟨_, rfl, ?_⟩) | ((with_reducible refine gate_callee (f := 44) rfl ?_); refine goesL_ (some 15) rfl rfl Tryd.func44 (by kernel_rfl) rfl #[.int .i64 (wrap64 (IntKind.u64.wrap (Int.tdiv t102 1000000)))] rfl (by (try simp only [List.map_toArray, List.map_cons, List.map_nil]); first | done | rfl | (simp only [List.length_drop, List.length_take]; rfl)) ?_; (with_reducible refine (hex_Figures.calls (wrap64 (IntKind.u64.wrap (Int.tdiv t102 1000000))) t104 _ ?side1 A3.out).mono ?_); (case side1 => refine GT.below hG ?_; repeat (first | (with_reducible first | exact HB.out | apply below_alloc | apply pw_below_drewN | apply below_drew1) | exact HB.out)); rintro e w16 ⟨rfl, hb⟩; refine ⟨_, rfl, ?_⟩; have n0_ := Aside0.mk (below_step (by repeat (first | (with_reducible first | exact HB.out | apply below_alloc | apply pw_below_drewN | apply below_drew1) | exact HB.out)) hb); clear HB; have HB := n0_; clear n0_; (try clear hb); (try clear hb2); (try clear hk); (try clear hi)) | ((with_reducible refine gate_callee (f := 44) rfl ?_); refine goesL_ (some 24) rfl rfl Tryd.func44 (by kernel_rfl) rfl #[.int .i64 (wrap64 (IntKind.u64.wrap (1000000 + (Int.tmod t102 1000000))))] rfl (by (try simp only [List.map_toArray, List.map_cons, List.map_nil]); first | done | rfl | (simp only [List.length_drop, List.length_take]; rfl)) ?_; (with_reducible refine (hex_Figures.calls (wrap64 (IntKind.u64.wrap (1000000 + (Int.tmod t102 1000000)))) t105 _ ?side1 A9.out).mono ?_); (case side1 => refine GT.below hG ?_; repeat (first | (with_reducible first | exact HB.out | apply below_alloc | apply pw_below_drewN | apply below_drew1) | exact HB.out)); rintro e w17 ⟨rfl, hb⟩; refine ⟨_, rfl, ?_⟩; have n0_ := Aside0.mk (below_step (by repeat (first | (with_reducible first | exact HB.out | apply below_alloc | apply pw_below_drewN | apply below_drew1) | exact HB.out)) hb); clear HB; have HB := n0_; clear n0_; (try clear hb); (try clear hb2); (try clear hk); (try clear hi)) | ((with_reducible refine gate_callee (f := 45) rfl ?_); refine goesL_ (some 26) rfl rfl Tryd.func45 (by kernel_rfl) rfl #[.string (t105.extract 1 t105.size), .string (⟨#[48]⟩ : ByteArray)] rfl (by (try simp only [List.map_toArray, List.map_cons, List.map_nil]); first | done | rfl | (simp only [List.length_drop, List.length_take]; rfl)) ?_; (with_reducible refine (strings_TrimRight.calls k (t105.extract 1 t105.size) (⟨#[48]⟩ : ByteArray) t106 _ A11.out).mono ?_); rintro e w18 ⟨rfl, hb⟩; refine ⟨_, rfl, ?_⟩; have n0_ := Aside0.mk (below_step (by repeat (first | (with_reducible first | exact HB.out | apply below_alloc | apply pw_below_drewN | apply below_drew1) | exact HB.out)) hb); clear HB; have HB := n0_; clear n0_; (try clear hb); (try clear hb2); (try clear hk); (try clear hi)))
              go_ret
              exact ⟨by first | rfl | (simp [errW_none, errW_some] <;> rfl) | (simp [*, errW_none, errW_some] <;> rfl), by repeat (first | (with_reducible first | exact HB.out | apply below_alloc | apply pw_below_drewN | apply below_drew1) | exact HB.out)⟩
            · rw [if_neg c15] at H
              exact absurd H (by simp)
          · replace c14 := Bool.eq_false_iff.mpr c14
            subst c14
            have H1 : (some (t104 ++ ((⟨#[46]⟩ : ByteArray) ++ t106))) = some r := by rw [if_neg (show ¬ (false = true) by decide)] at H; exact H
            clear H
            have H := H1
            clear H1
            obtain rfl := Option.some.inj H
            go_enter Tryd.func15, Tryd.ntmps15
            go_wp2_with (first | ((with_reducible refine gate_callee (f := 43) rfl ?_); refine goesL_ (some 9) rfl rfl Tryd.func43 (by kernel_rfl) rfl #[.int .i64 a0] rfl (by (try simp only [List.map_toArray, List.map_cons, List.map_nil]); first | done | rfl | (simp only [List.length_drop, List.length_take]; rfl)) ?_; (with_reducible refine (dec_split.calls a0 t102 false _ A2.out).mono ?_); rintro e w' ⟨rfl, ⟨nd, rfl⟩⟩; refine ⟨_, rfl, ?_⟩) | ((with_reducible refine gate_callee (f := 44) rfl ?_); refine goesL_ (some 15) rfl rfl Tryd.func44 (by kernel_rfl) rfl #[.int .i64 (wrap64 (IntKind.u64.wrap (Int.tdiv t102 1000000)))] rfl (by (try simp only [List.map_toArray, List.map_cons, List.map_nil]); first | done | rfl | (simp only [List.length_drop, List.length_take]; rfl)) ?_; (with_reducible refine (hex_Figures.calls (wrap64 (IntKind.u64.wrap (Int.tdiv t102 1000000))) t104 _ ?side1 A3.out).mono ?_); (case side1 => refine GT.below hG ?_; repeat (first | (with_reducible first | exact HB.out | apply below_alloc | apply pw_below_drewN | apply below_drew1) | exact HB.out)); rintro e w19 ⟨rfl, hb⟩; refine ⟨_, rfl, ?_⟩; have n0_ := Aside0.mk (below_step (by repeat (first | (with_reducible first | exact HB.out | apply below_alloc | apply pw_below_drewN | apply below_drew1) | exact HB.out)) hb); clear HB; have HB := n0_; clear n0_; (try clear hb); (try clear hb2); (try clear hk); (try clear hi)) | ((with_reducible refine gate_callee (f := 44) rfl ?_); refine goesL_ (some 24) rfl rfl Tryd.func44 (by kernel_rfl) rfl #[.int .i64 (wrap64 (IntKind.u64.wrap (1000000 + (Int.tmod t102 1000000))))] rfl (by (try simp only [List.map_toArray, List.map_cons, List.map_nil]); first | done | rfl | (simp only [List.length_drop, List.length_take]; rfl)) ?_; (with_reducible refine (hex_Figures.calls (wrap64 (IntKind.u64.wrap (1000000 + (Int.tmod t102 1000000)))) t105 _ ?side1 A9.out).mono ?_); (case side1 => refine GT.below hG ?_; repeat (first | (with_reducible first | exact HB.out | apply below_alloc | apply pw_below_drewN | apply below_drew1) | exact HB.out)); rintro e w20 ⟨rfl, hb⟩; refine ⟨_, rfl, ?_⟩; have n0_ := Aside0.mk (below_step (by repeat (first | (with_reducible first | exact HB.out | apply below_alloc | apply pw_below_drewN | apply below_drew1) | exact HB.out)) hb); clear HB; have HB := n0_; clear n0_; (try clear hb); (try clear hb2); (try clear hk); (try clear hi)) | ((with_reducible refine gate_callee (f := 45) rfl ?_); refine goesL_ (some 26) rfl rfl Tryd.func45 (by kernel_rfl) rfl #[.string (t105.extract 1 t105.size), .string (⟨#[48]⟩ : ByteArray)] rfl (by (try simp only [List.map_toArray, List.map_cons, List.map_nil]); first | done | rfl | (simp only [List.length_drop, List.length_take]; rfl)) ?_; (with_reducible refine (strings_TrimRight.calls k (t105.extract 1 t105.size) (⟨#[48]⟩ : ByteArray) t106 _ A11.out).mono ?_); rintro e w21 ⟨rfl, hb⟩; refine ⟨_, rfl, ?_⟩; have n0_ := Aside0.mk (below_step (by repeat (first | (with_reducible first | exact HB.out | apply below_alloc | apply pw_below_drewN | apply below_drew1) | exact HB.out)) hb); clear HB; have HB := n0_; clear n0_; (try clear hb); (try clear hb2); (try clear hk); (try clear hi)))
            go_ret
            exact ⟨by first | rfl | (simp [errW_none, errW_some] <;> rfl) | (simp [*, errW_none, errW_some] <;> rfl), by repeat (first | (with_reducible first | exact HB.out | apply below_alloc | apply pw_below_drewN | apply below_drew1) | exact HB.out)⟩
        · rw [if_neg c13] at H
          exact absurd H (by simp)
      · rw [if_neg c12] at H
        exact absurd H (by simp)
    · rw [if_neg c10] at H
      exact absurd H (by simp)

/-! ### dragomanlaw02_shown: function 12 -/
def dragomanlaw02_shown.f (k : Nat)  : Option (Bool) := (dec_Read.f (⟨#[45, 49, 46, 53, 48, 120]⟩ : ByteArray)).bind fun bt107 => ((dec_Div.f 1000000 3000000).bind fun bt110 => (if bt107.1 = (-1500000) then (if bt107.2.1 = 5 then (if bt107.2.2 = 0 then ((dec_Text.f k bt107.1).bind fun t112 => (if t112.toList = ([45, 49, 46, 53] : List UInt8) then ((dec_Text.f k bt110.1).bind fun t113 => (if t113.toList = ([48, 46, 51, 51, 51, 51, 51, 51] : List UInt8) then (some (bt110.2 == 0)) else (some false))) else (some false))) else (some false)) else (some false)) else (some false)))
set_option maxHeartbeats 8000000 in
set_option maxRecDepth 100000 in
theorem dragomanlaw02_shown.calls (k : Nat)  (r : Bool) (w : World) (hG : GT w) (h : dragomanlaw02_shown.f k  = some r) :
    Calls Tryd.prog 12 #[] w fun e w' => e = .returned (.bool r) ∧ Below w.heap.size w w' := by
  have HB := Aside0.mk (Below.refl w.heap.size w)
  have H : ((dec_Read.f (⟨#[45, 49, 46, 53, 48, 120]⟩ : ByteArray)).bind fun bt107 => ((dec_Div.f 1000000 3000000).bind fun bt110 => (if bt107.1 = (-1500000) then (if bt107.2.1 = 5 then (if bt107.2.2 = 0 then ((dec_Text.f k bt107.1).bind fun t112 => (if t112.toList = ([45, 49, 46, 53] : List UInt8) then ((dec_Text.f k bt110.1).bind fun t113 => (if t113.toList = ([48, 46, 51, 51, 51, 51, 51, 51] : List UInt8) then (some (bt110.2 == 0)) else (some false))) else (some false))) else (some false)) else (some false)) else (some false)))) = some r := h
  clear h
  replace H := Option.bind_eq_some_iff.mp H
  obtain ⟨⟨t107, t108, t109⟩, A10, H⟩ := H
  replace H : ((dec_Div.f 1000000 3000000).bind fun bt110 => (if t107 = (-1500000) then (if t108 = 5 then (if t109 = 0 then ((dec_Text.f k t107).bind fun t112 => (if t112.toList = ([45, 49, 46, 53] : List UInt8) then ((dec_Text.f k bt110.1).bind fun t113 => (if t113.toList = ([48, 46, 51, 51, 51, 51, 51, 51] : List UInt8) then (some (bt110.2 == 0)) else (some false))) else (some false))) else (some false)) else (some false)) else (some false))) = some r := H
  have A1 := Aside0.mk A10
  clear A10
  replace H := Option.bind_eq_some_iff.mp H
  obtain ⟨⟨t110, t111⟩, A20, H⟩ := H
  replace H : (if t107 = (-1500000) then (if t108 = 5 then (if t109 = 0 then ((dec_Text.f k t107).bind fun t112 => (if t112.toList = ([45, 49, 46, 53] : List UInt8) then ((dec_Text.f k t110).bind fun t113 => (if t113.toList = ([48, 46, 51, 51, 51, 51, 51, 51] : List UInt8) then (some (t111 == 0)) else (some false))) else (some false))) else (some false)) else (some false)) else (some false)) = some r := H
  have A2 := Aside0.mk A20
  clear A20
  by_cases c3 : t107 = (-1500000)
  · rw [if_pos c3] at H
    have c3b0 : (t107 == (-1500000)) = true := beq_iff_eq.mpr c3
    have c3b1 : (t107 != (-1500000)) = false := bne_eq_false_iff_eq.mpr c3
    clear c3
    by_cases c4 : t108 = 5
    · rw [if_pos c4] at H
      have c4b0 : (t108 == 5) = true := beq_iff_eq.mpr c4
      have c4b1 : (t108 != 5) = false := bne_eq_false_iff_eq.mpr c4
      clear c4
      by_cases c5 : t109 = 0
      · rw [if_pos c5] at H
        have c5b0 : (t109 == 0) = true := beq_iff_eq.mpr c5
        have c5b1 : (t109 != 0) = false := bne_eq_false_iff_eq.mpr c5
        clear c5
        replace H := Option.bind_eq_some_iff.mp H
        obtain ⟨t112, A60, H⟩ := H
        replace H : (if t112.toList = ([45, 49, 46, 53] : List UInt8) then ((dec_Text.f k t110).bind fun t113 => (if t113.toList = ([48, 46, 51, 51, 51, 51, 51, 51] : List UInt8) then (some (t111 == 0)) else (some false))) else (some false)) = some r := H
        have A6 := Aside0.mk A60
        clear A60
        by_cases c7 : t112.toList = ([45, 49, 46, 53] : List UInt8)
        · rw [if_pos c7] at H
          have c7b0 : (t112.toList == ([45, 49, 46, 53] : List UInt8)) = true := beq_iff_eq.mpr c7
          have c7b1 : (t112.toList != ([45, 49, 46, 53] : List UInt8)) = false := bne_eq_false_iff_eq.mpr c7
          clear c7
          replace H := Option.bind_eq_some_iff.mp H
          obtain ⟨t113, A80, H⟩ := H
          replace H : (if t113.toList = ([48, 46, 51, 51, 51, 51, 51, 51] : List UInt8) then (some (t111 == 0)) else (some false)) = some r := H
          have A8 := Aside0.mk A80
          clear A80
          by_cases c9 : t113.toList = ([48, 46, 51, 51, 51, 51, 51, 51] : List UInt8)
          · rw [if_pos c9] at H
            have c9b0 : (t113.toList == ([48, 46, 51, 51, 51, 51, 51, 51] : List UInt8)) = true := beq_iff_eq.mpr c9
            have c9b1 : (t113.toList != ([48, 46, 51, 51, 51, 51, 51, 51] : List UInt8)) = false := bne_eq_false_iff_eq.mpr c9
            clear c9
            obtain rfl := Option.some.inj H
            go_enter Tryd.func12, Tryd.ntmps12
            go_wp2_with (first | ((with_reducible refine gate_callee (f := 13) rfl ?_); refine goesL_ (some 7) rfl rfl Tryd.func13 (by kernel_rfl) rfl #[.string (⟨#[45, 49, 46, 53, 48, 120]⟩ : ByteArray)] rfl (by (try simp only [List.map_toArray, List.map_cons, List.map_nil]); first | done | rfl | (simp only [List.length_drop, List.length_take]; rfl)) ?_; (with_reducible refine (dec_Read.calls (⟨#[45, 49, 46, 53, 48, 120]⟩ : ByteArray) t107 t108 t109 _ A1.out).mono ?_); rintro e w10 ⟨rfl, hb⟩; refine ⟨_, rfl, ?_⟩; have n0_ := Aside0.mk (below_step (by repeat (first | (with_reducible first | exact HB.out | apply below_alloc | apply pw_below_drewN | apply below_drew1) | exact HB.out)) hb); clear HB; have HB := n0_; clear n0_; (try clear hb); (try clear hb2); (try clear hk); (try clear hi)) | ((with_reducible refine gate_callee (f := 18) rfl ?_); refine goesL_ (some 12) rfl rfl Tryd.func18 (by kernel_rfl) rfl #[.int .i64 1000000, .int .i64 3000000] rfl (by (try simp only [List.map_toArray, List.map_cons, List.map_nil]); first | done | rfl | (simp only [List.length_drop, List.length_take]; rfl)) ?_; (with_reducible refine (dec_Div.calls 1000000 3000000 t110 t111 _ A2.out).mono ?_); rintro e w11 ⟨rfl, hb⟩; refine ⟨_, rfl, ?_⟩; have n0_ := Aside0.mk (below_step (by repeat (first | (with_reducible first | exact HB.out | apply below_alloc | apply pw_below_drewN | apply below_drew1) | exact HB.out)) hb); clear HB; have HB := n0_; clear n0_; (try clear hb); (try clear hb2); (try clear hk); (try clear hi)) | (go_at_call 15; (with_reducible refine (dec_Text.calls k t107 t112 _ ?side1 A6.out).mono ?_); (case side1 => refine GT.below hG ?_; repeat (first | (with_reducible first | exact HB.out | apply below_alloc | apply pw_below_drewN | apply below_drew1) | exact HB.out)); rintro e w12 ⟨rfl, hb⟩; have n0_ := Aside0.mk (below_step (by repeat (first | (with_reducible first | exact HB.out | apply below_alloc | apply pw_below_drewN | apply below_drew1) | exact HB.out)) hb); clear HB; have HB := n0_; clear n0_; (try clear hb); (try clear hb2); (try clear hk); (try clear hi)) | (go_at_call 15; (with_reducible refine (dec_Text.calls k t110 t113 _ ?side1 A8.out).mono ?_); (case side1 => refine GT.below hG ?_; repeat (first | (with_reducible first | exact HB.out | apply below_alloc | apply pw_below_drewN | apply below_drew1) | exact HB.out)); rintro e w13 ⟨rfl, hb⟩; have n0_ := Aside0.mk (below_step (by repeat (first | (with_reducible first | exact HB.out | apply below_alloc | apply pw_below_drewN | apply below_drew1) | exact HB.out)) hb); clear HB; have HB := n0_; clear n0_; (try clear hb); (try clear hb2); (try clear hk); (try clear hi)))
            go_ret
            exact ⟨by first | rfl | (simp [errW_none, errW_some] <;> rfl) | (simp [*, errW_none, errW_some] <;> rfl), by repeat (first | (with_reducible first | exact HB.out | apply below_alloc | apply pw_below_drewN | apply below_drew1) | exact HB.out)⟩
          · rw [if_neg c9] at H
            have c9b0 : (t113.toList == ([48, 46, 51, 51, 51, 51, 51, 51] : List UInt8)) = false := beq_eq_false_iff_ne.mpr c9
            have c9b1 : (t113.toList != ([48, 46, 51, 51, 51, 51, 51, 51] : List UInt8)) = true := bne_iff_ne.mpr c9
            obtain rfl := Option.some.inj H
            go_enter Tryd.func12, Tryd.ntmps12
            go_wp2_with (first | ((with_reducible refine gate_callee (f := 13) rfl ?_); refine goesL_ (some 7) rfl rfl Tryd.func13 (by kernel_rfl) rfl #[.string (⟨#[45, 49, 46, 53, 48, 120]⟩ : ByteArray)] rfl (by (try simp only [List.map_toArray, List.map_cons, List.map_nil]); first | done | rfl | (simp only [List.length_drop, List.length_take]; rfl)) ?_; (with_reducible refine (dec_Read.calls (⟨#[45, 49, 46, 53, 48, 120]⟩ : ByteArray) t107 t108 t109 _ A1.out).mono ?_); rintro e w14 ⟨rfl, hb⟩; refine ⟨_, rfl, ?_⟩; have n0_ := Aside0.mk (below_step (by repeat (first | (with_reducible first | exact HB.out | apply below_alloc | apply pw_below_drewN | apply below_drew1) | exact HB.out)) hb); clear HB; have HB := n0_; clear n0_; (try clear hb); (try clear hb2); (try clear hk); (try clear hi)) | ((with_reducible refine gate_callee (f := 18) rfl ?_); refine goesL_ (some 12) rfl rfl Tryd.func18 (by kernel_rfl) rfl #[.int .i64 1000000, .int .i64 3000000] rfl (by (try simp only [List.map_toArray, List.map_cons, List.map_nil]); first | done | rfl | (simp only [List.length_drop, List.length_take]; rfl)) ?_; (with_reducible refine (dec_Div.calls 1000000 3000000 t110 t111 _ A2.out).mono ?_); rintro e w15 ⟨rfl, hb⟩; refine ⟨_, rfl, ?_⟩; have n0_ := Aside0.mk (below_step (by repeat (first | (with_reducible first | exact HB.out | apply below_alloc | apply pw_below_drewN | apply below_drew1) | exact HB.out)) hb); clear HB; have HB := n0_; clear n0_; (try clear hb); (try clear hb2); (try clear hk); (try clear hi)) | (go_at_call 15; (with_reducible refine (dec_Text.calls k t107 t112 _ ?side1 A6.out).mono ?_); (case side1 => refine GT.below hG ?_; repeat (first | (with_reducible first | exact HB.out | apply below_alloc | apply pw_below_drewN | apply below_drew1) | exact HB.out)); rintro e w16 ⟨rfl, hb⟩; have n0_ := Aside0.mk (below_step (by repeat (first | (with_reducible first | exact HB.out | apply below_alloc | apply pw_below_drewN | apply below_drew1) | exact HB.out)) hb); clear HB; have HB := n0_; clear n0_; (try clear hb); (try clear hb2); (try clear hk); (try clear hi)) | (go_at_call 15; (with_reducible refine (dec_Text.calls k t110 t113 _ ?side1 A8.out).mono ?_); (case side1 => refine GT.below hG ?_; repeat (first | (with_reducible first | exact HB.out | apply below_alloc | apply pw_below_drewN | apply below_drew1) | exact HB.out)); rintro e w17 ⟨rfl, hb⟩; have n0_ := Aside0.mk (below_step (by repeat (first | (with_reducible first | exact HB.out | apply below_alloc | apply pw_below_drewN | apply below_drew1) | exact HB.out)) hb); clear HB; have HB := n0_; clear n0_; (try clear hb); (try clear hb2); (try clear hk); (try clear hi)))
            go_ret
            exact ⟨by first | rfl | (simp [errW_none, errW_some] <;> rfl) | (simp [*, errW_none, errW_some] <;> rfl), by repeat (first | (with_reducible first | exact HB.out | apply below_alloc | apply pw_below_drewN | apply below_drew1) | exact HB.out)⟩
        · rw [if_neg c7] at H
          have c7b0 : (t112.toList == ([45, 49, 46, 53] : List UInt8)) = false := beq_eq_false_iff_ne.mpr c7
          have c7b1 : (t112.toList != ([45, 49, 46, 53] : List UInt8)) = true := bne_iff_ne.mpr c7
          obtain rfl := Option.some.inj H
          go_enter Tryd.func12, Tryd.ntmps12
          go_wp2_with (first | ((with_reducible refine gate_callee (f := 13) rfl ?_); refine goesL_ (some 7) rfl rfl Tryd.func13 (by kernel_rfl) rfl #[.string (⟨#[45, 49, 46, 53, 48, 120]⟩ : ByteArray)] rfl (by (try simp only [List.map_toArray, List.map_cons, List.map_nil]); first | done | rfl | (simp only [List.length_drop, List.length_take]; rfl)) ?_; (with_reducible refine (dec_Read.calls (⟨#[45, 49, 46, 53, 48, 120]⟩ : ByteArray) t107 t108 t109 _ A1.out).mono ?_); rintro e w18 ⟨rfl, hb⟩; refine ⟨_, rfl, ?_⟩; have n0_ := Aside0.mk (below_step (by repeat (first | (with_reducible first | exact HB.out | apply below_alloc | apply pw_below_drewN | apply below_drew1) | exact HB.out)) hb); clear HB; have HB := n0_; clear n0_; (try clear hb); (try clear hb2); (try clear hk); (try clear hi)) | ((with_reducible refine gate_callee (f := 18) rfl ?_); refine goesL_ (some 12) rfl rfl Tryd.func18 (by kernel_rfl) rfl #[.int .i64 1000000, .int .i64 3000000] rfl (by (try simp only [List.map_toArray, List.map_cons, List.map_nil]); first | done | rfl | (simp only [List.length_drop, List.length_take]; rfl)) ?_; (with_reducible refine (dec_Div.calls 1000000 3000000 t110 t111 _ A2.out).mono ?_); rintro e w19 ⟨rfl, hb⟩; refine ⟨_, rfl, ?_⟩; have n0_ := Aside0.mk (below_step (by repeat (first | (with_reducible first | exact HB.out | apply below_alloc | apply pw_below_drewN | apply below_drew1) | exact HB.out)) hb); clear HB; have HB := n0_; clear n0_; (try clear hb); (try clear hb2); (try clear hk); (try clear hi)) | (go_at_call 15; (with_reducible refine (dec_Text.calls k t107 t112 _ ?side1 A6.out).mono ?_); (case side1 => refine GT.below hG ?_; repeat (first | (with_reducible first | exact HB.out | apply below_alloc | apply pw_below_drewN | apply below_drew1) | exact HB.out)); rintro e w20 ⟨rfl, hb⟩; have n0_ := Aside0.mk (below_step (by repeat (first | (with_reducible first | exact HB.out | apply below_alloc | apply pw_below_drewN | apply below_drew1) | exact HB.out)) hb); clear HB; have HB := n0_; clear n0_; (try clear hb); (try clear hb2); (try clear hk); (try clear hi)))
          go_ret
          exact ⟨by first | rfl | (simp [errW_none, errW_some] <;> rfl) | (simp [*, errW_none, errW_some] <;> rfl), by repeat (first | (with_reducible first | exact HB.out | apply below_alloc | apply pw_below_drewN | apply below_drew1) | exact HB.out)⟩
      · rw [if_neg c5] at H
        have c5b0 : (t109 == 0) = false := beq_eq_false_iff_ne.mpr c5
        have c5b1 : (t109 != 0) = true := bne_iff_ne.mpr c5
        obtain rfl := Option.some.inj H
        go_enter Tryd.func12, Tryd.ntmps12
        go_wp2_with (first | ((with_reducible refine gate_callee (f := 13) rfl ?_); refine goesL_ (some 7) rfl rfl Tryd.func13 (by kernel_rfl) rfl #[.string (⟨#[45, 49, 46, 53, 48, 120]⟩ : ByteArray)] rfl (by (try simp only [List.map_toArray, List.map_cons, List.map_nil]); first | done | rfl | (simp only [List.length_drop, List.length_take]; rfl)) ?_; (with_reducible refine (dec_Read.calls (⟨#[45, 49, 46, 53, 48, 120]⟩ : ByteArray) t107 t108 t109 _ A1.out).mono ?_); rintro e w21 ⟨rfl, hb⟩; refine ⟨_, rfl, ?_⟩; have n0_ := Aside0.mk (below_step (by repeat (first | (with_reducible first | exact HB.out | apply below_alloc | apply pw_below_drewN | apply below_drew1) | exact HB.out)) hb); clear HB; have HB := n0_; clear n0_; (try clear hb); (try clear hb2); (try clear hk); (try clear hi)) | ((with_reducible refine gate_callee (f := 18) rfl ?_); refine goesL_ (some 12) rfl rfl Tryd.func18 (by kernel_rfl) rfl #[.int .i64 1000000, .int .i64 3000000] rfl (by (try simp only [List.map_toArray, List.map_cons, List.map_nil]); first | done | rfl | (simp only [List.length_drop, List.length_take]; rfl)) ?_; (with_reducible refine (dec_Div.calls 1000000 3000000 t110 t111 _ A2.out).mono ?_); rintro e w22 ⟨rfl, hb⟩; refine ⟨_, rfl, ?_⟩; have n0_ := Aside0.mk (below_step (by repeat (first | (with_reducible first | exact HB.out | apply below_alloc | apply pw_below_drewN | apply below_drew1) | exact HB.out)) hb); clear HB; have HB := n0_; clear n0_; (try clear hb); (try clear hb2); (try clear hk); (try clear hi)))
        go_ret
        exact ⟨by first | rfl | (simp [errW_none, errW_some] <;> rfl) | (simp [*, errW_none, errW_some] <;> rfl), by repeat (first | (with_reducible first | exact HB.out | apply below_alloc | apply pw_below_drewN | apply below_drew1) | exact HB.out)⟩
    · rw [if_neg c4] at H
      have c4b0 : (t108 == 5) = false := beq_eq_false_iff_ne.mpr c4
      have c4b1 : (t108 != 5) = true := bne_iff_ne.mpr c4
      obtain rfl := Option.some.inj H
      go_enter Tryd.func12, Tryd.ntmps12
      go_wp2_with (first | ((with_reducible refine gate_callee (f := 13) rfl ?_); refine goesL_ (some 7) rfl rfl Tryd.func13 (by kernel_rfl) rfl #[.string (⟨#[45, 49, 46, 53, 48, 120]⟩ : ByteArray)] rfl (by (try simp only [List.map_toArray, List.map_cons, List.map_nil]); first | done | rfl | (simp only [List.length_drop, List.length_take]; rfl)) ?_; (with_reducible refine (dec_Read.calls (⟨#[45, 49, 46, 53, 48, 120]⟩ : ByteArray) t107 t108 t109 _ A1.out).mono ?_); rintro e w23 ⟨rfl, hb⟩; refine ⟨_, rfl, ?_⟩; have n0_ := Aside0.mk (below_step (by repeat (first | (with_reducible first | exact HB.out | apply below_alloc | apply pw_below_drewN | apply below_drew1) | exact HB.out)) hb); clear HB; have HB := n0_; clear n0_; (try clear hb); (try clear hb2); (try clear hk); (try clear hi)) | ((with_reducible refine gate_callee (f := 18) rfl ?_); refine goesL_ (some 12) rfl rfl Tryd.func18 (by kernel_rfl) rfl #[.int .i64 1000000, .int .i64 3000000] rfl (by (try simp only [List.map_toArray, List.map_cons, List.map_nil]); first | done | rfl | (simp only [List.length_drop, List.length_take]; rfl)) ?_; (with_reducible refine (dec_Div.calls 1000000 3000000 t110 t111 _ A2.out).mono ?_); rintro e w24 ⟨rfl, hb⟩; refine ⟨_, rfl, ?_⟩; have n0_ := Aside0.mk (below_step (by repeat (first | (with_reducible first | exact HB.out | apply below_alloc | apply pw_below_drewN | apply below_drew1) | exact HB.out)) hb); clear HB; have HB := n0_; clear n0_; (try clear hb); (try clear hb2); (try clear hk); (try clear hi)))
      go_ret
      exact ⟨by first | rfl | (simp [errW_none, errW_some] <;> rfl) | (simp [*, errW_none, errW_some] <;> rfl), by repeat (first | (with_reducible first | exact HB.out | apply below_alloc | apply pw_below_drewN | apply below_drew1) | exact HB.out)⟩
  · rw [if_neg c3] at H
    have c3b0 : (t107 == (-1500000)) = false := beq_eq_false_iff_ne.mpr c3
    have c3b1 : (t107 != (-1500000)) = true := bne_iff_ne.mpr c3
    obtain rfl := Option.some.inj H
    go_enter Tryd.func12, Tryd.ntmps12
    go_wp2_with (first | ((with_reducible refine gate_callee (f := 13) rfl ?_); refine goesL_ (some 7) rfl rfl Tryd.func13 (by kernel_rfl) rfl #[.string (⟨#[45, 49, 46, 53, 48, 120]⟩ : ByteArray)] rfl (by (try simp only [List.map_toArray, List.map_cons, List.map_nil]); first | done | rfl | (simp only [List.length_drop, List.length_take]; rfl)) ?_; (with_reducible refine (dec_Read.calls (⟨#[45, 49, 46, 53, 48, 120]⟩ : ByteArray) t107 t108 t109 _ A1.out).mono ?_); rintro e w25 ⟨rfl, hb⟩; refine ⟨_, rfl, ?_⟩; have n0_ := Aside0.mk (below_step (by repeat (first | (with_reducible first | exact HB.out | apply below_alloc | apply pw_below_drewN | apply below_drew1) | exact HB.out)) hb); clear HB; have HB := n0_; clear n0_; (try clear hb); (try clear hb2); (try clear hk); (try clear hi)) | ((with_reducible refine gate_callee (f := 18) rfl ?_); refine goesL_ (some 12) rfl rfl Tryd.func18 (by kernel_rfl) rfl #[.int .i64 1000000, .int .i64 3000000] rfl (by (try simp only [List.map_toArray, List.map_cons, List.map_nil]); first | done | rfl | (simp only [List.length_drop, List.length_take]; rfl)) ?_; (with_reducible refine (dec_Div.calls 1000000 3000000 t110 t111 _ A2.out).mono ?_); rintro e w26 ⟨rfl, hb⟩; refine ⟨_, rfl, ?_⟩; have n0_ := Aside0.mk (below_step (by repeat (first | (with_reducible first | exact HB.out | apply below_alloc | apply pw_below_drewN | apply below_drew1) | exact HB.out)) hb); clear HB; have HB := n0_; clear n0_; (try clear hb); (try clear hb2); (try clear hk); (try clear hi)))
    go_ret
    exact ⟨by first | rfl | (simp [errW_none, errW_some] <;> rfl) | (simp [*, errW_none, errW_some] <;> rfl), by repeat (first | (with_reducible first | exact HB.out | apply below_alloc | apply pw_below_drewN | apply below_drew1) | exact HB.out)⟩

/-! ### dragomanref01_Figures: function 46 -/
end Go.Proofs.YtgodmbcebpbdiaaDoor.QT
