/- Texts of this seat, put together: each part tells above it what it proves and on what conditions. -/
import Derived.Test.YtgodmbcebpbdiaaDoorProg
import Derived.Below
import Derived.Deep.Draws
import Derived.Deep.AppendLies
import Derived.Maps.AppendAt
import Derived.OwnWalk
import Derived.Laws.BytesArg
import Derived.Laws.MakeOwn
import Derived.Laws.OwnMore
import Derived.Deep.OwnRows
import Derived.Tactics
import Derived.Lib.ConvBytes
import Derived.Laws.Slices
import Derived.WalkKit
import Derived.KernelRfl
import Derived.RowKit3
import Derived.Deep.LoopGhost
import Derived.Deep.QuietTactic
import Derived.BigQuiet
import Derived.WideLaws
import Derived.Deep.DeepCutAuto
import Derived.Deep.CutBlock
import Derived.Deep.RegionHeld3
import Derived.Laws.Rows
import Derived.Lib.AppendStr
import Derived.ArgAppend
import Derived.Laws.IdiomCopy
import Derived.OrdersHeld
import Derived.Laws.BitsLemmas
import Derived.RowKit
import Derived.Test.YtgodmbcebpbdiaaDoorBase
import Derived.Test.YtgodmbcebpbdiaaDoorWWords
import Derived.Test.YtgodmbcebpbdiaaDoorWLast
import Derived.Test.YtgodmbcebpbdiaaDoorWTab
import Derived.Test.YtgodmbcebpbdiaaDoorWFour
import Derived.Test.YtgodmbcebpbdiaaDoorWQPut
import Derived.Test.YtgodmbcebpbdiaaDoorWApart
import Derived.Test.YtgodmbcebpbdiaaDoorWArr
import Derived.Test.YtgodmbcebpbdiaaDoorWZeros
import Derived.Test.YtgodmbcebpbdiaaDoorWFoot
import Derived.Test.YtgodmbcebpbdiaaDoorWKept
import Derived.Test.YtgodmbcebpbdiaaDoorWShare
import Derived.Test.YtgodmbcebpbdiaaDoorWN
import Derived.Test.YtgodmbcebpbdiaaDoorWFootNe
import Derived.Test.YtgodmbcebpbdiaaDoorWAt
import Derived.Test.YtgodmbcebpbdiaaDoorWEqStruct
import Derived.Test.YtgodmbcebpbdiaaDoorWRepsOne
import Derived.Test.YtgodmbcebpbdiaaDoorWInv
import Derived.Test.YtgodmbcebpbdiaaDoorWInvWords
import Derived.Test.YtgodmbcebpbdiaaDoorWGuard
import Derived.Test.YtgodmbcebpbdiaaDoorWNEv
import Derived.Test.YtgodmbcebpbdiaaDoorWMore
import Derived.Shelf.Spec.BitsCarry
import Derived.Lib.AtoiErrMem
/- The Go functions of this part as Lean functions, each with a proof that a call of it comes to just what the Lean function does. Written by a program of the session's. Conditions: none but those in each theorem. -/
section
namespace Go.Proofs.YtgodmbcebpbdiaaDoor.Q1
open Go.Proofs.YtgodmbcebpbdiaaDoor.G
open Go.RowKit Go.Proofs.YtgodmbcebpbdiaaDoorW.PrintWords Go.Proofs.YtgodmbcebpbdiaaDoorW.PrintLast Go.Proofs.YtgodmbcebpbdiaaDoorW.PrintMore
attribute [local go_sem] max2_int min2_int max_two min_two max_three min_three max_four min_four   -- for this text's walks alone
set_option linter.unusedVariables false
set_option linter.unusedSimpArgs false



def errW : Option Int → Value
  | none => .nilIface
  | some c => .iface 0 (.int .i64 c)
theorem errW_none : errW none = .nilIface := rfl
theorem errW_some (c : Int) : errW (some c) = .iface 0 (.int .i64 c) := rfl

-- the values' own types

end Go.Proofs.YtgodmbcebpbdiaaDoor.Q1
end

/- The Go functions of this part as Lean functions, each with a proof that a call of it comes to just what the Lean function does. Written by a program of the session's. Conditions: none but those in each theorem. -/
section
namespace Go.Proofs.YtgodmbcebpbdiaaDoor.Q1
open Go.Proofs.YtgodmbcebpbdiaaDoor.G
open Go.RowKit Go.Proofs.YtgodmbcebpbdiaaDoorW.PrintWords Go.Proofs.YtgodmbcebpbdiaaDoorW.PrintLast Go.Proofs.YtgodmbcebpbdiaaDoorW.PrintMore
attribute [local go_sem] max2_int min2_int max_two min_two max_three min_three max_four min_four   -- for this text's walks alone
set_option linter.unusedVariables false
set_option linter.unusedSimpArgs false

/-! ### strings_trimRightByte: function 57 -/
def strings_trimRightByte.l0 : Nat → ByteArray → Int → Option (ByteArray)
  | 0, _, _ => none
  | k + 1, x0, x1 => if (x0.size : Int) > 0 then (if 0 ≤ (wrap64 ((x0.size : Int) - 1)) then (if (wrap64 ((x0.size : Int) - 1)) < (x0.size : Int) then (if (bt x0 (wrap64 ((x0.size : Int) - 1))) = x1 then (if (wrap64 ((x0.size : Int) - 1)) ≤ (x0.size : Int) then (strings_trimRightByte.l0 k (x0.extract 0 ((wrap64 ((x0.size : Int) - 1)) : Int).toNat) x1) else (none)) else (some x0)) else (none)) else (none)) else (some x0)
def strings_trimRightByte.f (k : Nat) (a0 : ByteArray) (a1 : Int) : Option (ByteArray) := strings_trimRightByte.l0 k a0 a1
theorem strings_trimRightByte.mono_l : ∀ k, (∀ y0 y1, LeO (strings_trimRightByte.l0 k y0 y1) (strings_trimRightByte.l0 (k + 1) y0 y1))
  | 0 => fun _ _ r h => by simp [strings_trimRightByte.l0] at h
  | k + 1 => by
    have ih0 := strings_trimRightByte.mono_l k
    · intro y0 y1
      unfold strings_trimRightByte.l0
      repeat' first
      | (with_reducible exact ih0 _ _)
      | (with_reducible exact LeO.refl _)
      | (with_reducible exact LeO.none _)
      | (with_reducible refine LeO.ite ?_ ?_)
      | (with_reducible refine LeO.bind ?_ (fun _ => ?_))
      | exact ih0 _ _
      | exact LeO.none _
      | refine LeO.ite ?_ ?_
      | refine LeO.bind ?_ (fun _ => ?_)
theorem strings_trimRightByte.mono : ∀ a0 a1 k, LeO (strings_trimRightByte.f k a0 a1) (strings_trimRightByte.f (k + 1) a0 a1) := by
  intro a0 a1 k
  have ih0 := strings_trimRightByte.mono_l k
  unfold strings_trimRightByte.f
  repeat' first
      | (with_reducible exact ih0 _ _)
      | (with_reducible exact LeO.refl _)
      | (with_reducible exact LeO.none _)
      | (with_reducible refine LeO.ite ?_ ?_)
      | (with_reducible refine LeO.bind ?_ (fun _ => ?_))
      | exact ih0 _ _
      | exact LeO.none _
      | refine LeO.ite ?_ ?_
      | refine LeO.bind ?_ (fun _ => ?_)
set_option maxHeartbeats 8000000 in
set_option maxRecDepth 100000 in
theorem strings_trimRightByte.calls (k : Nat) (a0 : ByteArray) (a1 : Int) (r : ByteArray) (w : World) (h : strings_trimRightByte.f k a0 a1 = some r) :
    Calls Tryd.prog 57 #[.string a0, .int .u8 a1] w fun e w' => e = .returned (.string r) ∧ Drawn0 w w' := by
  have H : (strings_trimRightByte.l0 k a0 a1) = some r := h
  clear h
  have H' := Aside0.mk H
  clear H
  go_enter Tryd.func57, Tryd.ntmps57
  go_wp2
  go_loopg [0] k (fun kq v0 w' => ∃ (x0_1 : ByteArray), v0 = .string x0_1 ∧ Aside0 (strings_trimRightByte.l0 kq x0_1 a1 = some r) ∧ Aside0 (kq ≤ k) ∧ Drawn0 w w')
  case atStart => exact ⟨(a0), (by first | rfl | (simp; done) | (simp [*]; done)), H', ⟨Nat.le_refl _⟩, by repeat (first | exact Drawn0.refl _ | apply Drawn0.step)⟩
  case round =>
    clear H'
    try clear p2
    obtain ⟨x0_1, rfl, HA, HK1, ⟨m1, rfl⟩⟩ := hrel
    cases gk with
    | zero => exact absurd HA.out (by simp [strings_trimRightByte.l0])
    | succ k1 =>
      have H := HA.out
      clear HA
      simp only [strings_trimRightByte.l0] at H
      by_cases c3 : (x0_1.size : Int) > 0
      · rw [if_pos c3] at H
        have c3b0 : decide (0 < (x0_1.size : Int)) = true := decide_eq_true c3
        have c3b1 : decide (0 < x0_1.size) = true := decide_eq_true (by omega)
        clear c3
        obtain ⟨ji4, hji4⟩ : ∃ j_ : Int, (wrap64 ((x0_1.size : Int) - 1)) = j_ := ⟨_, rfl⟩
        replace H : (if 0 ≤ (ji4) then (if (ji4) < (x0_1.size : Int) then (if (bt x0_1 (ji4)) = a1 then (if (ji4) ≤ (x0_1.size : Int) then (strings_trimRightByte.l0 k1 (x0_1.extract 0 ((ji4) : Int).toNat) a1) else (none)) else (some x0_1)) else (none)) else (none)) = some r := by first | (rw [hji4] at H; exact H) | (simp only [hji4] at H ⊢; exact H)
        have hji4w : (IntKind.i64.wrap ((x0_1.size : Int) - 1)) = ji4 := (i64_w _).trans hji4
        by_cases c5 : 0 ≤ (ji4)
        · rw [if_pos c5] at H
          have c5b0 : decide (0 ≤ (ji4)) = true := decide_eq_true c5
          clear c5
          by_cases c6 : (ji4) < (x0_1.size : Int)
          · rw [if_pos c6] at H
            have c6b0 : decide ((ji4) < (x0_1.size : Int)) = true := decide_eq_true c6
            clear c6
            by_cases c8 : (bt x0_1 (ji4)) = a1
            · rw [if_pos c8] at H
              have c8b0 : ((bt x0_1 (ji4)) == a1) = true := beq_iff_eq.mpr c8
              have c8b1 : ((bt x0_1 (ji4)) != a1) = false := bne_eq_false_iff_eq.mpr c8
              clear c8
              have c9b0 := eq_true (of_decide_eq_true (by first | (with_reducible assumption) | assumption) : 0 ≤ (ji4))
              by_cases c10 : (ji4) ≤ (x0_1.size : Int)
              · rw [if_pos c10] at H
                have c10b0 := eq_true c10
                have c10b1 : decide ((ji4) ≤ (x0_1.size : Int)) = true := decide_eq_true c10
                clear c10
                have H' := Aside0.mk H
                clear H
                have p7 : 0 ≤ ((ji4) : Int) := of_decide_eq_true (by first | (with_reducible assumption) | assumption)
                have q7 : (ji4) < (x0_1.size : Int) := of_decide_eq_true (by first | (with_reducible assumption) | assumption)
                have hx7 := bt_at x0_1 (ji4)
                replace p7 := eq_true p7
                replace q7 := eq_true q7
                go_wp2
                go_roundg k1
                case measure => have := HK1.out; omega
                case rel => exact ⟨(x0_1.extract 0 ((ji4) : Int).toNat), (by first | rfl | (simp; done) | (simp only [← hji4] <;> (first | rfl | simp)) | (simp [*]; done)), H', ⟨by have := HK1.out; omega⟩, by repeat (first | exact Drawn0.refl _ | apply Drawn0.step)⟩
              · rw [if_neg c10] at H
                exact absurd H (by simp)
            · rw [if_neg c8] at H
              have c8b0 : ((bt x0_1 (ji4)) == a1) = false := beq_eq_false_iff_ne.mpr c8
              have c8b1 : ((bt x0_1 (ji4)) != a1) = true := bne_iff_ne.mpr c8
              obtain rfl := Option.some.inj H
              have p7 : 0 ≤ ((ji4) : Int) := of_decide_eq_true (by first | (with_reducible assumption) | assumption)
              have q7 : (ji4) < (x0_1.size : Int) := of_decide_eq_true (by first | (with_reducible assumption) | assumption)
              have hx7 := bt_at x0_1 (ji4)
              replace p7 := eq_true p7
              replace q7 := eq_true q7
              go_wp2
              go_ret
              exact ⟨by first | rfl | (simp; done) | (simp only [← hji4] <;> (first | rfl | simp)) | (simp [*]; done), by repeat (first | exact Drawn0.refl _ | apply Drawn0.step)⟩
          · rw [if_neg c6] at H
            exact absurd H (by simp)
        · rw [if_neg c5] at H
          exact absurd H (by simp)
      · rw [if_neg c3] at H
        have c3b0 : decide (0 < (x0_1.size : Int)) = false := decide_eq_false c3
        have c3b1 : decide (0 < x0_1.size) = false := decide_eq_false (by omega)
        clear c3
        obtain rfl := Option.some.inj H
        go_wp2
        go_ret
        exact ⟨by first | rfl | (simp; done) | (simp [*]; done), by repeat (first | exact Drawn0.refl _ | apply Drawn0.step)⟩

end Go.Proofs.YtgodmbcebpbdiaaDoor.Q1
end

/- The Go functions of this part as Lean functions, each with a proof that a call of it comes to just what the Lean function does. Written by a program of the session's. Conditions: none but those in each theorem. -/
section
namespace Go.Proofs.YtgodmbcebpbdiaaDoor.Q1
open Go.Proofs.YtgodmbcebpbdiaaDoor.G
open Go.RowKit Go.Proofs.YtgodmbcebpbdiaaDoorW.PrintWords Go.Proofs.YtgodmbcebpbdiaaDoorW.PrintLast Go.Proofs.YtgodmbcebpbdiaaDoorW.PrintMore
attribute [local go_sem] max2_int min2_int max_two min_two max_three min_three max_four min_four   -- for this text's walks alone
set_option linter.unusedVariables false
set_option linter.unusedSimpArgs false

/-! ### dec_span: function 35 -/
mutual
def dec_span.j1 : Nat → ByteArray → Int → Option (Int × Int × Int × Int)
  | 0, _, _ => none
  | k + 1, x0, x2 => if x2 < (x0.size : Int) then (if 0 ≤ x2 then (if (bt x0 x2) = 45 then (dec_span.j2 k x0 x2 x2 true) else (dec_span.j2 k x0 x2 x2 ((bt x0 x2) == 43))) else (none)) else (dec_span.j2 k x0 x2 x2 false)
def dec_span.j2 : Nat → ByteArray → Int → Int → Bool → Option (Int × Int × Int × Int)
  | 0, _, _, _, _ => none
  | k + 1, x0, x2, x3, x40 => if x40 = true then (dec_span.j3 k x0 x2 (wrap64 (x3 + 1))) else (dec_span.j3 k x0 x2 x3)
def dec_span.j3 : Nat → ByteArray → Int → Int → Option (Int × Int × Int × Int)
  | 0, _, _, _ => none
  | k + 1, x0, x2, x3 => dec_span.l1 k x0 x2 x3 x3
def dec_span.j5 : Nat → ByteArray → Int → Int → Int → Option (Int × Int × Int × Int)
  | 0, _, _, _, _ => none
  | k + 1, x0, x2, x3, x4 => if x4 < (x0.size : Int) then (if 0 ≤ x4 then (dec_span.j6 k x0 x2 x3 x4 x4 ((bt x0 x4) == 46)) else (none)) else (dec_span.j6 k x0 x2 x3 x4 x4 false)
def dec_span.j6 : Nat → ByteArray → Int → Int → Int → Int → Bool → Option (Int × Int × Int × Int)
  | 0, _, _, _, _, _, _ => none
  | k + 1, x0, x2, x3, x4, x5, x72 => if x72 = true then (dec_span.l2 k x0 x2 x3 x4 (wrap64 (x5 + 1))) else (some (x2, x3, x4, x5))
def dec_span.l2 : Nat → ByteArray → Int → Int → Int → Int → Option (Int × Int × Int × Int)
  | 0, _, _, _, _, _ => none
  | k + 1, x0, x2, x3, x4, x5 => if x5 < (x0.size : Int) then (if 0 ≤ x5 then (if (bt x0 x5) ≥ 48 then (if (bt x0 x5) ≤ 57 then (dec_span.l2 k x0 x2 x3 x4 (wrap64 (x5 + 1))) else (some (x2, x3, x4, x5))) else (some (x2, x3, x4, x5))) else (none)) else (some (x2, x3, x4, x5))
def dec_span.l1 : Nat → ByteArray → Int → Int → Int → Option (Int × Int × Int × Int)
  | 0, _, _, _, _ => none
  | k + 1, x0, x2, x3, x4 => if x4 < (x0.size : Int) then (if 0 ≤ x4 then (if (bt x0 x4) ≥ 48 then (if (bt x0 x4) ≤ 57 then (dec_span.l1 k x0 x2 x3 (wrap64 (x4 + 1))) else (dec_span.j5 k x0 x2 x3 x4)) else (dec_span.j5 k x0 x2 x3 x4)) else (none)) else (dec_span.j5 k x0 x2 x3 x4)
def dec_span.l0 : Nat → ByteArray → Int → Option (Int × Int × Int × Int)
  | 0, _, _ => none
  | k + 1, x0, x2 => if x2 < (x0.size : Int) then (if 0 ≤ x2 then (if (bt x0 x2) = 32 then (dec_span.l0 k x0 (wrap64 (x2 + 1))) else (if (bt x0 x2) = 9 then (dec_span.l0 k x0 (wrap64 (x2 + 1))) else (dec_span.j1 k x0 x2))) else (none)) else (dec_span.j1 k x0 x2)
end
def dec_span.f (k : Nat) (a0 : ByteArray) : Option (Int × Int × Int × Int) := dec_span.l0 k a0 0
theorem dec_span.mono_l : ∀ k, (∀ y0 y1, LeO (dec_span.j1 k y0 y1) (dec_span.j1 (k + 1) y0 y1)) ∧ (∀ y0 y1 y2 y3, LeO (dec_span.j2 k y0 y1 y2 y3) (dec_span.j2 (k + 1) y0 y1 y2 y3)) ∧ (∀ y0 y1 y2, LeO (dec_span.j3 k y0 y1 y2) (dec_span.j3 (k + 1) y0 y1 y2)) ∧ (∀ y0 y1 y2 y3, LeO (dec_span.j5 k y0 y1 y2 y3) (dec_span.j5 (k + 1) y0 y1 y2 y3)) ∧ (∀ y0 y1 y2 y3 y4 y5, LeO (dec_span.j6 k y0 y1 y2 y3 y4 y5) (dec_span.j6 (k + 1) y0 y1 y2 y3 y4 y5)) ∧ (∀ y0 y1 y2 y3 y4, LeO (dec_span.l2 k y0 y1 y2 y3 y4) (dec_span.l2 (k + 1) y0 y1 y2 y3 y4)) ∧ (∀ y0 y1 y2 y3, LeO (dec_span.l1 k y0 y1 y2 y3) (dec_span.l1 (k + 1) y0 y1 y2 y3)) ∧ (∀ y0 y1, LeO (dec_span.l0 k y0 y1) (dec_span.l0 (k + 1) y0 y1))
  | 0 => ⟨fun _ _ r h => by simp [dec_span.j1] at h, fun _ _ _ _ r h => by simp [dec_span.j2] at h, fun _ _ _ r h => by simp [dec_span.j3] at h, fun _ _ _ _ r h => by simp [dec_span.j5] at h, fun _ _ _ _ _ _ r h => by simp [dec_span.j6] at h, fun _ _ _ _ _ r h => by simp [dec_span.l2] at h, fun _ _ _ _ r h => by simp [dec_span.l1] at h, fun _ _ r h => by simp [dec_span.l0] at h⟩
  | k + 1 => by
    obtain ⟨ih0, ih1, ih2, ih3, ih4, ih5, ih6, ih7⟩ := dec_span.mono_l k
    refine ⟨?_, ?_, ?_, ?_, ?_, ?_, ?_, ?_⟩
    · intro y0 y1
      unfold dec_span.j1
      repeat' first
      | (with_reducible exact ih0 _ _)
      | (with_reducible exact ih1 _ _ _ _)
      | (with_reducible exact ih2 _ _ _)
      | (with_reducible exact ih3 _ _ _ _)
      | (with_reducible exact ih4 _ _ _ _ _ _)
      | (with_reducible exact ih5 _ _ _ _ _)
      | (with_reducible exact ih6 _ _ _ _)
      | (with_reducible exact ih7 _ _)
      | (with_reducible exact LeO.refl _)
      | (with_reducible exact LeO.none _)
      | (with_reducible refine LeO.ite ?_ ?_)
      | (with_reducible refine LeO.bind ?_ (fun _ => ?_))
      | exact ih0 _ _
      | exact ih1 _ _ _ _
      | exact ih2 _ _ _
      | exact ih3 _ _ _ _
      | exact ih4 _ _ _ _ _ _
      | exact ih5 _ _ _ _ _
      | exact ih6 _ _ _ _
      | exact ih7 _ _
      | exact LeO.none _
      | refine LeO.ite ?_ ?_
      | refine LeO.bind ?_ (fun _ => ?_)
    · intro y0 y1 y2 y3
      unfold dec_span.j2
      repeat' first
      | (with_reducible exact ih0 _ _)
      | (with_reducible exact ih1 _ _ _ _)
      | (with_reducible exact ih2 _ _ _)
      | (with_reducible exact ih3 _ _ _ _)
      | (with_reducible exact ih4 _ _ _ _ _ _)
      | (with_reducible exact ih5 _ _ _ _ _)
      | (with_reducible exact ih6 _ _ _ _)
      | (with_reducible exact ih7 _ _)
      | (with_reducible exact LeO.refl _)
      | (with_reducible exact LeO.none _)
      | (with_reducible refine LeO.ite ?_ ?_)
      | (with_reducible refine LeO.bind ?_ (fun _ => ?_))
      | exact ih0 _ _
      | exact ih1 _ _ _ _
      | exact ih2 _ _ _
      | exact ih3 _ _ _ _
      | exact ih4 _ _ _ _ _ _
      | exact ih5 _ _ _ _ _
      | exact ih6 _ _ _ _
      | exact ih7 _ _
      | exact LeO.none _
      | refine LeO.ite ?_ ?_
      | refine LeO.bind ?_ (fun _ => ?_)
    · intro y0 y1 y2
      unfold dec_span.j3
      repeat' first
      | (with_reducible exact ih0 _ _)
      | (with_reducible exact ih1 _ _ _ _)
      | (with_reducible exact ih2 _ _ _)
      | (with_reducible exact ih3 _ _ _ _)
      | (with_reducible exact ih4 _ _ _ _ _ _)
      | (with_reducible exact ih5 _ _ _ _ _)
      | (with_reducible exact ih6 _ _ _ _)
      | (with_reducible exact ih7 _ _)
      | (with_reducible exact LeO.refl _)
      | (with_reducible exact LeO.none _)
      | (with_reducible refine LeO.ite ?_ ?_)
      | (with_reducible refine LeO.bind ?_ (fun _ => ?_))
      | exact ih0 _ _
      | exact ih1 _ _ _ _
      | exact ih2 _ _ _
      | exact ih3 _ _ _ _
      | exact ih4 _ _ _ _ _ _
      | exact ih5 _ _ _ _ _
      | exact ih6 _ _ _ _
      | exact ih7 _ _
      | exact LeO.none _
      | refine LeO.ite ?_ ?_
      | refine LeO.bind ?_ (fun _ => ?_)
    · intro y0 y1 y2 y3
      unfold dec_span.j5
      repeat' first
      | (with_reducible exact ih0 _ _)
      | (with_reducible exact ih1 _ _ _ _)
      | (with_reducible exact ih2 _ _ _)
      | (with_reducible exact ih3 _ _ _ _)
      | (with_reducible exact ih4 _ _ _ _ _ _)
      | (with_reducible exact ih5 _ _ _ _ _)
      | (with_reducible exact ih6 _ _ _ _)
      | (with_reducible exact ih7 _ _)
      | (with_reducible exact LeO.refl _)
      | (with_reducible exact LeO.none _)
      | (with_reducible refine LeO.ite ?_ ?_)
      | (with_reducible refine LeO.bind ?_ (fun _ => ?_))
      | exact ih0 _ _
      | exact ih1 _ _ _ _
      | exact ih2 _ _ _
      | exact ih3 _ _ _ _
      | exact ih4 _ _ _ _ _ _
      | exact ih5 _ _ _ _ _
      | exact ih6 _ _ _ _
      | exact ih7 _ _
      | exact LeO.none _
      | refine LeO.ite ?_ ?_
      | refine LeO.bind ?_ (fun _ => ?_)
    · intro y0 y1 y2 y3 y4 y5
      unfold dec_span.j6
      repeat' first
      | (with_reducible exact ih0 _ _)
      | (with_reducible exact ih1 _ _ _ _)
      | (with_reducible exact ih2 _ _ _)
      | (with_reducible exact ih3 _ _ _ _)
      | (with_reducible exact ih4 _ _ _ _ _ _)
      | (with_reducible exact ih5 _ _ _ _ _)
      | (with_reducible exact ih6 _ _ _ _)
      | (with_reducible exact ih7 _ _)
      | (with_reducible exact LeO.refl _)
      | (with_reducible exact LeO.none _)
      | (with_reducible refine LeO.ite ?_ ?_)
      | (with_reducible refine LeO.bind ?_ (fun _ => ?_))
      | exact ih0 _ _
      | exact ih1 _ _ _ _
      | exact ih2 _ _ _
      | exact ih3 _ _ _ _
      | exact ih4 _ _ _ _ _ _
      | exact ih5 _ _ _ _ _
      | exact ih6 _ _ _ _
      | exact ih7 _ _
      | exact LeO.none _
      | refine LeO.ite ?_ ?_
      | refine LeO.bind ?_ (fun _ => ?_)
    · intro y0 y1 y2 y3 y4
      unfold dec_span.l2
      repeat' first
      | (with_reducible exact ih0 _ _)
      | (with_reducible exact ih1 _ _ _ _)
      | (with_reducible exact ih2 _ _ _)
      | (with_reducible exact ih3 _ _ _ _)
      | (with_reducible exact ih4 _ _ _ _ _ _)
      | (with_reducible exact ih5 _ _ _ _ _)
      | (with_reducible exact ih6 _ _ _ _)
      | (with_reducible exact ih7 _ _)
      | (with_reducible exact LeO.refl _)
      | (with_reducible exact LeO.none _)
      | (with_reducible refine LeO.ite ?_ ?_)
      | (with_reducible refine LeO.bind ?_ (fun _ => ?_))
      | exact ih0 _ _
      | exact ih1 _ _ _ _
      | exact ih2 _ _ _
      | exact ih3 _ _ _ _
      | exact ih4 _ _ _ _ _ _
      | exact ih5 _ _ _ _ _
      | exact ih6 _ _ _ _
      | exact ih7 _ _
      | exact LeO.none _
      | refine LeO.ite ?_ ?_
      | refine LeO.bind ?_ (fun _ => ?_)
    · intro y0 y1 y2 y3
      unfold dec_span.l1
      repeat' first
      | (with_reducible exact ih0 _ _)
      | (with_reducible exact ih1 _ _ _ _)
      | (with_reducible exact ih2 _ _ _)
      | (with_reducible exact ih3 _ _ _ _)
      | (with_reducible exact ih4 _ _ _ _ _ _)
      | (with_reducible exact ih5 _ _ _ _ _)
      | (with_reducible exact ih6 _ _ _ _)
      | (with_reducible exact ih7 _ _)
      | (with_reducible exact LeO.refl _)
      | (with_reducible exact LeO.none _)
      | (with_reducible refine LeO.ite ?_ ?_)
      | (with_reducible refine LeO.bind ?_ (fun _ => ?_))
      | exact ih0 _ _
      | exact ih1 _ _ _ _
      | exact ih2 _ _ _
      | exact ih3 _ _ _ _
      | exact ih4 _ _ _ _ _ _
      | exact ih5 _ _ _ _ _
      | exact ih6 _ _ _ _
      | exact ih7 _ _
      | exact LeO.none _
      | refine LeO.ite ?_ ?_
      | refine LeO.bind ?_ (fun _ => ?_)
    · intro y0 y1
      unfold dec_span.l0
      repeat' first
      | (with_reducible exact ih0 _ _)
      | (with_reducible exact ih1 _ _ _ _)
      | (with_reducible exact ih2 _ _ _)
      | (with_reducible exact ih3 _ _ _ _)
      | (with_reducible exact ih4 _ _ _ _ _ _)
      | (with_reducible exact ih5 _ _ _ _ _)
      | (with_reducible exact ih6 _ _ _ _)
      | (with_reducible exact ih7 _ _)
      | (with_reducible exact LeO.refl _)
      | (with_reducible exact LeO.none _)
      | (with_reducible refine LeO.ite ?_ ?_)
      | (with_reducible refine LeO.bind ?_ (fun _ => ?_))
      | exact ih0 _ _
      | exact ih1 _ _ _ _
      | exact ih2 _ _ _
      | exact ih3 _ _ _ _
      | exact ih4 _ _ _ _ _ _
      | exact ih5 _ _ _ _ _
      | exact ih6 _ _ _ _
      | exact ih7 _ _
      | exact LeO.none _
      | refine LeO.ite ?_ ?_
      | refine LeO.bind ?_ (fun _ => ?_)
theorem dec_span.mono : ∀ a0 k, LeO (dec_span.f k a0) (dec_span.f (k + 1) a0) := by
  intro a0 k
  obtain ⟨ih0, ih1, ih2, ih3, ih4, ih5, ih6, ih7⟩ := dec_span.mono_l k
  unfold dec_span.f
  repeat' first
      | (with_reducible exact ih0 _ _)
      | (with_reducible exact ih1 _ _ _ _)
      | (with_reducible exact ih2 _ _ _)
      | (with_reducible exact ih3 _ _ _ _)
      | (with_reducible exact ih4 _ _ _ _ _ _)
      | (with_reducible exact ih5 _ _ _ _ _)
      | (with_reducible exact ih6 _ _ _ _)
      | (with_reducible exact ih7 _ _)
      | (with_reducible exact LeO.refl _)
      | (with_reducible exact LeO.none _)
      | (with_reducible refine LeO.ite ?_ ?_)
      | (with_reducible refine LeO.bind ?_ (fun _ => ?_))
      | exact ih0 _ _
      | exact ih1 _ _ _ _
      | exact ih2 _ _ _
      | exact ih3 _ _ _ _
      | exact ih4 _ _ _ _ _ _
      | exact ih5 _ _ _ _ _
      | exact ih6 _ _ _ _
      | exact ih7 _ _
      | exact LeO.none _
      | refine LeO.ite ?_ ?_
      | refine LeO.bind ?_ (fun _ => ?_)
set_option maxHeartbeats 8000000 in
set_option maxRecDepth 100000 in
theorem dec_span.calls (k : Nat) (a0 : ByteArray) (r1 : Int) (r2 : Int) (r3 : Int) (r4 : Int) (w : World) (h : dec_span.f k a0 = some (r1, r2, r3, r4)) :
    Calls Tryd.prog 35 #[.string a0] w fun e w' => e = .returned (.tuple #[.int .i64 r1, .int .i64 r2, .int .i64 r3, .int .i64 r4]) ∧ Drawn0 w w' := by
  have H : (dec_span.l0 k a0 0) = some (r1, r2, r3, r4) := h
  clear h
  have HC2 := Aside0.mk H
  clear H
  go_enter Tryd.func35, Tryd.ntmps35
  go_upto_block 0 with (fail)
  go_cut [2] (fun v2 wc => ∃ (kq : Nat) (x2_1 : Int), v2 = .int .i64 x2_1 ∧ Aside0 (dec_span.j1 kq a0 x2_1 = some (r1, r2, r3, r4)) ∧ Aside0 (kq ≤ k) ∧ Drawn0 w wc)
  case first =>
    have H := HC2.out
    clear HC2
    have H' := Aside0.mk H
    clear H
    go_wp2
    go_loopg [2] k (fun kq v2 w' => ∃ (x2_1 : Int), v2 = .int .i64 x2_1 ∧ Aside0 (dec_span.l0 kq a0 x2_1 = some (r1, r2, r3, r4)) ∧ Aside0 (kq ≤ k) ∧ Drawn0 w w')
    case atStart => exact ⟨(0), (by first | rfl | (simp; done) | (simp [*]; done)), H', ⟨Nat.le_refl _⟩, by repeat (first | exact Drawn0.refl _ | apply Drawn0.step)⟩
    case round =>
      clear H'
      try clear p2
      obtain ⟨x2_1, rfl, HA, HK1, ⟨m1, rfl⟩⟩ := hrel
      cases gk with
      | zero => exact absurd HA.out (by simp [dec_span.l0])
      | succ k1 =>
        have H := HA.out
        clear HA
        simp only [dec_span.l0] at H
        by_cases c3 : x2_1 < (a0.size : Int)
        · rw [if_pos c3] at H
          have c3b0 : decide (x2_1 < (a0.size : Int)) = true := decide_eq_true c3
          clear c3
          (first | rw [c3b0] | (simp only [i64_w, i32_w]; rw [c3b0]) | skip)
          by_cases c4 : 0 ≤ x2_1
          · rw [if_pos c4] at H
            have c4b0 : decide (0 ≤ x2_1) = true := decide_eq_true c4
            clear c4
            by_cases c6 : (bt a0 x2_1) = 32
            · rw [if_pos c6] at H
              have c6b0 : ((bt a0 x2_1) == 32) = true := beq_iff_eq.mpr c6
              have c6b1 : ((bt a0 x2_1) != 32) = false := bne_eq_false_iff_eq.mpr c6
              clear c6
              have H' := Aside0.mk H
              clear H
              have p5 : 0 ≤ (x2_1 : Int) := of_decide_eq_true (by first | (with_reducible assumption) | assumption)
              have q5 : x2_1 < (a0.size : Int) := of_decide_eq_true (by first | (with_reducible assumption) | assumption)
              have hx5 := bt_at a0 x2_1
              replace p5 := eq_true p5
              replace q5 := eq_true q5
              go_wp2
              go_roundg k1
              case measure => have := HK1.out; omega
              case rel => exact ⟨(wrap64 (x2_1 + 1)), (by first | rfl | (simp; done) | (simp [*]; done)), H', ⟨by have := HK1.out; omega⟩, by repeat (first | exact Drawn0.refl _ | apply Drawn0.step)⟩
            · rw [if_neg c6] at H
              have c6b0 : ((bt a0 x2_1) == 32) = false := beq_eq_false_iff_ne.mpr c6
              have c6b1 : ((bt a0 x2_1) != 32) = true := bne_iff_ne.mpr c6
              by_cases c8 : (bt a0 x2_1) = 9
              · rw [if_pos c8] at H
                have c8b0 : ((bt a0 x2_1) == 9) = true := beq_iff_eq.mpr c8
                have c8b1 : ((bt a0 x2_1) != 9) = false := bne_eq_false_iff_eq.mpr c8
                clear c8
                have H' := Aside0.mk H
                clear H
                have p5 : 0 ≤ (x2_1 : Int) := of_decide_eq_true (by first | (with_reducible assumption) | assumption)
                have q5 : x2_1 < (a0.size : Int) := of_decide_eq_true (by first | (with_reducible assumption) | assumption)
                have hx5 := bt_at a0 x2_1
                replace p5 := eq_true p5
                replace q5 := eq_true q5
                have p7 : 0 ≤ (x2_1 : Int) := of_decide_eq_true (by first | (with_reducible assumption) | assumption)
                have q7 : x2_1 < (a0.size : Int) := of_decide_eq_true (by first | (with_reducible assumption) | assumption)
                have hx7 := bt_at a0 x2_1
                replace p7 := eq_true p7
                replace q7 := eq_true q7
                go_wp2
                go_roundg k1
                case measure => have := HK1.out; omega
                case rel => exact ⟨(wrap64 (x2_1 + 1)), (by first | rfl | (simp; done) | (simp [*]; done)), H', ⟨by have := HK1.out; omega⟩, by repeat (first | exact Drawn0.refl _ | apply Drawn0.step)⟩
              · rw [if_neg c8] at H
                have c8b0 : ((bt a0 x2_1) == 9) = false := beq_eq_false_iff_ne.mpr c8
                have c8b1 : ((bt a0 x2_1) != 9) = true := bne_iff_ne.mpr c8
                have H' := Aside0.mk H
                clear H
                have p5 : 0 ≤ (x2_1 : Int) := of_decide_eq_true (by first | (with_reducible assumption) | assumption)
                have q5 : x2_1 < (a0.size : Int) := of_decide_eq_true (by first | (with_reducible assumption) | assumption)
                have hx5 := bt_at a0 x2_1
                replace p5 := eq_true p5
                replace q5 := eq_true q5
                have p7 : 0 ≤ (x2_1 : Int) := of_decide_eq_true (by first | (with_reducible assumption) | assumption)
                have q7 : x2_1 < (a0.size : Int) := of_decide_eq_true (by first | (with_reducible assumption) | assumption)
                have hx7 := bt_at a0 x2_1
                replace p7 := eq_true p7
                replace q7 := eq_true q7
                go_wp2
                go_meet
                case rel => exact ⟨_, (x2_1), (by first | rfl | (simp; done) | (simp [*]; done)), H', ⟨by have := HK1.out; first | omega | exact Nat.le_refl _⟩, by repeat (first | exact Drawn0.refl _ | apply Drawn0.step)⟩
          · rw [if_neg c4] at H
            exact absurd H (by simp)
        · rw [if_neg c3] at H
          have c3b0 : decide (x2_1 < (a0.size : Int)) = false := decide_eq_false c3
          clear c3
          (first | rw [c3b0] | (simp only [i64_w, i32_w]; rw [c3b0]) | skip)
          have H' := Aside0.mk H
          clear H
          go_wp2
          go_meet
          case rel => exact ⟨_, (x2_1), (by first | rfl | (simp; done) | (simp [*]; done)), H', ⟨by have := HK1.out; first | omega | exact Nat.le_refl _⟩, by repeat (first | exact Drawn0.refl _ | apply Drawn0.step)⟩
  case rest =>
    clear HC2
    try clear p2
    try clear c3
    try clear c3b0
    try clear c4
    try clear c4b0
    try clear p5
    try clear q5
    try clear hx5
    try clear c6
    try clear c6b0
    try clear c6b1
    try clear p6
    try clear p7
    try clear q7
    try clear hx7
    try clear c8
    try clear c8b0
    try clear c8b1
    try clear p2
    try clear p5
    try clear p7
    try clear q5
    try clear q7
    obtain ⟨kq, x2_1, rfl, HA, HJ1, ⟨mc1, rfl⟩⟩ := hcut
    cases kq with
    | zero => exact absurd HA.out (by simp [dec_span.j1])
    | succ kj1 =>
      have H := HA.out
      clear HA
      simp only [dec_span.j1] at H
      have HC9 := Aside0.mk H
      clear H
      go_upto_region 4 with (fail)
      go_cut [40] (fun v40 wc => ∃ (kq : Nat) (x40_8 : Bool), v40 = .bool x40_8 ∧ Aside0 (dec_span.j2 kq a0 x2_1 x2_1 x40_8 = some (r1, r2, r3, r4)) ∧ Aside0 (kq ≤ kj1) ∧ Drawn0 w wc)
      case first =>
        have H := HC9.out
        clear HC9
        by_cases c10 : x2_1 < (a0.size : Int)
        · rw [if_pos c10] at H
          have c10b0 : decide (x2_1 < (a0.size : Int)) = true := decide_eq_true c10
          clear c10
          (first | rw [c10b0] | (simp only [i64_w, i32_w]; rw [c10b0]) | skip)
          by_cases c11 : 0 ≤ x2_1
          · rw [if_pos c11] at H
            have c11b0 : decide (0 ≤ x2_1) = true := decide_eq_true c11
            clear c11
            by_cases c13 : (bt a0 x2_1) = 45
            · rw [if_pos c13] at H
              have c13b0 : ((bt a0 x2_1) == 45) = true := beq_iff_eq.mpr c13
              have c13b1 : ((bt a0 x2_1) != 45) = false := bne_eq_false_iff_eq.mpr c13
              clear c13
              have H' := Aside0.mk H
              clear H
              have p12 : 0 ≤ (x2_1 : Int) := of_decide_eq_true (by first | (with_reducible assumption) | assumption)
              have q12 : x2_1 < (a0.size : Int) := of_decide_eq_true (by first | (with_reducible assumption) | assumption)
              have hx12 := bt_at a0 x2_1
              replace p12 := eq_true p12
              replace q12 := eq_true q12
              go_wp2
              go_meet
              case rel => exact ⟨_, (true), (by first | rfl | (simp; done) | (simp [*]; done)), H', ⟨by have := HJ1.out; first | omega | exact Nat.le_refl _⟩, by repeat (first | exact Drawn0.refl _ | apply Drawn0.step)⟩
            · rw [if_neg c13] at H
              have c13b0 : ((bt a0 x2_1) == 45) = false := beq_eq_false_iff_ne.mpr c13
              have c13b1 : ((bt a0 x2_1) != 45) = true := bne_iff_ne.mpr c13
              have H' := Aside0.mk H
              clear H
              have p12 : 0 ≤ (x2_1 : Int) := of_decide_eq_true (by first | (with_reducible assumption) | assumption)
              have q12 : x2_1 < (a0.size : Int) := of_decide_eq_true (by first | (with_reducible assumption) | assumption)
              have hx12 := bt_at a0 x2_1
              replace p12 := eq_true p12
              replace q12 := eq_true q12
              have p14 : 0 ≤ (x2_1 : Int) := of_decide_eq_true (by first | (with_reducible assumption) | assumption)
              have q14 : x2_1 < (a0.size : Int) := of_decide_eq_true (by first | (with_reducible assumption) | assumption)
              have hx14 := bt_at a0 x2_1
              replace p14 := eq_true p14
              replace q14 := eq_true q14
              go_wp2
              go_meet
              case rel => exact ⟨_, (((bt a0 x2_1) == 43)), (by first | rfl | (simp; done) | (simp [*]; done)), H', ⟨by have := HJ1.out; first | omega | exact Nat.le_refl _⟩, by repeat (first | exact Drawn0.refl _ | apply Drawn0.step)⟩
          · rw [if_neg c11] at H
            exact absurd H (by simp)
        · rw [if_neg c10] at H
          have c10b0 : decide (x2_1 < (a0.size : Int)) = false := decide_eq_false c10
          clear c10
          (first | rw [c10b0] | (simp only [i64_w, i32_w]; rw [c10b0]) | skip)
          have H' := Aside0.mk H
          clear H
          go_wp2
          go_meet
          case rel => exact ⟨_, (false), (by first | rfl | (simp; done) | (simp [*]; done)), H', ⟨by have := HJ1.out; first | omega | exact Nat.le_refl _⟩, by repeat (first | exact Drawn0.refl _ | apply Drawn0.step)⟩
      case rest =>
        clear HC9
        try clear c1
        try clear p1
        try clear q1
        try clear hx1
        try clear p2
        try clear c3
        try clear c3b0
        try clear c4
        try clear c4b0
        try clear p5
        try clear q5
        try clear hx5
        try clear c6
        try clear c6b0
        try clear c6b1
        try clear p6
        try clear p7
        try clear q7
        try clear hx7
        try clear c8
        try clear c8b0
        try clear c8b1
        try clear c10
        try clear c10b0
        try clear c11
        try clear c11b0
        try clear p12
        try clear q12
        try clear hx12
        try clear c13
        try clear c13b0
        try clear c13b1
        try clear p14
        try clear q14
        try clear hx14
        try clear p12
        try clear p14
        try clear p2
        try clear p5
        try clear p6
        try clear p7
        try clear q12
        try clear q14
        try clear q5
        try clear q7
        obtain ⟨kq, x40_8, rfl, HA, HJ8, ⟨mc8, rfl⟩⟩ := hcut
        cases kq with
        | zero => exact absurd HA.out (by simp [dec_span.j2])
        | succ kj8 =>
          have H := HA.out
          clear HA
          simp only [dec_span.j2] at H
          have HC15 := Aside0.mk H
          clear H
          go_upto_if 40 with (fail)
          go_cut [3] (fun v3 wc => ∃ (kq : Nat) (x3_14 : Int), v3 = .int .i64 x3_14 ∧ Aside0 (dec_span.j3 kq a0 x2_1 x3_14 = some (r1, r2, r3, r4)) ∧ Aside0 (kq ≤ kj8) ∧ Drawn0 w wc)
          case first =>
            have H := HC15.out
            clear HC15
            by_cases c16 : x40_8 = true
            · subst c16
              have H1 : (dec_span.j3 kj8 a0 x2_1 (wrap64 (x2_1 + 1))) = some (r1, r2, r3, r4) := by rw [if_pos rfl] at H; exact H
              clear H
              have H := H1
              clear H1
              have H' := Aside0.mk H
              clear H
              go_wp2
              go_meet
              case rel => exact ⟨_, (wrap64 (x2_1 + 1)), (by first | rfl | (simp; done) | (simp [*]; done)), H', ⟨by have := HJ1.out; have := HJ8.out; first | omega | exact Nat.le_refl _⟩, by repeat (first | exact Drawn0.refl _ | apply Drawn0.step)⟩
            · replace c16 := Bool.eq_false_iff.mpr c16
              subst c16
              have H1 : (dec_span.j3 kj8 a0 x2_1 x2_1) = some (r1, r2, r3, r4) := by rw [if_neg (show ¬ (false = true) by decide)] at H; exact H
              clear H
              have H := H1
              clear H1
              have H' := Aside0.mk H
              clear H
              go_wp2
              go_meet
              case rel => exact ⟨_, (x2_1), (by first | rfl | (simp; done) | (simp [*]; done)), H', ⟨by have := HJ1.out; have := HJ8.out; first | omega | exact Nat.le_refl _⟩, by repeat (first | exact Drawn0.refl _ | apply Drawn0.step)⟩
          case rest =>
            clear HC15
            try clear c1
            try clear p1
            try clear q1
            try clear hx1
            try clear p2
            try clear c3
            try clear c3b0
            try clear c4
            try clear c4b0
            try clear p5
            try clear q5
            try clear hx5
            try clear c6
            try clear c6b0
            try clear c6b1
            try clear p6
            try clear p7
            try clear q7
            try clear hx7
            try clear c8
            try clear c8b0
            try clear c8b1
            try clear c10
            try clear c10b0
            try clear c11
            try clear c11b0
            try clear p12
            try clear q12
            try clear hx12
            try clear c13
            try clear c13b0
            try clear c13b1
            try clear p14
            try clear q14
            try clear hx14
            try clear c16
            try clear p1
            try clear p12
            try clear p14
            try clear p2
            try clear p5
            try clear p6
            try clear p7
            try clear q1
            try clear q12
            try clear q14
            try clear q5
            try clear q7
            obtain ⟨kq, x3_14, rfl, HA, HJ14, ⟨mc14, rfl⟩⟩ := hcut
            cases kq with
            | zero => exact absurd HA.out (by simp [dec_span.j3])
            | succ kj14 =>
              have H := HA.out
              clear HA
              simp only [dec_span.j3] at H
              have HC17 := Aside0.mk H
              clear H
              go_upto_block 2 with (fail)
              go_cut [4] (fun v4 wc => ∃ (kq : Nat) (x4_16 : Int), v4 = .int .i64 x4_16 ∧ Aside0 (dec_span.j5 kq a0 x2_1 x3_14 x4_16 = some (r1, r2, r3, r4)) ∧ Aside0 (kq ≤ kj14) ∧ Drawn0 w wc)
              case first =>
                have H := HC17.out
                clear HC17
                have H' := Aside0.mk H
                clear H
                go_wp2
                go_loopg [4] kj14 (fun kq v4 w' => ∃ (x4_4 : Int), v4 = .int .i64 x4_4 ∧ Aside0 (dec_span.l1 kq a0 x2_1 x3_14 x4_4 = some (r1, r2, r3, r4)) ∧ Aside0 (kq ≤ kj14) ∧ Drawn0 w w')
                case atStart => exact ⟨(x3_14), (by first | rfl | (simp; done) | (simp [*]; done)), H', ⟨Nat.le_refl _⟩, by repeat (first | exact Drawn0.refl _ | apply Drawn0.step)⟩
                case round =>
                  clear H'
                  try clear c1
                  try clear p1
                  try clear q1
                  try clear hx1
                  try clear p2
                  try clear c3
                  try clear c3b0
                  try clear c4
                  try clear c4b0
                  try clear p5
                  try clear q5
                  try clear hx5
                  try clear c6
                  try clear c6b0
                  try clear c6b1
                  try clear p6
                  try clear p7
                  try clear q7
                  try clear hx7
                  try clear c8
                  try clear c8b0
                  try clear c8b1
                  try clear c10
                  try clear c10b0
                  try clear c11
                  try clear c11b0
                  try clear p12
                  try clear q12
                  try clear hx12
                  try clear c13
                  try clear c13b0
                  try clear c13b1
                  try clear c14
                  try clear p14
                  try clear q14
                  try clear hx14
                  try clear c16
                  try clear p1
                  try clear p12
                  try clear p14
                  try clear p2
                  try clear p5
                  try clear p6
                  try clear p7
                  try clear q1
                  try clear q12
                  try clear q14
                  try clear q5
                  try clear q7
                  obtain ⟨x4_4, rfl, HA, HK4, ⟨m4, rfl⟩⟩ := hrel
                  cases gk with
                  | zero => exact absurd HA.out (by simp [dec_span.l1])
                  | succ k4 =>
                    have H := HA.out
                    clear HA
                    simp only [dec_span.l1] at H
                    by_cases c18 : x4_4 < (a0.size : Int)
                    · rw [if_pos c18] at H
                      have c18b0 : decide (x4_4 < (a0.size : Int)) = true := decide_eq_true c18
                      clear c18
                      (first | rw [c18b0] | (simp only [i64_w, i32_w]; rw [c18b0]) | skip)
                      by_cases c19 : 0 ≤ x4_4
                      · rw [if_pos c19] at H
                        have c19b0 : decide (0 ≤ x4_4) = true := decide_eq_true c19
                        clear c19
                        by_cases c21 : (bt a0 x4_4) ≥ 48
                        · rw [if_pos c21] at H
                          have c21b0 : decide (48 ≤ (bt a0 x4_4)) = true := decide_eq_true c21
                          clear c21
                          by_cases c23 : (bt a0 x4_4) ≤ 57
                          · rw [if_pos c23] at H
                            have c23b0 : decide ((bt a0 x4_4) ≤ 57) = true := decide_eq_true c23
                            clear c23
                            have H' := Aside0.mk H
                            clear H
                            have p20 : 0 ≤ (x4_4 : Int) := of_decide_eq_true (by first | (with_reducible assumption) | assumption)
                            have q20 : x4_4 < (a0.size : Int) := of_decide_eq_true (by first | (with_reducible assumption) | assumption)
                            have hx20 := bt_at a0 x4_4
                            replace p20 := eq_true p20
                            replace q20 := eq_true q20
                            have p22 : 0 ≤ (x4_4 : Int) := of_decide_eq_true (by first | (with_reducible assumption) | assumption)
                            have q22 : x4_4 < (a0.size : Int) := of_decide_eq_true (by first | (with_reducible assumption) | assumption)
                            have hx22 := bt_at a0 x4_4
                            replace p22 := eq_true p22
                            replace q22 := eq_true q22
                            go_wp2
                            go_roundg k4
                            case measure => have := HJ1.out; have := HJ8.out; have := HJ14.out; have := HK4.out; omega
                            case rel => exact ⟨(wrap64 (x4_4 + 1)), (by first | rfl | (simp; done) | (simp [*]; done)), H', ⟨by have := HJ1.out; have := HJ8.out; have := HJ14.out; have := HK4.out; omega⟩, by repeat (first | exact Drawn0.refl _ | apply Drawn0.step)⟩
                          · rw [if_neg c23] at H
                            have c23b0 : decide ((bt a0 x4_4) ≤ 57) = false := decide_eq_false c23
                            clear c23
                            have H' := Aside0.mk H
                            clear H
                            have p20 : 0 ≤ (x4_4 : Int) := of_decide_eq_true (by first | (with_reducible assumption) | assumption)
                            have q20 : x4_4 < (a0.size : Int) := of_decide_eq_true (by first | (with_reducible assumption) | assumption)
                            have hx20 := bt_at a0 x4_4
                            replace p20 := eq_true p20
                            replace q20 := eq_true q20
                            have p22 : 0 ≤ (x4_4 : Int) := of_decide_eq_true (by first | (with_reducible assumption) | assumption)
                            have q22 : x4_4 < (a0.size : Int) := of_decide_eq_true (by first | (with_reducible assumption) | assumption)
                            have hx22 := bt_at a0 x4_4
                            replace p22 := eq_true p22
                            replace q22 := eq_true q22
                            go_wp2
                            go_meet
                            case rel => exact ⟨_, (x4_4), (by first | rfl | (simp; done) | (simp [*]; done)), H', ⟨by have := HJ1.out; have := HJ8.out; have := HJ14.out; have := HK4.out; first | omega | exact Nat.le_refl _⟩, by repeat (first | exact Drawn0.refl _ | apply Drawn0.step)⟩
                        · rw [if_neg c21] at H
                          have c21b0 : decide (48 ≤ (bt a0 x4_4)) = false := decide_eq_false c21
                          clear c21
                          have H' := Aside0.mk H
                          clear H
                          have p20 : 0 ≤ (x4_4 : Int) := of_decide_eq_true (by first | (with_reducible assumption) | assumption)
                          have q20 : x4_4 < (a0.size : Int) := of_decide_eq_true (by first | (with_reducible assumption) | assumption)
                          have hx20 := bt_at a0 x4_4
                          replace p20 := eq_true p20
                          replace q20 := eq_true q20
                          go_wp2
                          go_meet
                          case rel => exact ⟨_, (x4_4), (by first | rfl | (simp; done) | (simp [*]; done)), H', ⟨by have := HJ1.out; have := HJ8.out; have := HJ14.out; have := HK4.out; first | omega | exact Nat.le_refl _⟩, by repeat (first | exact Drawn0.refl _ | apply Drawn0.step)⟩
                      · rw [if_neg c19] at H
                        exact absurd H (by simp)
                    · rw [if_neg c18] at H
                      have c18b0 : decide (x4_4 < (a0.size : Int)) = false := decide_eq_false c18
                      clear c18
                      (first | rw [c18b0] | (simp only [i64_w, i32_w]; rw [c18b0]) | skip)
                      have H' := Aside0.mk H
                      clear H
                      go_wp2
                      go_meet
                      case rel => exact ⟨_, (x4_4), (by first | rfl | (simp; done) | (simp [*]; done)), H', ⟨by have := HJ1.out; have := HJ8.out; have := HJ14.out; have := HK4.out; first | omega | exact Nat.le_refl _⟩, by repeat (first | exact Drawn0.refl _ | apply Drawn0.step)⟩
              case rest =>
                clear HC17
                try clear c1
                try clear p1
                try clear q1
                try clear hx1
                try clear c2
                try clear p2
                try clear q2
                try clear hx2
                try clear c3
                try clear c3b0
                try clear c4
                try clear c4b0
                try clear p5
                try clear q5
                try clear hx5
                try clear c6
                try clear c6b0
                try clear c6b1
                try clear p6
                try clear p7
                try clear q7
                try clear hx7
                try clear c8
                try clear c8b0
                try clear c8b1
                try clear c10
                try clear c10b0
                try clear c11
                try clear c11b0
                try clear p12
                try clear q12
                try clear hx12
                try clear c13
                try clear c13b0
                try clear c13b1
                try clear c14
                try clear p14
                try clear q14
                try clear hx14
                try clear c16
                try clear c18
                try clear c18b0
                try clear c19
                try clear c19b0
                try clear p20
                try clear q20
                try clear hx20
                try clear c21
                try clear c21b0
                try clear p22
                try clear q22
                try clear hx22
                try clear c23
                try clear c23b0
                try clear p1
                try clear p12
                try clear p14
                try clear p2
                try clear p20
                try clear p22
                try clear p5
                try clear p6
                try clear p7
                try clear q1
                try clear q12
                try clear q14
                try clear q20
                try clear q22
                try clear q5
                try clear q7
                obtain ⟨kq, x4_16, rfl, HA, HJ16, ⟨mc16, rfl⟩⟩ := hcut
                cases kq with
                | zero => exact absurd HA.out (by simp [dec_span.j5])
                | succ kj16 =>
                  have H := HA.out
                  clear HA
                  simp only [dec_span.j5] at H
                  have HC24 := Aside0.mk H
                  clear H
                  go_upto_region 10 with (fail)
                  go_cut [72] (fun v72 wc => ∃ (kq : Nat) (x72_23 : Bool), v72 = .bool x72_23 ∧ Aside0 (dec_span.j6 kq a0 x2_1 x3_14 x4_16 x4_16 x72_23 = some (r1, r2, r3, r4)) ∧ Aside0 (kq ≤ kj16) ∧ Drawn0 w wc)
                  case first =>
                    have H := HC24.out
                    clear HC24
                    by_cases c25 : x4_16 < (a0.size : Int)
                    · rw [if_pos c25] at H
                      have c25b0 : decide (x4_16 < (a0.size : Int)) = true := decide_eq_true c25
                      clear c25
                      (first | rw [c25b0] | (simp only [i64_w, i32_w]; rw [c25b0]) | skip)
                      by_cases c26 : 0 ≤ x4_16
                      · rw [if_pos c26] at H
                        have c26b0 : decide (0 ≤ x4_16) = true := decide_eq_true c26
                        clear c26
                        have H' := Aside0.mk H
                        clear H
                        have p27 : 0 ≤ (x4_16 : Int) := of_decide_eq_true (by first | (with_reducible assumption) | assumption)
                        have q27 : x4_16 < (a0.size : Int) := of_decide_eq_true (by first | (with_reducible assumption) | assumption)
                        have hx27 := bt_at a0 x4_16
                        replace p27 := eq_true p27
                        replace q27 := eq_true q27
                        go_wp2
                        go_meet
                        case rel => exact ⟨_, (((bt a0 x4_16) == 46)), (by first | rfl | (simp; done) | (simp [*]; done)), H', ⟨by have := HJ1.out; have := HJ8.out; have := HJ14.out; have := HJ16.out; first | omega | exact Nat.le_refl _⟩, by repeat (first | exact Drawn0.refl _ | apply Drawn0.step)⟩
                      · rw [if_neg c26] at H
                        exact absurd H (by simp)
                    · rw [if_neg c25] at H
                      have c25b0 : decide (x4_16 < (a0.size : Int)) = false := decide_eq_false c25
                      clear c25
                      (first | rw [c25b0] | (simp only [i64_w, i32_w]; rw [c25b0]) | skip)
                      have H' := Aside0.mk H
                      clear H
                      go_wp2
                      go_meet
                      case rel => exact ⟨_, (false), (by first | rfl | (simp; done) | (simp [*]; done)), H', ⟨by have := HJ1.out; have := HJ8.out; have := HJ14.out; have := HJ16.out; first | omega | exact Nat.le_refl _⟩, by repeat (first | exact Drawn0.refl _ | apply Drawn0.step)⟩
                  case rest =>
                    clear HC24
                    try clear c1
                    try clear p1
                    try clear q1
                    try clear hx1
                    try clear c2
                    try clear p2
                    try clear q2
                    try clear hx2
                    try clear c3
                    try clear c3b0
                    try clear c4
                    try clear c4b0
                    try clear p5
                    try clear q5
                    try clear hx5
                    try clear c6
                    try clear c6b0
                    try clear c6b1
                    try clear p6
                    try clear p7
                    try clear q7
                    try clear hx7
                    try clear c8
                    try clear c8b0
                    try clear c8b1
                    try clear c10
                    try clear c10b0
                    try clear c11
                    try clear c11b0
                    try clear p12
                    try clear q12
                    try clear hx12
                    try clear c13
                    try clear c13b0
                    try clear c13b1
                    try clear c14
                    try clear p14
                    try clear q14
                    try clear hx14
                    try clear c16
                    try clear c18
                    try clear c18b0
                    try clear c19
                    try clear c19b0
                    try clear p20
                    try clear q20
                    try clear hx20
                    try clear c21
                    try clear c21b0
                    try clear p22
                    try clear q22
                    try clear hx22
                    try clear c23
                    try clear c23b0
                    try clear c25
                    try clear c25b0
                    try clear c26
                    try clear c26b0
                    try clear p27
                    try clear q27
                    try clear hx27
                    try clear p1
                    try clear p12
                    try clear p14
                    try clear p2
                    try clear p20
                    try clear p22
                    try clear p27
                    try clear p5
                    try clear p6
                    try clear p7
                    try clear q1
                    try clear q12
                    try clear q14
                    try clear q2
                    try clear q20
                    try clear q22
                    try clear q27
                    try clear q5
                    try clear q7
                    obtain ⟨kq, x72_23, rfl, HA, HJ23, ⟨mc23, rfl⟩⟩ := hcut
                    cases kq with
                    | zero => exact absurd HA.out (by simp [dec_span.j6])
                    | succ kj23 =>
                      have H := HA.out
                      clear HA
                      simp only [dec_span.j6] at H
                      by_cases c28 : x72_23 = true
                      · subst c28
                        have H1 : (dec_span.l2 kj23 a0 x2_1 x3_14 x4_16 (wrap64 (x4_16 + 1))) = some (r1, r2, r3, r4) := by rw [if_pos rfl] at H; exact H
                        clear H
                        have H := H1
                        clear H1
                        have H' := Aside0.mk H
                        clear H
                        go_wp2
                        go_loopg [5] kj23 (fun kq v5 w' => ∃ (x5_6 : Int), v5 = .int .i64 x5_6 ∧ Aside0 (dec_span.l2 kq a0 x2_1 x3_14 x4_16 x5_6 = some (r1, r2, r3, r4)) ∧ Aside0 (kq ≤ kj23) ∧ Drawn0 w w')
                        case atStart => exact ⟨(wrap64 (x4_16 + 1)), (by first | rfl | (simp; done) | (simp [*]; done)), H', ⟨Nat.le_refl _⟩, by repeat (first | exact Drawn0.refl _ | apply Drawn0.step)⟩
                        case round =>
                          clear H'
                          try clear c1
                          try clear p1
                          try clear q1
                          try clear hx1
                          try clear c2
                          try clear p2
                          try clear q2
                          try clear hx2
                          try clear c3
                          try clear c3b0
                          try clear c4
                          try clear c4b0
                          try clear p5
                          try clear q5
                          try clear hx5
                          try clear c6
                          try clear c6b0
                          try clear c6b1
                          try clear p6
                          try clear p7
                          try clear q7
                          try clear hx7
                          try clear c8
                          try clear c8b0
                          try clear c8b1
                          try clear c10
                          try clear c10b0
                          try clear c11
                          try clear c11b0
                          try clear p12
                          try clear q12
                          try clear hx12
                          try clear c13
                          try clear c13b0
                          try clear c13b1
                          try clear c14
                          try clear p14
                          try clear q14
                          try clear hx14
                          try clear c16
                          try clear c18
                          try clear c18b0
                          try clear c19
                          try clear c19b0
                          try clear p20
                          try clear q20
                          try clear hx20
                          try clear c21
                          try clear c21b0
                          try clear p22
                          try clear q22
                          try clear hx22
                          try clear c23
                          try clear c23b0
                          try clear c25
                          try clear c25b0
                          try clear c26
                          try clear c26b0
                          try clear p27
                          try clear q27
                          try clear hx27
                          try clear c28
                          try clear p1
                          try clear p12
                          try clear p14
                          try clear p2
                          try clear p20
                          try clear p22
                          try clear p27
                          try clear p5
                          try clear p6
                          try clear p7
                          try clear q1
                          try clear q12
                          try clear q14
                          try clear q2
                          try clear q20
                          try clear q22
                          try clear q27
                          try clear q5
                          try clear q7
                          obtain ⟨x5_6, rfl, HA, HK6, ⟨m6, rfl⟩⟩ := hrel
                          cases gk with
                          | zero => exact absurd HA.out (by simp [dec_span.l2])
                          | succ k6 =>
                            have H := HA.out
                            clear HA
                            simp only [dec_span.l2] at H
                            by_cases c29 : x5_6 < (a0.size : Int)
                            · rw [if_pos c29] at H
                              have c29b0 : decide (x5_6 < (a0.size : Int)) = true := decide_eq_true c29
                              clear c29
                              by_cases c30 : 0 ≤ x5_6
                              · rw [if_pos c30] at H
                                have c30b0 : decide (0 ≤ x5_6) = true := decide_eq_true c30
                                clear c30
                                by_cases c32 : (bt a0 x5_6) ≥ 48
                                · rw [if_pos c32] at H
                                  have c32b0 : decide (48 ≤ (bt a0 x5_6)) = true := decide_eq_true c32
                                  clear c32
                                  by_cases c34 : (bt a0 x5_6) ≤ 57
                                  · rw [if_pos c34] at H
                                    have c34b0 : decide ((bt a0 x5_6) ≤ 57) = true := decide_eq_true c34
                                    clear c34
                                    have H' := Aside0.mk H
                                    clear H
                                    have p31 : 0 ≤ (x5_6 : Int) := of_decide_eq_true (by first | (with_reducible assumption) | assumption)
                                    have q31 : x5_6 < (a0.size : Int) := of_decide_eq_true (by first | (with_reducible assumption) | assumption)
                                    have hx31 := bt_at a0 x5_6
                                    replace p31 := eq_true p31
                                    replace q31 := eq_true q31
                                    have p33 : 0 ≤ (x5_6 : Int) := of_decide_eq_true (by first | (with_reducible assumption) | assumption)
                                    have q33 : x5_6 < (a0.size : Int) := of_decide_eq_true (by first | (with_reducible assumption) | assumption)
                                    have hx33 := bt_at a0 x5_6
                                    replace p33 := eq_true p33
                                    replace q33 := eq_true q33
                                    go_wp2
                                    go_roundg k6
                                    case measure => have := HJ1.out; have := HJ8.out; have := HJ14.out; have := HJ16.out; have := HJ23.out; have := HK6.out; omega
                                    case rel => exact ⟨(wrap64 (x5_6 + 1)), (by first | rfl | (simp; done) | (simp [*]; done)), H', ⟨by have := HJ1.out; have := HJ8.out; have := HJ14.out; have := HJ16.out; have := HJ23.out; have := HK6.out; omega⟩, by repeat (first | exact Drawn0.refl _ | apply Drawn0.step)⟩
                                  · rw [if_neg c34] at H
                                    have c34b0 : decide ((bt a0 x5_6) ≤ 57) = false := decide_eq_false c34
                                    clear c34
                                    simp only [Option.some.injEq, Prod.mk.injEq] at H
                                    obtain ⟨rfl, rfl, rfl, rfl⟩ := H
                                    have p31 : 0 ≤ (x5_6 : Int) := of_decide_eq_true (by first | (with_reducible assumption) | assumption)
                                    have q31 : x5_6 < (a0.size : Int) := of_decide_eq_true (by first | (with_reducible assumption) | assumption)
                                    have hx31 := bt_at a0 x5_6
                                    replace p31 := eq_true p31
                                    replace q31 := eq_true q31
                                    have p33 : 0 ≤ (x5_6 : Int) := of_decide_eq_true (by first | (with_reducible assumption) | assumption)
                                    have q33 : x5_6 < (a0.size : Int) := of_decide_eq_true (by first | (with_reducible assumption) | assumption)
                                    have hx33 := bt_at a0 x5_6
                                    replace p33 := eq_true p33
                                    replace q33 := eq_true q33
                                    go_wp2
                                    refine bodyPost_ret (results_list (rs := [.tmp 2, .tmp 3, .tmp 4, .tmp 5]) rfl (by simp) (.tmp (.tmp (.tmp (.tmp .nil))))) rfl ?_
                                    exact ⟨by first | rfl | (simp; done) | (simp [*]; done), by repeat (first | exact Drawn0.refl _ | apply Drawn0.step)⟩
                                · rw [if_neg c32] at H
                                  have c32b0 : decide (48 ≤ (bt a0 x5_6)) = false := decide_eq_false c32
                                  clear c32
                                  simp only [Option.some.injEq, Prod.mk.injEq] at H
                                  obtain ⟨rfl, rfl, rfl, rfl⟩ := H
                                  have p31 : 0 ≤ (x5_6 : Int) := of_decide_eq_true (by first | (with_reducible assumption) | assumption)
                                  have q31 : x5_6 < (a0.size : Int) := of_decide_eq_true (by first | (with_reducible assumption) | assumption)
                                  have hx31 := bt_at a0 x5_6
                                  replace p31 := eq_true p31
                                  replace q31 := eq_true q31
                                  go_wp2
                                  refine bodyPost_ret (results_list (rs := [.tmp 2, .tmp 3, .tmp 4, .tmp 5]) rfl (by simp) (.tmp (.tmp (.tmp (.tmp .nil))))) rfl ?_
                                  exact ⟨by first | rfl | (simp; done) | (simp [*]; done), by repeat (first | exact Drawn0.refl _ | apply Drawn0.step)⟩
                              · rw [if_neg c30] at H
                                exact absurd H (by simp)
                            · rw [if_neg c29] at H
                              have c29b0 : decide (x5_6 < (a0.size : Int)) = false := decide_eq_false c29
                              clear c29
                              simp only [Option.some.injEq, Prod.mk.injEq] at H
                              obtain ⟨rfl, rfl, rfl, rfl⟩ := H
                              go_wp2
                              refine bodyPost_ret (results_list (rs := [.tmp 2, .tmp 3, .tmp 4, .tmp 5]) rfl (by simp) (.tmp (.tmp (.tmp (.tmp .nil))))) rfl ?_
                              exact ⟨by first | rfl | (simp; done) | (simp [*]; done), by repeat (first | exact Drawn0.refl _ | apply Drawn0.step)⟩
                      · replace c28 := Bool.eq_false_iff.mpr c28
                        subst c28
                        have H1 : (some (x2_1, x3_14, x4_16, x4_16)) = some (r1, r2, r3, r4) := by rw [if_neg (show ¬ (false = true) by decide)] at H; exact H
                        clear H
                        have H := H1
                        clear H1
                        simp only [Option.some.injEq, Prod.mk.injEq] at H
                        obtain ⟨rfl, rfl, rfl, rfl⟩ := H
                        go_wp2
                        refine bodyPost_ret (results_list (rs := [.tmp 2, .tmp 3, .tmp 4, .tmp 5]) rfl (by simp) (.tmp (.tmp (.tmp (.tmp .nil))))) rfl ?_
                        exact ⟨by first | rfl | (simp; done) | (simp [*]; done), by repeat (first | exact Drawn0.refl _ | apply Drawn0.step)⟩

end Go.Proofs.YtgodmbcebpbdiaaDoor.Q1
end

/- The Go functions of this part as Lean functions, each with a proof that a call of it comes to just what the Lean function does. Written by a program of the session's. Conditions: none but those in each theorem. -/
section
namespace Go.Proofs.YtgodmbcebpbdiaaDoor.Q1
open Go.Proofs.YtgodmbcebpbdiaaDoor.G
open Go.RowKit Go.Proofs.YtgodmbcebpbdiaaDoorW.PrintWords Go.Proofs.YtgodmbcebpbdiaaDoorW.PrintLast Go.Proofs.YtgodmbcebpbdiaaDoorW.PrintMore
attribute [local go_sem] max2_int min2_int max_two min_two max_three min_three max_four min_four   -- for this text's walks alone
set_option linter.unusedVariables false
set_option linter.unusedSimpArgs false

end Go.Proofs.YtgodmbcebpbdiaaDoor.Q1
end

/- dec.Read's first deferred function, walked. -/
section
set_option linter.unusedVariables false
set_option linter.unusedSimpArgs false
namespace Go.Proofs.YtgodmbcebpbdiaaDoor.G
open Go.RowKit Go.Proofs.YtgodmbcebpbdiaaDoorW.PrintWords Go.Proofs.YtgodmbcebpbdiaaDoorW.PrintLast
set_option maxHeartbeats 4000000 in
set_option maxRecDepth 100000 in
theorem read1_ok (p q : Nat) (w : World) (u : FrameMode) (hp : w.cell? ⟨p, 0, none⟩ = some (.int .i64 0)) :
    CallsD Tryd.prog 33 #[.pointer (some ⟨p, 0, none⟩), .pointer (some ⟨q, 0, none⟩)] u w fun x' u' w' =>
      x' = .returned (.tuple #[]) ∧ u' = u ∧ w' = w := by
  refine (callsD_of_wp (R := fun x' w' => x' = .returned (.tuple #[]) ∧ w' = w) Tryd.func33 rfl ?_).mono (fun e u' w' h => ⟨h.2.1, h.1, h.2.2⟩)
  have ht : (#[.pointer (some ⟨p, 0, none⟩), .pointer (some ⟨q, 0, none⟩)] ++ Array.replicate (Tryd.f33.ntmps - (#[.pointer (some ⟨p, 0, none⟩), .pointer (some ⟨q, 0, none⟩)] : Array Value).size) undef : Array Value) = #[.pointer (some ⟨p, 0, none⟩), .pointer (some ⟨q, 0, none⟩), undef, undef] := by simp [Array.replicate, Tryd.ntmps33]
  rw [ht]
  clear ht
  go_wp2
  go_end0
  exact ⟨rfl, rfl⟩
set_option maxHeartbeats 4000000 in
set_option maxRecDepth 100000 in
theorem read1_no (p q : Nat) (e : Int) (y : Value) (w : World) (u : FrameMode) (he : (e != 0) = true) (hp : w.cell? ⟨p, 0, none⟩ = some (.int .i64 e)) (hq : w.cell? ⟨q, 0, none⟩ = some y) (fq : w.frozen? ⟨q, 0, none⟩ = false) :
    CallsD Tryd.prog 33 #[.pointer (some ⟨p, 0, none⟩), .pointer (some ⟨q, 0, none⟩)] u w fun x' u' w' =>
      x' = .returned (.tuple #[]) ∧ u' = u ∧ w' = w.setCell ⟨q, 0, none⟩ (.int .i64 0) := by
  refine (callsD_of_wp (R := fun x' w' => x' = .returned (.tuple #[]) ∧ w' = w.setCell ⟨q, 0, none⟩ (.int .i64 0)) Tryd.func33 rfl ?_).mono (fun e u' w' h => ⟨h.2.1, h.1, h.2.2⟩)
  have ht : (#[.pointer (some ⟨p, 0, none⟩), .pointer (some ⟨q, 0, none⟩)] ++ Array.replicate (Tryd.f33.ntmps - (#[.pointer (some ⟨p, 0, none⟩), .pointer (some ⟨q, 0, none⟩)] : Array Value).size) undef : Array Value) = #[.pointer (some ⟨p, 0, none⟩), .pointer (some ⟨q, 0, none⟩), undef, undef] := by simp [Array.replicate, Tryd.ntmps33]
  rw [ht]
  clear ht
  go_wp2
  go_end0
  exact ⟨rfl, rfl⟩
end Go.Proofs.YtgodmbcebpbdiaaDoor.G
end

/- dec.Read, walked: no numeral. -/
section
set_option linter.unusedVariables false
set_option linter.unusedSimpArgs false
namespace Go.Proofs.YtgodmbcebpbdiaaDoor.G
open Go.RowKit Go.Proofs.YtgodmbcebpbdiaaDoorW.PrintWords Go.Proofs.YtgodmbcebpbdiaaDoorW.PrintLast Go.Proofs.YtgodmbcebpbdiaaDoorW.PrintMore
set_option maxHeartbeats 4000000 in
set_option maxRecDepth 100000 in
theorem read_form (s : ByteArray) (a b c d : Int) (w : World)
    (hs : ∀ w, Calls Tryd.prog 35 #[.string s] w fun e w' => e = .returned (.tuple #[.int .i64 a, .int .i64 b, .int .i64 c, .int .i64 d]) ∧ Drawn0 w w')
    (h1 : (c == b) = true) (h2 : decide (d ≤ wrap64 (c + 1)) = true) :
    Calls Tryd.prog 13 #[.string s] w fun x w' => x = .returned (.tuple #[.int .i64 0, .int .i64 0, .int .i64 2]) ∧ Below w.heap.size w w' := by
    go_enter_defers Tryd.func13, Tryd.ntmps13
    go_wp2_with fail
    refine (hs _).mono ?_
    rintro e w' ⟨rfl, nd, rfl⟩
    go_wp2_with fail
    refine (wrong_yes _ _).mono ?_
    rintro e w' ⟨rfl, rfl⟩
    refine leaves_cons (f := 34) (args := #[.pointer (some ⟨w.heap.size, 0, none⟩), .pointer (some ⟨w.heap.size + 2, 0, none⟩)]) (by simp) (by simp [go_sem]) ?_
    refine (caught_yes w.heap.size (w.heap.size + 2) 0 0 2 [] _ (by simp [go_sem]) (by simp [go_sem]) (by simp [go_sem]) (by simp [go_sem]) (by omega)).mono ?_
    rintro e u' w'' ⟨rfl, rfl, rfl⟩
    clear hs
    refine leaves_cons (f := 33) (args := #[.pointer (some ⟨w.heap.size + 1 + 1, 0, none⟩), .pointer (some ⟨w.heap.size + 1, 0, none⟩)]) (by simp [settle, fault]) (by simp [go_sem]) ?_
    refine (read1_no (w.heap.size + 1 + 1) (w.heap.size + 1) 2 (.int .i64 0) _ _ rfl (by simp [go_sem]) (by simp [go_sem]) (by simp [go_sem])).mono ?_
    rintro e u' w'' ⟨rfl, rfl, rfl⟩
    have k0 : ((((w.alloc (.cells #[.int .i64 0] 2)).alloc (.cells #[.int .i64 0] 3)).alloc (.cells #[.int .i64 0] 23)).drewN nd).cell? ⟨w.heap.size, 0, none⟩ = some (.int .i64 0) := by simp [go_sem]
    have c0 := World.cell?_setCell_same _ _ (v := .int .i64 0) k0
    simp [Leaves, settle, fault, results, Tryd.results13, go_sem, c0]
    exact below_drew (below_alloc ((((belowN ((((Below.refl _ _).alloc (Nat.le_refl _) _).alloc (by simp) _).alloc (by simp; omega) _) nd).setCell (by simp) _).setCell (by simp) _).setCell (by simp) _) _)
/-- Where Read gives up: its two deferred functions run. -/
theorem read_ends (tmps : Array Value) (p : Nat) (e : Int) (w W : World) (he : (e != 0) = true)
    (t2 : tmps[2]? = some (.pointer (some ⟨p, 0, none⟩))) (t3 : tmps[3]? = some (.pointer (some ⟨p + 1, 0, none⟩))) (t4 : tmps[4]? = some (.pointer (some ⟨p + 1 + 1, 0, none⟩)))
    (k0 : W.cell? ⟨p, 0, none⟩ = some (.int .i64 0)) (k1 : W.cell? ⟨p + 1, 0, none⟩ = some (.int .i64 0)) (k2 : W.cell? ⟨p + 1 + 1, 0, none⟩ = some (.int .i64 0))
    (f0 : W.frozen? ⟨p, 0, none⟩ = false) (f1 : W.frozen? ⟨p + 1, 0, none⟩ = false) (f2 : W.frozen? ⟨p + 1 + 1, 0, none⟩ = false)
    (hp : w.heap.size ≤ p) (hB : Below w.heap.size w W) :
    Leaves Tryd.prog Tryd.f13 tmps (fun x w' => x = .returned (.tuple #[.int .i64 0, .int .i64 0, .int .i64 e]) ∧ Below w.heap.size w w')
      [{ target := .fn (.func 34) #[], args := #[.pointer (some ⟨p, 0, none⟩), .pointer (some ⟨p + 1 + 1, 0, none⟩)] }, { target := .fn (.func 33) #[.pointer (some ⟨p + 1 + 1, 0, none⟩), .pointer (some ⟨p + 1, 0, none⟩)], args := #[] }]
      (.panicking [fault e]) W := by
  have n1 : p + 1 + 1 < W.heap.size := World.block_lt_of_cell? W _ k2
  refine leaves_cons (f := 34) (args := #[.pointer (some ⟨p, 0, none⟩), .pointer (some ⟨p + 1 + 1, 0, none⟩)]) (by simp) (by simp [go_sem]) ?_
  refine (caught_yes p (p + 1 + 1) 0 0 e [] _ k0 k2 f0 f2 (by omega)).mono ?_
  rintro e' u' w'' ⟨rfl, rfl, rfl⟩
  have a0 := World.cell?_setCell_same _ _ (v := .int .i64 0) k0
  have a2 : (W.setCell ⟨p, 0, none⟩ (.int .i64 0)).cell? ⟨p + 1 + 1, 0, none⟩ = some (.int .i64 0) := by rw [World.cell?_setCell_far _ _ _ _ (by simp <;> omega)]; exact k2
  have b2 := World.cell?_setCell_same _ _ (v := .int .i64 e) a2
  have b0 : ((W.setCell ⟨p, 0, none⟩ (.int .i64 0)).setCell ⟨p + 1 + 1, 0, none⟩ (.int .i64 e)).cell? ⟨p, 0, none⟩ = some (.int .i64 0) := by rw [World.cell?_setCell_far _ _ _ _ (by simp <;> omega)]; exact a0
  have b1 : ((W.setCell ⟨p, 0, none⟩ (.int .i64 0)).setCell ⟨p + 1 + 1, 0, none⟩ (.int .i64 e)).cell? ⟨p + 1, 0, none⟩ = some (.int .i64 0) := by rw [World.cell?_setCell_far _ _ _ _ (by simp), World.cell?_setCell_far _ _ _ _ (by simp <;> omega)]; exact k1
  have g1 : ((W.setCell ⟨p, 0, none⟩ (.int .i64 0)).setCell ⟨p + 1 + 1, 0, none⟩ (.int .i64 e)).frozen? ⟨p + 1, 0, none⟩ = false := by simp [go_sem, f1]
  have hB' : Below w.heap.size w ((W.setCell ⟨p, 0, none⟩ (.int .i64 0)).setCell ⟨p + 1 + 1, 0, none⟩ (.int .i64 e)) := (hB.setCell (by simpa using hp) _).setCell (by simp; omega) _
  have n2 : p + 1 + 1 < ((W.setCell ⟨p, 0, none⟩ (.int .i64 0)).setCell ⟨p + 1 + 1, 0, none⟩ (.int .i64 e)).heap.size := World.block_lt_of_cell? _ _ b2
  generalize (W.setCell ⟨p, 0, none⟩ (.int .i64 0)).setCell ⟨p + 1 + 1, 0, none⟩ (.int .i64 e) = V at b0 b1 b2 g1 hB' n2 ⊢
  have d0 : ((V.alloc (.cells #[.int .i64 e] 74)).drew).cell? ⟨p, 0, none⟩ = some (.int .i64 0) := by rw [← b0]; exact World.cell?_alloc_lt _ _ _ (by simp; omega)
  have d1 : ((V.alloc (.cells #[.int .i64 e] 74)).drew).cell? ⟨p + 1, 0, none⟩ = some (.int .i64 0) := by rw [← b1]; exact World.cell?_alloc_lt _ _ _ (by simp; omega)
  have d2 : ((V.alloc (.cells #[.int .i64 e] 74)).drew).cell? ⟨p + 1 + 1, 0, none⟩ = some (.int .i64 e) := by rw [← b2]; exact World.cell?_alloc_lt _ _ _ (by simp; omega)
  have q1 : ((V.alloc (.cells #[.int .i64 e] 74)).drew).frozen? ⟨p + 1, 0, none⟩ = false := by rw [← g1]; exact (below_drew ((Below.refl V.heap.size V).alloc (Nat.le_refl _) _)).frozen (p := ⟨p + 1, 0, none⟩) (by simp; omega)
  have hB'' := below_drew (below_alloc hB' (.cells #[.int .i64 e] 74))
  generalize (V.alloc (.cells #[.int .i64 e] 74)).drew = U at d0 d1 d2 q1 hB'' ⊢
  refine leaves_cons (f := 33) (args := #[.pointer (some ⟨p + 1 + 1, 0, none⟩), .pointer (some ⟨p + 1, 0, none⟩)]) (by simp [settle, fault]) (by simp [go_sem]) ?_
  refine (read1_no (p + 1 + 1) (p + 1) e (.int .i64 0) _ _ he d2 d1 q1).mono ?_
  rintro e' u' w'' ⟨rfl, rfl, rfl⟩
  have c1 := World.cell?_setCell_same _ _ (v := .int .i64 0) d1
  have c0 : (U.setCell ⟨p + 1, 0, none⟩ (.int .i64 0)).cell? ⟨p, 0, none⟩ = some (.int .i64 0) := by rw [World.cell?_setCell_far _ _ _ _ (by simp <;> omega)]; exact d0
  have c2 : (U.setCell ⟨p + 1, 0, none⟩ (.int .i64 0)).cell? ⟨p + 1 + 1, 0, none⟩ = some (.int .i64 e) := by rw [World.cell?_setCell_far _ _ _ _ (by simp <;> omega)]; exact d2
  have hBz := hB''.setCell (p := ⟨p + 1, 0, none⟩) (by simp; omega) (.int .i64 0)
  generalize U.setCell ⟨p + 1, 0, none⟩ (.int .i64 0) = Z at c0 c1 c2 hBz ⊢
  simp [Leaves, settle, fault, results, Tryd.results13, go_sem, t2, t3, t4, c0, c1, c2]
  exact hBz
end Go.Proofs.YtgodmbcebpbdiaaDoor.G
end

/- dec.Read, walked: where it returns. -/
section
set_option linter.unusedVariables false
set_option linter.unusedSimpArgs false
namespace Go.Proofs.YtgodmbcebpbdiaaDoor.G
open Go.RowKit Go.Proofs.YtgodmbcebpbdiaaDoorW.PrintWords Go.Proofs.YtgodmbcebpbdiaaDoorW.PrintLast Go.Proofs.YtgodmbcebpbdiaaDoorW.PrintMore
/-- Where Read returns: its two deferred functions run. -/
theorem read_leaves (tmps : Array Value) (p : Nat) (v d : Int) (w W : World)
    (t2 : tmps[2]? = some (.pointer (some ⟨p, 0, none⟩))) (t3 : tmps[3]? = some (.pointer (some ⟨p + 1, 0, none⟩))) (t4 : tmps[4]? = some (.pointer (some ⟨p + 1 + 1, 0, none⟩)))
    (k0 : W.cell? ⟨p, 0, none⟩ = some (.int .i64 v)) (k1 : W.cell? ⟨p + 1, 0, none⟩ = some (.int .i64 d)) (k2 : W.cell? ⟨p + 1 + 1, 0, none⟩ = some (.int .i64 0))
    (hB : Below w.heap.size w W) :
    Leaves Tryd.prog Tryd.f13 tmps (fun x w' => x = .returned (.tuple #[.int .i64 v, .int .i64 d, .int .i64 0]) ∧ Below w.heap.size w w')
      [{ target := .fn (.func 34) #[], args := #[.pointer (some ⟨p, 0, none⟩), .pointer (some ⟨p + 1 + 1, 0, none⟩)] }, { target := .fn (.func 33) #[.pointer (some ⟨p + 1 + 1, 0, none⟩), .pointer (some ⟨p + 1, 0, none⟩)], args := #[] }]
      .returning W := by
  refine leaves_cons (f := 34) (args := #[.pointer (some ⟨p, 0, none⟩), .pointer (some ⟨p + 1 + 1, 0, none⟩)]) (by simp) (by simp [go_sem]) ?_
  refine (caught_no p (p + 1 + 1) _).mono ?_
  rintro e' u' w'' ⟨rfl, rfl, rfl⟩
  refine leaves_cons (f := 33) (args := #[.pointer (some ⟨p + 1 + 1, 0, none⟩), .pointer (some ⟨p + 1, 0, none⟩)]) (by simp [settle]) (by simp [go_sem]) ?_
  refine (read1_ok (p + 1 + 1) (p + 1) _ _ k2).mono ?_
  rintro e' u' w'' ⟨rfl, rfl, rfl⟩
  simp [Leaves, settle, results, Tryd.results13, go_sem, t2, t3, t4, k0, k1, k2]
  exact hB
end Go.Proofs.YtgodmbcebpbdiaaDoor.G
end

/- math/bits.Add64. -/
section
set_option linter.unusedVariables false
set_option linter.unusedSimpArgs false
namespace Go.Proofs.YtgodmbcebpbdiaaDoor.G
open Go.RowKit Go.Proofs.YtgodmbcebpbdiaaDoorW.PrintWords Go.Proofs.YtgodmbcebpbdiaaDoorW.PrintLast
theorem run_add (x y c : Nat) (hc : c ≤ 1) (w : World) :
    (callFunc 38 #[.int .u64 x, .int .u64 y, .int .u64 c]).run Tryd.prog w =
      .ok (.value (.tuple #[.int .u64 (((x + y + c) % 18446744073709551616 : Nat) : Int), .int .u64 (((x + y + c) / 18446744073709551616 : Nat) : Int)])) w := by
  rw [run_callFunc_extern Tryd.func38 (by kernel_rfl) (by kernel_rfl) (by kernel_rfl) (e := add64Entry) (by kernel_rfl), run_add64 x y c (by omega) (by omega) (by omega) (by omega)]
  simp only [Result.andThen]
  congr 5 <;> omega
end Go.Proofs.YtgodmbcebpbdiaaDoor.G
end

/- dec.Read, walked: where a point with figures follows. -/
section
set_option linter.unusedVariables false
set_option linter.unusedSimpArgs false
namespace Go.Proofs.YtgodmbcebpbdiaaDoor.G
open Go.RowKit Go.Proofs.YtgodmbcebpbdiaaDoorW.PrintWords Go.Proofs.YtgodmbcebpbdiaaDoorW.PrintLast Go.Proofs.YtgodmbcebpbdiaaDoorW.PrintMore
/-- The figures of a text as a number; none: it goes too far. -/
def digV (T : ByteArray) : Nat → Nat → Nat → Option Nat
  | 0, _, low => some low
  | n + 1, i, low => if low * 10 + ((T.data.toList.getD i 0).toNat - 48) < 18446744073709551616 then digV T n (i + 1) (low * 10 + ((T.data.toList.getD i 0).toNat - 48)) else none
def resV (R : Option Nat) (sg : Bool) (d : Int) : Int × Int × Int := match R.bind fun q => joinV q sg with | some v => (v, d, 0) | none => (0, 0, 3)
set_option maxHeartbeats 4000000 in
set_option maxRecDepth 100000 in
theorem read_mid (s : ByteArray) (a b c d : Int) (w : World)
    (hs : ∀ w, Calls Tryd.prog 35 #[.string s] w fun e w' => e = .returned (.tuple #[.int .i64 a, .int .i64 b, .int .i64 c, .int .i64 d]) ∧ Drawn0 w w')
    (h1 : (c == b) = false) (h3 : decide (c < d) = true) (b0 : 0 ≤ b) (bc : b ≤ c) (cd : c + 1 ≤ d) (ds : d ≤ s.size) (hsz : s.size ≤ 281474976710656) (hc : wrap64 (c + 1) = c + 1) (T : ByteArray)
    (hdig : ∀ i, i < T.size → 48 ≤ (T.data.toList.getD i 0).toNat ∧ (T.data.toList.getD i 0).toNat ≤ 57)
    (a0 : 0 ≤ a) (a1 : a < s.size) (sg : Bool) (hsg : ∀ h : a.toNat < s.size, (((s[a.toNat]'h).toNat : Int) == 45) = sg)
    (hTz : T.size ≤ 1125899906842624)
    (r1 r2 r3 : Int) (hres : resV (digV T T.size 0 0) sg d = (r1, r2, r3))
    (hT : s.extract b.toNat c.toNat ++ (s.extract (c + 1).toNat d.toNat ++ ⟨#[48, 48, 48, 48, 48, 48]⟩).extract 0 6 = T) :
    Calls Tryd.prog 13 #[.string s] w fun x w' => x = .returned (.tuple #[.int .i64 r1, .int .i64 r2, .int .i64 r3]) ∧ Below w.heap.size w w' := by
    have HRES := Lib.hid hres; clear hres
    have HSG := Lib.hid hsg; clear hsg
    have hcv := fun W : World => Lib.run_convert_string_bytes (P := Tryd.prog) W 9 31 5 T Tryd.underlying9 Tryd.underlying31 Tryd.underlying5
    go_enter_defers Tryd.func13, Tryd.ntmps13
    go_wp2_with fail
    refine (hs _).mono ?_
    rintro e w' ⟨rfl, nd, rfl⟩
    clear hs
    go_wp2_with fail
    refine (wrong_no _ _).mono ?_
    rintro e w' ⟨rfl, rfl⟩
    go_wp2_with fail
    clear hcv
    have HDIG := Lib.hid hdig; clear hdig
    go_loopg [10, 53] T.size (fun kq v0 v1 w' => ∃ (low i : Nat), v0 = .int .u64 low ∧ v1 = .int .i64 i ∧ Aside0 (kq + i = T.size ∧ low < 18446744073709551616 ∧ digV T kq i low = digV T T.size 0 0) ∧ w' = Lib.bytesWorld ((((w.alloc (.cells #[.int .i64 0] 2)).alloc (.cells #[.int .i64 0] 3)).alloc (.cells #[.int .i64 0] 23)).drewN nd) 5 T)
    case atStart => exact ⟨0, 0, rfl, rfl, ⟨⟨by omega, by omega, rfl⟩⟩, rfl⟩
    case round =>
      obtain ⟨low, i, rfl, rfl, HA, rfl⟩ := hrel
      cases gk with
      | zero =>
        have hi2 : decide ((i : Int) < (T.size : Int)) = false := decide_eq_false (by have := HA.out; omega)
        have hi3 : decide (i < T.size) = false := decide_eq_false (by have := HA.out; omega)
        go_wp2_with fail
        rw [HSG.out]
        have hR : digV T T.size 0 0 = some low := by rw [← HA.out.2.2, digV]
        have hr := HRES.out
        rw [hR] at hr
        simp only [resV, Option.bind_some] at hr
        have B := Lib.hid (Lib.bytesWorld_below ((((w.alloc (.cells #[.int .i64 0] 2)).alloc (.cells #[.int .i64 0] 3)).alloc (.cells #[.int .i64 0] 23)).drewN nd) 5 T)
        have hz : ((((w.alloc (.cells #[.int .i64 0] 2)).alloc (.cells #[.int .i64 0] 3)).alloc (.cells #[.int .i64 0] 23)).drewN nd).heap.size = w.heap.size + 1 + 1 + 1 := by simp
        have k0 : (Lib.bytesWorld ((((w.alloc (.cells #[.int .i64 0] 2)).alloc (.cells #[.int .i64 0] 3)).alloc (.cells #[.int .i64 0] 23)).drewN nd) 5 T).cell? ⟨w.heap.size, 0, none⟩ = some (.int .i64 0) := by
          rw [B.out.cell (p := ⟨w.heap.size, 0, none⟩) (by rw [hz]; simp <;> omega)]; simp [go_sem]
        have k1 : (Lib.bytesWorld ((((w.alloc (.cells #[.int .i64 0] 2)).alloc (.cells #[.int .i64 0] 3)).alloc (.cells #[.int .i64 0] 23)).drewN nd) 5 T).cell? ⟨w.heap.size + 1, 0, none⟩ = some (.int .i64 0) := by
          rw [B.out.cell (p := ⟨w.heap.size + 1, 0, none⟩) (by rw [hz]; simp <;> omega)]; simp [go_sem]
        have k2 : (Lib.bytesWorld ((((w.alloc (.cells #[.int .i64 0] 2)).alloc (.cells #[.int .i64 0] 3)).alloc (.cells #[.int .i64 0] 23)).drewN nd) 5 T).cell? ⟨w.heap.size + 1 + 1, 0, none⟩ = some (.int .i64 0) := by
          rw [B.out.cell (p := ⟨w.heap.size + 1 + 1, 0, none⟩) (by rw [hz]; simp <;> omega)]; simp [go_sem]
        have f0 : (Lib.bytesWorld ((((w.alloc (.cells #[.int .i64 0] 2)).alloc (.cells #[.int .i64 0] 3)).alloc (.cells #[.int .i64 0] 23)).drewN nd) 5 T).frozen? ⟨w.heap.size, 0, none⟩ = false := by
          rw [B.out.frozen (p := ⟨w.heap.size, 0, none⟩) (by rw [hz]; simp <;> omega)]; simp [go_sem]
        have f1 : (Lib.bytesWorld ((((w.alloc (.cells #[.int .i64 0] 2)).alloc (.cells #[.int .i64 0] 3)).alloc (.cells #[.int .i64 0] 23)).drewN nd) 5 T).frozen? ⟨w.heap.size + 1, 0, none⟩ = false := by
          rw [B.out.frozen (p := ⟨w.heap.size + 1, 0, none⟩) (by rw [hz]; simp <;> omega)]; simp [go_sem]
        have f2 : (Lib.bytesWorld ((((w.alloc (.cells #[.int .i64 0] 2)).alloc (.cells #[.int .i64 0] 3)).alloc (.cells #[.int .i64 0] 23)).drewN nd) 5 T).frozen? ⟨w.heap.size + 1 + 1, 0, none⟩ = false := by
          rw [B.out.frozen (p := ⟨w.heap.size + 1 + 1, 0, none⟩) (by rw [hz]; simp <;> omega)]; simp [go_sem]
        have hB : Below w.heap.size w (Lib.bytesWorld ((((w.alloc (.cells #[.int .i64 0] 2)).alloc (.cells #[.int .i64 0] 3)).alloc (.cells #[.int .i64 0] 23)).drewN nd) 5 T) :=
          below_then (belowN ((((Below.refl _ _).alloc (Nat.le_refl _) _).alloc (by simp) _).alloc (by simp; omega) _) nd) (by rw [hz]; omega) B.out
        generalize Lib.bytesWorld ((((w.alloc (.cells #[.int .i64 0] 2)).alloc (.cells #[.int .i64 0] 3)).alloc (.cells #[.int .i64 0] 23)).drewN nd) 5 T = W at k0 k1 k2 f0 f1 f2 hB ⊢
        cases hj : joinV low sg with
        | none =>
          rw [hj] at hr
          obtain ⟨rfl, rfl, rfl⟩ : 0 = r1 ∧ 0 = r2 ∧ 3 = r3 := ⟨congrArg (·.1) hr, congrArg (·.2.1) hr, congrArg (·.2.2) hr⟩
          refine (joined_none low sg _ hj).mono ?_
          rintro e w' ⟨rfl, rfl⟩
          exact read_ends _ w.heap.size 3 w _ rfl rfl rfl rfl k0 k1 k2 f0 f1 f2 (Nat.le_refl _) hB
        | some v =>
          rw [hj] at hr
          obtain ⟨rfl, rfl, rfl⟩ : v = r1 ∧ d = r2 ∧ 0 = r3 := ⟨congrArg (·.1) hr, congrArg (·.2.1) hr, congrArg (·.2.2) hr⟩
          refine (joined_some low sg v _ HA.out.2.1 hj).mono ?_
          rintro e w' ⟨rfl, rfl⟩
          have HB := Lib.hid hB; clear hB
          have HJ := Lib.hid hj; clear hj hr hR
          go_wp2
          have s0 := World.cell?_setCell_same _ _ (v := .int .i64 v) k0
          have s1 : (W.setCell ⟨w.heap.size, 0, none⟩ (.int .i64 v)).cell? ⟨w.heap.size + 1, 0, none⟩ = some (.int .i64 0) := by rw [World.cell?_setCell_far _ _ _ _ (by simp)]; exact k1
          have u1 := World.cell?_setCell_same _ _ (v := .int .i64 d) s1
          have s2 : ((W.setCell ⟨w.heap.size, 0, none⟩ (.int .i64 v)).setCell ⟨w.heap.size + 1, 0, none⟩ (.int .i64 d)).cell? ⟨w.heap.size + 1 + 1, 0, none⟩ = some (.int .i64 0) := by rw [World.cell?_setCell_far _ _ _ _ (by simp <;> omega), World.cell?_setCell_far _ _ _ _ (by simp <;> omega)]; exact k2
          refine read_leaves _ w.heap.size v d w _ rfl rfl rfl ?_ ?_ ?_ ?_
          · rw [World.cell?_setCell_far _ _ _ _ (by simp <;> omega), World.cell?_setCell_far _ _ _ _ (by simp <;> omega)]; exact s0
          · rw [World.cell?_setCell_far _ _ _ _ (by simp <;> omega)]; exact u1
          · exact World.cell?_setCell_same _ _ (v := .int .i64 0) s2
          · exact ((HB.out.setCell (by simp) _).setCell (by simp) _).setCell (by simp <;> omega) _
      | succ k1 =>
        have hcell := Lib.bytesWorld_cell ((((w.alloc (.cells #[.int .i64 0] 2)).alloc (.cells #[.int .i64 0] 3)).alloc (.cells #[.int .i64 0] 23)).drewN nd) 5 T i (by have := HA.out; omega)
        have hi : decide ((i : Int) < (T.size : Int)) = true := decide_eq_true (by have := HA.out; omega)
        have hi2 : decide (i < T.size) = true := decide_eq_true (by have := HA.out; omega)
        have hz : ((((w.alloc (.cells #[.int .i64 0] 2)).alloc (.cells #[.int .i64 0] 3)).alloc (.cells #[.int .i64 0] 23)).drewN nd).heap.size = w.heap.size + 1 + 1 + 1 := by simp
        rw [hz] at hcell
        clear hz
        have HW := Lib.hid (Lib.bytesWorld_below ((((w.alloc (.cells #[.int .i64 0] 2)).alloc (.cells #[.int .i64 0] 3)).alloc (.cells #[.int .i64 0] 23)).drewN nd) 5 T)
        generalize hWg : Lib.bytesWorld ((((w.alloc (.cells #[.int .i64 0] 2)).alloc (.cells #[.int .i64 0] 3)).alloc (.cells #[.int .i64 0] 23)).drewN nd) 5 T = W at hcell HW ⊢
        have HWG := Lib.hid hWg; clear hWg
        have hdi := HDIG.out i (of_decide_eq_true hi2)
        obtain ⟨by_, hby⟩ : ∃ y, (T.data.toList.getD i 0).toNat = y := ⟨_, rfl⟩
        rw [hby] at hcell hdi
        obtain ⟨dg, rfl⟩ : ∃ dg, by_ = dg + 48 := ⟨by_ - 48, by omega⟩
        have hd9 : dg ≤ 9 := by omega
        have hd48 : (((dg + 48 : Nat) : Int) - 48) = (dg : Int) := by omega
        have hadd : ∀ (x : Nat) (W : World), (callFunc 38 #[.int .u64 x, .int .u64 dg, .int .u64 0]).run Tryd.prog W = .ok (.value (.tuple #[.int .u64 (((x + dg + 0) % 18446744073709551616 : Nat) : Int), .int .u64 (((x + dg + 0) / 18446744073709551616 : Nat) : Int)])) W := fun x W => run_add x dg 0 (by decide) W
        clear hdi
        have HDG := Lib.hid hby; clear hby
        have HV := Lib.hid (show digV T (k1 + 1) i low = if low * 10 + dg < 18446744073709551616 then digV T k1 (i + 1) (low * 10 + dg) else none by rw [digV, HDG.out]; simp)
        have hi3 : i < T.size := of_decide_eq_true hi2
        have hm : ∀ W, Calls Tryd.prog 37 #[.int .u64 low, .int .u64 10] W fun e w' => e = .returned (.tuple #[.int .u64 ((low * 10 / 18446744073709551616 : Nat) : Int), .int .u64 ((low * 10 % 18446744073709551616 : Nat) : Int)]) ∧ w' = W := fun W => Tryd.bits_Mul64 low 10 HA.out.2.1 (by decide) W
        have HM := Lib.hid hm
        clear hm
        obtain ⟨mh, hmh⟩ : ∃ y, low * 10 / 18446744073709551616 = y := ⟨_, rfl⟩
        obtain ⟨ml, hml⟩ : ∃ y, low * 10 % 18446744073709551616 = y := ⟨_, rfl⟩
        rw [hmh, hml] at HM
        have HML := Lib.hid (And.intro hmh hml); clear hmh hml
        go_wp2_with fail
        refine (HM.out _).mono ?_
        rintro e w' ⟨rfl, rfl⟩
        go_wp2_with fail
        cases ht : (IntKind.u64.wrap ((mh : Int) + ((ml : Int) + (dg : Int)) / 18446744073709551616) != 0) with
        | true =>
          refine (wrong_yes _ _).mono ?_
          rintro e w' ⟨rfl, rfl⟩
          have hnone : digV T T.size 0 0 = none := by
            rw [← HA.out.2.2, HV.out, if_neg]
            have h1 := HML.out.1
            have h2 := HML.out.2
            intro h3
            have : mh = 0 := by omega
            subst this
            have : low * 10 = ml := by omega
            have e0 : ((0 : Nat) : Int) + ((ml : Int) + (dg : Int)) / 18446744073709551616 = 0 := by omega
            rw [e0] at ht
            exact absurd ht (by decide)
          have hr := HRES.out
          rw [hnone] at hr
          simp only [resV, Option.bind_none] at hr
          obtain ⟨rfl, rfl, rfl⟩ : 0 = r1 ∧ 0 = r2 ∧ 3 = r3 := by
            refine ⟨congrArg (·.1) hr, congrArg (·.2.1) hr, congrArg (·.2.2) hr⟩
          have B := HW.out
          have hz : ((((w.alloc (.cells #[.int .i64 0] 2)).alloc (.cells #[.int .i64 0] 3)).alloc (.cells #[.int .i64 0] 23)).drewN nd).heap.size = w.heap.size + 1 + 1 + 1 := by simp
          refine read_ends _ w.heap.size 3 w w' rfl rfl rfl rfl ?_ ?_ ?_ ?_ ?_ ?_ (Nat.le_refl _) ?_
          · rw [B.cell (p := ⟨w.heap.size, 0, none⟩) (by rw [hz]; simp <;> omega)]; simp [go_sem]
          · rw [B.cell (p := ⟨w.heap.size + 1, 0, none⟩) (by rw [hz]; simp <;> omega)]; simp [go_sem]
          · rw [B.cell (p := ⟨w.heap.size + 1 + 1, 0, none⟩) (by rw [hz]; simp <;> omega)]; simp [go_sem]
          · rw [B.frozen (p := ⟨w.heap.size, 0, none⟩) (by rw [hz]; simp <;> omega)]; simp [go_sem]
          · rw [B.frozen (p := ⟨w.heap.size + 1, 0, none⟩) (by rw [hz]; simp <;> omega)]; simp [go_sem]
          · rw [B.frozen (p := ⟨w.heap.size + 1 + 1, 0, none⟩) (by rw [hz]; simp <;> omega)]; simp [go_sem]
          · exact below_then (belowN ((((Below.refl _ _).alloc (Nat.le_refl _) _).alloc (by simp) _).alloc (by simp; omega) _) nd) (by rw [hz]; omega) B
        | false =>
          refine (wrong_no _ _).mono ?_
          rintro e w' ⟨rfl, rfl⟩
          have HT := Lib.hid ht; clear ht
          go_wp2
          go_roundg k1
          case measure => omega
          case rel =>
            have hlt : low * 10 + dg < 18446744073709551616 ∧ (ml + dg) % 18446744073709551616 = low * 10 + dg := by
              have h1 := HML.out.1
              have h2 := HML.out.2
              have h3 := HT.out
              have h4 := HA.out.2.1
              rw [wmod] at h3
              simp only [bne_eq_false_iff_eq] at h3
              omega
            refine ⟨low * 10 + dg, i + 1, ?_, ?_, ⟨⟨?_, hlt.1, ?_⟩⟩, ?_⟩
            · rw [← hlt.2]; simp
            · simp
            · have := HA.out.1; omega
            · rw [← HA.out.2.2, HV.out, if_pos hlt.1]
            · exact HWG.out.symm
end Go.Proofs.YtgodmbcebpbdiaaDoor.G
end

/- dec.Read, walked: where a point with figures follows. -/
section
set_option linter.unusedVariables false
set_option linter.unusedSimpArgs false
namespace Go.Proofs.YtgodmbcebpbdiaaDoor.G
open Go.RowKit Go.Proofs.YtgodmbcebpbdiaaDoorW.PrintWords Go.Proofs.YtgodmbcebpbdiaaDoorW.PrintLast Go.Proofs.YtgodmbcebpbdiaaDoorW.PrintMore
set_option maxHeartbeats 4000000 in
set_option maxRecDepth 100000 in
theorem read_dot (s : ByteArray) (a b d : Int) (w : World)
    (hs : ∀ w, Calls Tryd.prog 35 #[.string s] w fun e w' => e = .returned (.tuple #[.int .i64 a, .int .i64 b, .int .i64 b, .int .i64 d]) ∧ Drawn0 w w')
    (h2 : decide (d ≤ b + 1) = false) (h3 : decide (b < d) = true) (b0 : 0 ≤ b) (bc : b ≤ b) (cd : b + 1 < d) (ds : d ≤ s.size) (hsz : s.size ≤ 281474976710656) (hc : wrap64 (b + 1) = b + 1) (T : ByteArray)
    (hdig : ∀ i, i < T.size → 48 ≤ (T.data.toList.getD i 0).toNat ∧ (T.data.toList.getD i 0).toNat ≤ 57)
    (a0 : 0 ≤ a) (a1 : a < s.size) (sg : Bool) (hsg : ∀ h : a.toNat < s.size, (((s[a.toNat]'h).toNat : Int) == 45) = sg)
    (hTz : T.size ≤ 1125899906842624)
    (r1 r2 r3 : Int) (hres : resV (digV T T.size 0 0) sg d = (r1, r2, r3))
    (hT : (s.extract (b + 1).toNat d.toNat ++ ⟨#[48, 48, 48, 48, 48, 48]⟩).extract 0 6 = T) :
    Calls Tryd.prog 13 #[.string s] w fun x w' => x = .returned (.tuple #[.int .i64 r1, .int .i64 r2, .int .i64 r3]) ∧ Below w.heap.size w w' := by
    have HRES := Lib.hid hres; clear hres
    have HSG := Lib.hid hsg; clear hsg
    have hcv := fun W : World => Lib.run_convert_string_bytes (P := Tryd.prog) W 9 31 5 T Tryd.underlying9 Tryd.underlying31 Tryd.underlying5
    go_enter_defers Tryd.func13, Tryd.ntmps13
    go_wp2_with fail
    refine (hs _).mono ?_
    rintro e w' ⟨rfl, nd, rfl⟩
    clear hs
    go_wp2_with fail
    refine (wrong_no _ _).mono ?_
    rintro e w' ⟨rfl, rfl⟩
    go_wp2_with fail
    clear hcv
    have HDIG := Lib.hid hdig; clear hdig
    go_loopg [10, 53] T.size (fun kq v0 v1 w' => ∃ (low i : Nat), v0 = .int .u64 low ∧ v1 = .int .i64 i ∧ Aside0 (kq + i = T.size ∧ low < 18446744073709551616 ∧ digV T kq i low = digV T T.size 0 0) ∧ w' = Lib.bytesWorld ((((w.alloc (.cells #[.int .i64 0] 2)).alloc (.cells #[.int .i64 0] 3)).alloc (.cells #[.int .i64 0] 23)).drewN nd) 5 T)
    case atStart => exact ⟨0, 0, rfl, rfl, ⟨⟨by omega, by omega, rfl⟩⟩, rfl⟩
    case round =>
      obtain ⟨low, i, rfl, rfl, HA, rfl⟩ := hrel
      cases gk with
      | zero =>
        have hi2 : decide ((i : Int) < (T.size : Int)) = false := decide_eq_false (by have := HA.out; omega)
        have hi3 : decide (i < T.size) = false := decide_eq_false (by have := HA.out; omega)
        go_wp2_with fail
        rw [HSG.out]
        have hR : digV T T.size 0 0 = some low := by rw [← HA.out.2.2, digV]
        have hr := HRES.out
        rw [hR] at hr
        simp only [resV, Option.bind_some] at hr
        have B := Lib.hid (Lib.bytesWorld_below ((((w.alloc (.cells #[.int .i64 0] 2)).alloc (.cells #[.int .i64 0] 3)).alloc (.cells #[.int .i64 0] 23)).drewN nd) 5 T)
        have hz : ((((w.alloc (.cells #[.int .i64 0] 2)).alloc (.cells #[.int .i64 0] 3)).alloc (.cells #[.int .i64 0] 23)).drewN nd).heap.size = w.heap.size + 1 + 1 + 1 := by simp
        have k0 : (Lib.bytesWorld ((((w.alloc (.cells #[.int .i64 0] 2)).alloc (.cells #[.int .i64 0] 3)).alloc (.cells #[.int .i64 0] 23)).drewN nd) 5 T).cell? ⟨w.heap.size, 0, none⟩ = some (.int .i64 0) := by
          rw [B.out.cell (p := ⟨w.heap.size, 0, none⟩) (by rw [hz]; simp <;> omega)]; simp [go_sem]
        have k1 : (Lib.bytesWorld ((((w.alloc (.cells #[.int .i64 0] 2)).alloc (.cells #[.int .i64 0] 3)).alloc (.cells #[.int .i64 0] 23)).drewN nd) 5 T).cell? ⟨w.heap.size + 1, 0, none⟩ = some (.int .i64 0) := by
          rw [B.out.cell (p := ⟨w.heap.size + 1, 0, none⟩) (by rw [hz]; simp <;> omega)]; simp [go_sem]
        have k2 : (Lib.bytesWorld ((((w.alloc (.cells #[.int .i64 0] 2)).alloc (.cells #[.int .i64 0] 3)).alloc (.cells #[.int .i64 0] 23)).drewN nd) 5 T).cell? ⟨w.heap.size + 1 + 1, 0, none⟩ = some (.int .i64 0) := by
          rw [B.out.cell (p := ⟨w.heap.size + 1 + 1, 0, none⟩) (by rw [hz]; simp <;> omega)]; simp [go_sem]
        have f0 : (Lib.bytesWorld ((((w.alloc (.cells #[.int .i64 0] 2)).alloc (.cells #[.int .i64 0] 3)).alloc (.cells #[.int .i64 0] 23)).drewN nd) 5 T).frozen? ⟨w.heap.size, 0, none⟩ = false := by
          rw [B.out.frozen (p := ⟨w.heap.size, 0, none⟩) (by rw [hz]; simp <;> omega)]; simp [go_sem]
        have f1 : (Lib.bytesWorld ((((w.alloc (.cells #[.int .i64 0] 2)).alloc (.cells #[.int .i64 0] 3)).alloc (.cells #[.int .i64 0] 23)).drewN nd) 5 T).frozen? ⟨w.heap.size + 1, 0, none⟩ = false := by
          rw [B.out.frozen (p := ⟨w.heap.size + 1, 0, none⟩) (by rw [hz]; simp <;> omega)]; simp [go_sem]
        have f2 : (Lib.bytesWorld ((((w.alloc (.cells #[.int .i64 0] 2)).alloc (.cells #[.int .i64 0] 3)).alloc (.cells #[.int .i64 0] 23)).drewN nd) 5 T).frozen? ⟨w.heap.size + 1 + 1, 0, none⟩ = false := by
          rw [B.out.frozen (p := ⟨w.heap.size + 1 + 1, 0, none⟩) (by rw [hz]; simp <;> omega)]; simp [go_sem]
        have hB : Below w.heap.size w (Lib.bytesWorld ((((w.alloc (.cells #[.int .i64 0] 2)).alloc (.cells #[.int .i64 0] 3)).alloc (.cells #[.int .i64 0] 23)).drewN nd) 5 T) :=
          below_then (belowN ((((Below.refl _ _).alloc (Nat.le_refl _) _).alloc (by simp) _).alloc (by simp; omega) _) nd) (by rw [hz]; omega) B.out
        generalize Lib.bytesWorld ((((w.alloc (.cells #[.int .i64 0] 2)).alloc (.cells #[.int .i64 0] 3)).alloc (.cells #[.int .i64 0] 23)).drewN nd) 5 T = W at k0 k1 k2 f0 f1 f2 hB ⊢
        cases hj : joinV low sg with
        | none =>
          rw [hj] at hr
          obtain ⟨rfl, rfl, rfl⟩ : 0 = r1 ∧ 0 = r2 ∧ 3 = r3 := ⟨congrArg (·.1) hr, congrArg (·.2.1) hr, congrArg (·.2.2) hr⟩
          refine (joined_none low sg _ hj).mono ?_
          rintro e w' ⟨rfl, rfl⟩
          exact read_ends _ w.heap.size 3 w _ rfl rfl rfl rfl k0 k1 k2 f0 f1 f2 (Nat.le_refl _) hB
        | some v =>
          rw [hj] at hr
          obtain ⟨rfl, rfl, rfl⟩ : v = r1 ∧ d = r2 ∧ 0 = r3 := ⟨congrArg (·.1) hr, congrArg (·.2.1) hr, congrArg (·.2.2) hr⟩
          refine (joined_some low sg v _ HA.out.2.1 hj).mono ?_
          rintro e w' ⟨rfl, rfl⟩
          have HB := Lib.hid hB; clear hB
          have HJ := Lib.hid hj; clear hj hr hR
          go_wp2
          have s0 := World.cell?_setCell_same _ _ (v := .int .i64 v) k0
          have s1 : (W.setCell ⟨w.heap.size, 0, none⟩ (.int .i64 v)).cell? ⟨w.heap.size + 1, 0, none⟩ = some (.int .i64 0) := by rw [World.cell?_setCell_far _ _ _ _ (by simp)]; exact k1
          have u1 := World.cell?_setCell_same _ _ (v := .int .i64 d) s1
          have s2 : ((W.setCell ⟨w.heap.size, 0, none⟩ (.int .i64 v)).setCell ⟨w.heap.size + 1, 0, none⟩ (.int .i64 d)).cell? ⟨w.heap.size + 1 + 1, 0, none⟩ = some (.int .i64 0) := by rw [World.cell?_setCell_far _ _ _ _ (by simp <;> omega), World.cell?_setCell_far _ _ _ _ (by simp <;> omega)]; exact k2
          refine read_leaves _ w.heap.size v d w _ rfl rfl rfl ?_ ?_ ?_ ?_
          · rw [World.cell?_setCell_far _ _ _ _ (by simp <;> omega), World.cell?_setCell_far _ _ _ _ (by simp <;> omega)]; exact s0
          · rw [World.cell?_setCell_far _ _ _ _ (by simp <;> omega)]; exact u1
          · exact World.cell?_setCell_same _ _ (v := .int .i64 0) s2
          · exact ((HB.out.setCell (by simp) _).setCell (by simp) _).setCell (by simp <;> omega) _
      | succ k1 =>
        have hcell := Lib.bytesWorld_cell ((((w.alloc (.cells #[.int .i64 0] 2)).alloc (.cells #[.int .i64 0] 3)).alloc (.cells #[.int .i64 0] 23)).drewN nd) 5 T i (by have := HA.out; omega)
        have hi : decide ((i : Int) < (T.size : Int)) = true := decide_eq_true (by have := HA.out; omega)
        have hi2 : decide (i < T.size) = true := decide_eq_true (by have := HA.out; omega)
        have hz : ((((w.alloc (.cells #[.int .i64 0] 2)).alloc (.cells #[.int .i64 0] 3)).alloc (.cells #[.int .i64 0] 23)).drewN nd).heap.size = w.heap.size + 1 + 1 + 1 := by simp
        rw [hz] at hcell
        clear hz
        have HW := Lib.hid (Lib.bytesWorld_below ((((w.alloc (.cells #[.int .i64 0] 2)).alloc (.cells #[.int .i64 0] 3)).alloc (.cells #[.int .i64 0] 23)).drewN nd) 5 T)
        generalize hWg : Lib.bytesWorld ((((w.alloc (.cells #[.int .i64 0] 2)).alloc (.cells #[.int .i64 0] 3)).alloc (.cells #[.int .i64 0] 23)).drewN nd) 5 T = W at hcell HW ⊢
        have HWG := Lib.hid hWg; clear hWg
        have hdi := HDIG.out i (of_decide_eq_true hi2)
        obtain ⟨by_, hby⟩ : ∃ y, (T.data.toList.getD i 0).toNat = y := ⟨_, rfl⟩
        rw [hby] at hcell hdi
        obtain ⟨dg, rfl⟩ : ∃ dg, by_ = dg + 48 := ⟨by_ - 48, by omega⟩
        have hd9 : dg ≤ 9 := by omega
        have hd48 : (((dg + 48 : Nat) : Int) - 48) = (dg : Int) := by omega
        have hadd : ∀ (x : Nat) (W : World), (callFunc 38 #[.int .u64 x, .int .u64 dg, .int .u64 0]).run Tryd.prog W = .ok (.value (.tuple #[.int .u64 (((x + dg + 0) % 18446744073709551616 : Nat) : Int), .int .u64 (((x + dg + 0) / 18446744073709551616 : Nat) : Int)])) W := fun x W => run_add x dg 0 (by decide) W
        clear hdi
        have HDG := Lib.hid hby; clear hby
        have HV := Lib.hid (show digV T (k1 + 1) i low = if low * 10 + dg < 18446744073709551616 then digV T k1 (i + 1) (low * 10 + dg) else none by rw [digV, HDG.out]; simp)
        have hi3 : i < T.size := of_decide_eq_true hi2
        have hm : ∀ W, Calls Tryd.prog 37 #[.int .u64 low, .int .u64 10] W fun e w' => e = .returned (.tuple #[.int .u64 ((low * 10 / 18446744073709551616 : Nat) : Int), .int .u64 ((low * 10 % 18446744073709551616 : Nat) : Int)]) ∧ w' = W := fun W => Tryd.bits_Mul64 low 10 HA.out.2.1 (by decide) W
        have HM := Lib.hid hm
        clear hm
        obtain ⟨mh, hmh⟩ : ∃ y, low * 10 / 18446744073709551616 = y := ⟨_, rfl⟩
        obtain ⟨ml, hml⟩ : ∃ y, low * 10 % 18446744073709551616 = y := ⟨_, rfl⟩
        rw [hmh, hml] at HM
        have HML := Lib.hid (And.intro hmh hml); clear hmh hml
        go_wp2_with fail
        refine (HM.out _).mono ?_
        rintro e w' ⟨rfl, rfl⟩
        go_wp2_with fail
        cases ht : (IntKind.u64.wrap ((mh : Int) + ((ml : Int) + (dg : Int)) / 18446744073709551616) != 0) with
        | true =>
          refine (wrong_yes _ _).mono ?_
          rintro e w' ⟨rfl, rfl⟩
          have hnone : digV T T.size 0 0 = none := by
            rw [← HA.out.2.2, HV.out, if_neg]
            have h1 := HML.out.1
            have h2 := HML.out.2
            intro h3
            have : mh = 0 := by omega
            subst this
            have : low * 10 = ml := by omega
            have e0 : ((0 : Nat) : Int) + ((ml : Int) + (dg : Int)) / 18446744073709551616 = 0 := by omega
            rw [e0] at ht
            exact absurd ht (by decide)
          have hr := HRES.out
          rw [hnone] at hr
          simp only [resV, Option.bind_none] at hr
          obtain ⟨rfl, rfl, rfl⟩ : 0 = r1 ∧ 0 = r2 ∧ 3 = r3 := by
            refine ⟨congrArg (·.1) hr, congrArg (·.2.1) hr, congrArg (·.2.2) hr⟩
          have B := HW.out
          have hz : ((((w.alloc (.cells #[.int .i64 0] 2)).alloc (.cells #[.int .i64 0] 3)).alloc (.cells #[.int .i64 0] 23)).drewN nd).heap.size = w.heap.size + 1 + 1 + 1 := by simp
          refine read_ends _ w.heap.size 3 w w' rfl rfl rfl rfl ?_ ?_ ?_ ?_ ?_ ?_ (Nat.le_refl _) ?_
          · rw [B.cell (p := ⟨w.heap.size, 0, none⟩) (by rw [hz]; simp <;> omega)]; simp [go_sem]
          · rw [B.cell (p := ⟨w.heap.size + 1, 0, none⟩) (by rw [hz]; simp <;> omega)]; simp [go_sem]
          · rw [B.cell (p := ⟨w.heap.size + 1 + 1, 0, none⟩) (by rw [hz]; simp <;> omega)]; simp [go_sem]
          · rw [B.frozen (p := ⟨w.heap.size, 0, none⟩) (by rw [hz]; simp <;> omega)]; simp [go_sem]
          · rw [B.frozen (p := ⟨w.heap.size + 1, 0, none⟩) (by rw [hz]; simp <;> omega)]; simp [go_sem]
          · rw [B.frozen (p := ⟨w.heap.size + 1 + 1, 0, none⟩) (by rw [hz]; simp <;> omega)]; simp [go_sem]
          · exact below_then (belowN ((((Below.refl _ _).alloc (Nat.le_refl _) _).alloc (by simp) _).alloc (by simp; omega) _) nd) (by rw [hz]; omega) B
        | false =>
          refine (wrong_no _ _).mono ?_
          rintro e w' ⟨rfl, rfl⟩
          have HT := Lib.hid ht; clear ht
          go_wp2
          go_roundg k1
          case measure => omega
          case rel =>
            have hlt : low * 10 + dg < 18446744073709551616 ∧ (ml + dg) % 18446744073709551616 = low * 10 + dg := by
              have h1 := HML.out.1
              have h2 := HML.out.2
              have h3 := HT.out
              have h4 := HA.out.2.1
              rw [wmod] at h3
              simp only [bne_eq_false_iff_eq] at h3
              omega
            refine ⟨low * 10 + dg, i + 1, ?_, ?_, ⟨⟨?_, hlt.1, ?_⟩⟩, ?_⟩
            · rw [← hlt.2]; simp
            · simp
            · have := HA.out.1; omega
            · rw [← HA.out.2.2, HV.out, if_pos hlt.1]
            · exact HWG.out.symm
end Go.Proofs.YtgodmbcebpbdiaaDoor.G
end

/- dec.Read, walked: where a point with figures follows. -/
section
set_option linter.unusedVariables false
set_option linter.unusedSimpArgs false
namespace Go.Proofs.YtgodmbcebpbdiaaDoor.G
open Go.RowKit Go.Proofs.YtgodmbcebpbdiaaDoorW.PrintWords Go.Proofs.YtgodmbcebpbdiaaDoorW.PrintLast Go.Proofs.YtgodmbcebpbdiaaDoorW.PrintMore
set_option maxHeartbeats 4000000 in
set_option maxRecDepth 100000 in
theorem read_whole (s : ByteArray) (a b c d : Int) (w : World)
    (hs : ∀ w, Calls Tryd.prog 35 #[.string s] w fun e w' => e = .returned (.tuple #[.int .i64 a, .int .i64 b, .int .i64 c, .int .i64 d]) ∧ Drawn0 w w')
    (h1 : (c == b) = false) (h3 : decide (c < d) = false) (b0 : 0 ≤ b) (bc : b ≤ c) (cd : c ≤ d) (ds : d ≤ s.size) (hsz : s.size ≤ 281474976710656) (hc : wrap64 (c + 1) = c + 1) (T : ByteArray)
    (hdig : ∀ i, i < T.size → 48 ≤ (T.data.toList.getD i 0).toNat ∧ (T.data.toList.getD i 0).toNat ≤ 57)
    (a0 : 0 ≤ a) (a1 : a < s.size) (sg : Bool) (hsg : ∀ h : a.toNat < s.size, (((s[a.toNat]'h).toNat : Int) == 45) = sg)
    (hTz : T.size ≤ 1125899906842624)
    (r1 r2 r3 : Int) (hres : resV (digV T T.size 0 0) sg d = (r1, r2, r3))
    (hT : s.extract b.toNat c.toNat ++ ((⟨#[]⟩ : ByteArray) ++ ⟨#[48, 48, 48, 48, 48, 48]⟩).extract 0 6 = T) :
    Calls Tryd.prog 13 #[.string s] w fun x w' => x = .returned (.tuple #[.int .i64 r1, .int .i64 r2, .int .i64 r3]) ∧ Below w.heap.size w w' := by
    have HRES := Lib.hid hres; clear hres
    have HSG := Lib.hid hsg; clear hsg
    have hcv := fun W : World => Lib.run_convert_string_bytes (P := Tryd.prog) W 9 31 5 T Tryd.underlying9 Tryd.underlying31 Tryd.underlying5
    go_enter_defers Tryd.func13, Tryd.ntmps13
    go_wp2_with fail
    refine (hs _).mono ?_
    rintro e w' ⟨rfl, nd, rfl⟩
    clear hs
    go_wp2_with fail
    refine (wrong_no _ _).mono ?_
    rintro e w' ⟨rfl, rfl⟩
    go_wp2_with fail
    clear hcv
    have HDIG := Lib.hid hdig; clear hdig
    go_loopg [10, 53] T.size (fun kq v0 v1 w' => ∃ (low i : Nat), v0 = .int .u64 low ∧ v1 = .int .i64 i ∧ Aside0 (kq + i = T.size ∧ low < 18446744073709551616 ∧ digV T kq i low = digV T T.size 0 0) ∧ w' = Lib.bytesWorld ((((w.alloc (.cells #[.int .i64 0] 2)).alloc (.cells #[.int .i64 0] 3)).alloc (.cells #[.int .i64 0] 23)).drewN nd) 5 T)
    case atStart => exact ⟨0, 0, rfl, rfl, ⟨⟨by omega, by omega, rfl⟩⟩, rfl⟩
    case round =>
      obtain ⟨low, i, rfl, rfl, HA, rfl⟩ := hrel
      cases gk with
      | zero =>
        have hi2 : decide ((i : Int) < (T.size : Int)) = false := decide_eq_false (by have := HA.out; omega)
        have hi3 : decide (i < T.size) = false := decide_eq_false (by have := HA.out; omega)
        go_wp2_with fail
        rw [HSG.out]
        have hR : digV T T.size 0 0 = some low := by rw [← HA.out.2.2, digV]
        have hr := HRES.out
        rw [hR] at hr
        simp only [resV, Option.bind_some] at hr
        have B := Lib.hid (Lib.bytesWorld_below ((((w.alloc (.cells #[.int .i64 0] 2)).alloc (.cells #[.int .i64 0] 3)).alloc (.cells #[.int .i64 0] 23)).drewN nd) 5 T)
        have hz : ((((w.alloc (.cells #[.int .i64 0] 2)).alloc (.cells #[.int .i64 0] 3)).alloc (.cells #[.int .i64 0] 23)).drewN nd).heap.size = w.heap.size + 1 + 1 + 1 := by simp
        have k0 : (Lib.bytesWorld ((((w.alloc (.cells #[.int .i64 0] 2)).alloc (.cells #[.int .i64 0] 3)).alloc (.cells #[.int .i64 0] 23)).drewN nd) 5 T).cell? ⟨w.heap.size, 0, none⟩ = some (.int .i64 0) := by
          rw [B.out.cell (p := ⟨w.heap.size, 0, none⟩) (by rw [hz]; simp <;> omega)]; simp [go_sem]
        have k1 : (Lib.bytesWorld ((((w.alloc (.cells #[.int .i64 0] 2)).alloc (.cells #[.int .i64 0] 3)).alloc (.cells #[.int .i64 0] 23)).drewN nd) 5 T).cell? ⟨w.heap.size + 1, 0, none⟩ = some (.int .i64 0) := by
          rw [B.out.cell (p := ⟨w.heap.size + 1, 0, none⟩) (by rw [hz]; simp <;> omega)]; simp [go_sem]
        have k2 : (Lib.bytesWorld ((((w.alloc (.cells #[.int .i64 0] 2)).alloc (.cells #[.int .i64 0] 3)).alloc (.cells #[.int .i64 0] 23)).drewN nd) 5 T).cell? ⟨w.heap.size + 1 + 1, 0, none⟩ = some (.int .i64 0) := by
          rw [B.out.cell (p := ⟨w.heap.size + 1 + 1, 0, none⟩) (by rw [hz]; simp <;> omega)]; simp [go_sem]
        have f0 : (Lib.bytesWorld ((((w.alloc (.cells #[.int .i64 0] 2)).alloc (.cells #[.int .i64 0] 3)).alloc (.cells #[.int .i64 0] 23)).drewN nd) 5 T).frozen? ⟨w.heap.size, 0, none⟩ = false := by
          rw [B.out.frozen (p := ⟨w.heap.size, 0, none⟩) (by rw [hz]; simp <;> omega)]; simp [go_sem]
        have f1 : (Lib.bytesWorld ((((w.alloc (.cells #[.int .i64 0] 2)).alloc (.cells #[.int .i64 0] 3)).alloc (.cells #[.int .i64 0] 23)).drewN nd) 5 T).frozen? ⟨w.heap.size + 1, 0, none⟩ = false := by
          rw [B.out.frozen (p := ⟨w.heap.size + 1, 0, none⟩) (by rw [hz]; simp <;> omega)]; simp [go_sem]
        have f2 : (Lib.bytesWorld ((((w.alloc (.cells #[.int .i64 0] 2)).alloc (.cells #[.int .i64 0] 3)).alloc (.cells #[.int .i64 0] 23)).drewN nd) 5 T).frozen? ⟨w.heap.size + 1 + 1, 0, none⟩ = false := by
          rw [B.out.frozen (p := ⟨w.heap.size + 1 + 1, 0, none⟩) (by rw [hz]; simp <;> omega)]; simp [go_sem]
        have hB : Below w.heap.size w (Lib.bytesWorld ((((w.alloc (.cells #[.int .i64 0] 2)).alloc (.cells #[.int .i64 0] 3)).alloc (.cells #[.int .i64 0] 23)).drewN nd) 5 T) :=
          below_then (belowN ((((Below.refl _ _).alloc (Nat.le_refl _) _).alloc (by simp) _).alloc (by simp; omega) _) nd) (by rw [hz]; omega) B.out
        generalize Lib.bytesWorld ((((w.alloc (.cells #[.int .i64 0] 2)).alloc (.cells #[.int .i64 0] 3)).alloc (.cells #[.int .i64 0] 23)).drewN nd) 5 T = W at k0 k1 k2 f0 f1 f2 hB ⊢
        cases hj : joinV low sg with
        | none =>
          rw [hj] at hr
          obtain ⟨rfl, rfl, rfl⟩ : 0 = r1 ∧ 0 = r2 ∧ 3 = r3 := ⟨congrArg (·.1) hr, congrArg (·.2.1) hr, congrArg (·.2.2) hr⟩
          refine (joined_none low sg _ hj).mono ?_
          rintro e w' ⟨rfl, rfl⟩
          exact read_ends _ w.heap.size 3 w _ rfl rfl rfl rfl k0 k1 k2 f0 f1 f2 (Nat.le_refl _) hB
        | some v =>
          rw [hj] at hr
          obtain ⟨rfl, rfl, rfl⟩ : v = r1 ∧ d = r2 ∧ 0 = r3 := ⟨congrArg (·.1) hr, congrArg (·.2.1) hr, congrArg (·.2.2) hr⟩
          refine (joined_some low sg v _ HA.out.2.1 hj).mono ?_
          rintro e w' ⟨rfl, rfl⟩
          have HB := Lib.hid hB; clear hB
          have HJ := Lib.hid hj; clear hj hr hR
          go_wp2
          have s0 := World.cell?_setCell_same _ _ (v := .int .i64 v) k0
          have s1 : (W.setCell ⟨w.heap.size, 0, none⟩ (.int .i64 v)).cell? ⟨w.heap.size + 1, 0, none⟩ = some (.int .i64 0) := by rw [World.cell?_setCell_far _ _ _ _ (by simp)]; exact k1
          have u1 := World.cell?_setCell_same _ _ (v := .int .i64 d) s1
          have s2 : ((W.setCell ⟨w.heap.size, 0, none⟩ (.int .i64 v)).setCell ⟨w.heap.size + 1, 0, none⟩ (.int .i64 d)).cell? ⟨w.heap.size + 1 + 1, 0, none⟩ = some (.int .i64 0) := by rw [World.cell?_setCell_far _ _ _ _ (by simp <;> omega), World.cell?_setCell_far _ _ _ _ (by simp <;> omega)]; exact k2
          refine read_leaves _ w.heap.size v d w _ rfl rfl rfl ?_ ?_ ?_ ?_
          · rw [World.cell?_setCell_far _ _ _ _ (by simp <;> omega), World.cell?_setCell_far _ _ _ _ (by simp <;> omega)]; exact s0
          · rw [World.cell?_setCell_far _ _ _ _ (by simp <;> omega)]; exact u1
          · exact World.cell?_setCell_same _ _ (v := .int .i64 0) s2
          · exact ((HB.out.setCell (by simp) _).setCell (by simp) _).setCell (by simp <;> omega) _
      | succ k1 =>
        have hcell := Lib.bytesWorld_cell ((((w.alloc (.cells #[.int .i64 0] 2)).alloc (.cells #[.int .i64 0] 3)).alloc (.cells #[.int .i64 0] 23)).drewN nd) 5 T i (by have := HA.out; omega)
        have hi : decide ((i : Int) < (T.size : Int)) = true := decide_eq_true (by have := HA.out; omega)
        have hi2 : decide (i < T.size) = true := decide_eq_true (by have := HA.out; omega)
        have hz : ((((w.alloc (.cells #[.int .i64 0] 2)).alloc (.cells #[.int .i64 0] 3)).alloc (.cells #[.int .i64 0] 23)).drewN nd).heap.size = w.heap.size + 1 + 1 + 1 := by simp
        rw [hz] at hcell
        clear hz
        have HW := Lib.hid (Lib.bytesWorld_below ((((w.alloc (.cells #[.int .i64 0] 2)).alloc (.cells #[.int .i64 0] 3)).alloc (.cells #[.int .i64 0] 23)).drewN nd) 5 T)
        generalize hWg : Lib.bytesWorld ((((w.alloc (.cells #[.int .i64 0] 2)).alloc (.cells #[.int .i64 0] 3)).alloc (.cells #[.int .i64 0] 23)).drewN nd) 5 T = W at hcell HW ⊢
        have HWG := Lib.hid hWg; clear hWg
        have hdi := HDIG.out i (of_decide_eq_true hi2)
        obtain ⟨by_, hby⟩ : ∃ y, (T.data.toList.getD i 0).toNat = y := ⟨_, rfl⟩
        rw [hby] at hcell hdi
        obtain ⟨dg, rfl⟩ : ∃ dg, by_ = dg + 48 := ⟨by_ - 48, by omega⟩
        have hd9 : dg ≤ 9 := by omega
        have hd48 : (((dg + 48 : Nat) : Int) - 48) = (dg : Int) := by omega
        have hadd : ∀ (x : Nat) (W : World), (callFunc 38 #[.int .u64 x, .int .u64 dg, .int .u64 0]).run Tryd.prog W = .ok (.value (.tuple #[.int .u64 (((x + dg + 0) % 18446744073709551616 : Nat) : Int), .int .u64 (((x + dg + 0) / 18446744073709551616 : Nat) : Int)])) W := fun x W => run_add x dg 0 (by decide) W
        clear hdi
        have HDG := Lib.hid hby; clear hby
        have HV := Lib.hid (show digV T (k1 + 1) i low = if low * 10 + dg < 18446744073709551616 then digV T k1 (i + 1) (low * 10 + dg) else none by rw [digV, HDG.out]; simp)
        have hi3 : i < T.size := of_decide_eq_true hi2
        have hm : ∀ W, Calls Tryd.prog 37 #[.int .u64 low, .int .u64 10] W fun e w' => e = .returned (.tuple #[.int .u64 ((low * 10 / 18446744073709551616 : Nat) : Int), .int .u64 ((low * 10 % 18446744073709551616 : Nat) : Int)]) ∧ w' = W := fun W => Tryd.bits_Mul64 low 10 HA.out.2.1 (by decide) W
        have HM := Lib.hid hm
        clear hm
        obtain ⟨mh, hmh⟩ : ∃ y, low * 10 / 18446744073709551616 = y := ⟨_, rfl⟩
        obtain ⟨ml, hml⟩ : ∃ y, low * 10 % 18446744073709551616 = y := ⟨_, rfl⟩
        rw [hmh, hml] at HM
        have HML := Lib.hid (And.intro hmh hml); clear hmh hml
        go_wp2_with fail
        refine (HM.out _).mono ?_
        rintro e w' ⟨rfl, rfl⟩
        go_wp2_with fail
        cases ht : (IntKind.u64.wrap ((mh : Int) + ((ml : Int) + (dg : Int)) / 18446744073709551616) != 0) with
        | true =>
          refine (wrong_yes _ _).mono ?_
          rintro e w' ⟨rfl, rfl⟩
          have hnone : digV T T.size 0 0 = none := by
            rw [← HA.out.2.2, HV.out, if_neg]
            have h1 := HML.out.1
            have h2 := HML.out.2
            intro h3
            have : mh = 0 := by omega
            subst this
            have : low * 10 = ml := by omega
            have e0 : ((0 : Nat) : Int) + ((ml : Int) + (dg : Int)) / 18446744073709551616 = 0 := by omega
            rw [e0] at ht
            exact absurd ht (by decide)
          have hr := HRES.out
          rw [hnone] at hr
          simp only [resV, Option.bind_none] at hr
          obtain ⟨rfl, rfl, rfl⟩ : 0 = r1 ∧ 0 = r2 ∧ 3 = r3 := by
            refine ⟨congrArg (·.1) hr, congrArg (·.2.1) hr, congrArg (·.2.2) hr⟩
          have B := HW.out
          have hz : ((((w.alloc (.cells #[.int .i64 0] 2)).alloc (.cells #[.int .i64 0] 3)).alloc (.cells #[.int .i64 0] 23)).drewN nd).heap.size = w.heap.size + 1 + 1 + 1 := by simp
          refine read_ends _ w.heap.size 3 w w' rfl rfl rfl rfl ?_ ?_ ?_ ?_ ?_ ?_ (Nat.le_refl _) ?_
          · rw [B.cell (p := ⟨w.heap.size, 0, none⟩) (by rw [hz]; simp <;> omega)]; simp [go_sem]
          · rw [B.cell (p := ⟨w.heap.size + 1, 0, none⟩) (by rw [hz]; simp <;> omega)]; simp [go_sem]
          · rw [B.cell (p := ⟨w.heap.size + 1 + 1, 0, none⟩) (by rw [hz]; simp <;> omega)]; simp [go_sem]
          · rw [B.frozen (p := ⟨w.heap.size, 0, none⟩) (by rw [hz]; simp <;> omega)]; simp [go_sem]
          · rw [B.frozen (p := ⟨w.heap.size + 1, 0, none⟩) (by rw [hz]; simp <;> omega)]; simp [go_sem]
          · rw [B.frozen (p := ⟨w.heap.size + 1 + 1, 0, none⟩) (by rw [hz]; simp <;> omega)]; simp [go_sem]
          · exact below_then (belowN ((((Below.refl _ _).alloc (Nat.le_refl _) _).alloc (by simp) _).alloc (by simp; omega) _) nd) (by rw [hz]; omega) B
        | false =>
          refine (wrong_no _ _).mono ?_
          rintro e w' ⟨rfl, rfl⟩
          have HT := Lib.hid ht; clear ht
          go_wp2
          go_roundg k1
          case measure => omega
          case rel =>
            have hlt : low * 10 + dg < 18446744073709551616 ∧ (ml + dg) % 18446744073709551616 = low * 10 + dg := by
              have h1 := HML.out.1
              have h2 := HML.out.2
              have h3 := HT.out
              have h4 := HA.out.2.1
              rw [wmod] at h3
              simp only [bne_eq_false_iff_eq] at h3
              omega
            refine ⟨low * 10 + dg, i + 1, ?_, ?_, ⟨⟨?_, hlt.1, ?_⟩⟩, ?_⟩
            · rw [← hlt.2]; simp
            · simp
            · have := HA.out.1; omega
            · rw [← HA.out.2.2, HV.out, if_pos hlt.1]
            · exact HWG.out.symm
end Go.Proofs.YtgodmbcebpbdiaaDoor.G
end

/- dec.Read as a Lean function for print. -/
section
set_option linter.unusedVariables false
set_option linter.unusedSimpArgs false
namespace Go.Proofs.YtgodmbcebpbdiaaDoor.G
open Go.RowKit Go.Proofs.YtgodmbcebpbdiaaDoorW.PrintWords Go.Proofs.YtgodmbcebpbdiaaDoorW.PrintLast Go.Proofs.YtgodmbcebpbdiaaDoorW.PrintMore Go.Proofs.YtgodmbcebpbdiaaDoor.Q1
def six : ByteArray := ⟨#[48, 48, 48, 48, 48, 48]⟩
/-- The text of the figures of a numeral: six behind its point. -/
def numT (s : ByteArray) (b c d : Int) : ByteArray :=
  s.extract b.toNat c.toNat ++ (if c < d then (s.extract (c + 1).toNat d.toNat ++ ⟨#[48, 48, 48, 48, 48, 48]⟩).extract 0 6 else ((⟨#[]⟩ : ByteArray) ++ ⟨#[48, 48, 48, 48, 48, 48]⟩).extract 0 6)
def minus (s : ByteArray) (a : Int) : Bool := if h : a.toNat < s.size then (((s[a.toNat]'h).toNat : Int) == 45) else false
def readV (s : ByteArray) (a b c d : Int) : Option (Int × Int × Int) :=
  if c = b ∧ d ≤ wrap64 (c + 1) then some (0, 0, 2)
  else if (0 ≤ a ∧ a < s.size ∧ 0 ≤ b ∧ b ≤ c ∧ c ≤ d ∧ d ≤ s.size ∧ s.size ≤ 281474976710656 ∧ (numT s b c d).size ≤ 1125899906842624) ∧ ∀ i, i < (numT s b c d).size → 48 ≤ ((numT s b c d).data.toList.getD i 0).toNat ∧ ((numT s b c d).data.toList.getD i 0).toNat ≤ 57
  then some (resV (digV (numT s b c d) (numT s b c d).size 0 0) (minus s a) d) else none
theorem readV_calls (s : ByteArray) (a b c d r1 r2 r3 : Int) (w : World)
    (hs : ∀ w, Calls Tryd.prog 35 #[.string s] w fun e w' => e = .returned (.tuple #[.int .i64 a, .int .i64 b, .int .i64 c, .int .i64 d]) ∧ Drawn0 w w')
    (h : readV s a b c d = some (r1, r2, r3)) :
    Calls Tryd.prog 13 #[.string s] w fun x w' => x = .returned (.tuple #[.int .i64 r1, .int .i64 r2, .int .i64 r3]) ∧ Below w.heap.size w w' := by
  unfold readV at h
  by_cases hf : c = b ∧ d ≤ wrap64 (c + 1)
  · rw [if_pos hf] at h
    have h := Option.some.inj h
    obtain ⟨rfl, rfl, rfl⟩ : 0 = r1 ∧ 0 = r2 ∧ 2 = r3 := ⟨congrArg (·.1) h, congrArg (·.2.1) h, congrArg (·.2.2) h⟩
    exact read_form s a b c d w hs (by simp [hf.1]) (decide_eq_true hf.2)
  · rw [if_neg hf] at h
    by_cases hg : (0 ≤ a ∧ a < s.size ∧ 0 ≤ b ∧ b ≤ c ∧ c ≤ d ∧ d ≤ s.size ∧ s.size ≤ 281474976710656 ∧ (numT s b c d).size ≤ 1125899906842624) ∧ ∀ i, i < (numT s b c d).size → 48 ≤ ((numT s b c d).data.toList.getD i 0).toNat ∧ ((numT s b c d).data.toList.getD i 0).toNat ≤ 57
    · rw [if_pos hg] at h
      have hr := Option.some.inj h
      obtain ⟨⟨a0, a1, b0, bc, cd, ds, hsz, hTz⟩, hdig⟩ := hg
      have hc : wrap64 (c + 1) = c + 1 := wrapFit (by omega) (by omega)
      have hsg : ∀ h : a.toNat < s.size, (((s[a.toNat]'h).toNat : Int) == 45) = minus s a := fun h => by rw [minus, dif_pos h]
      rw [hc] at hf
      by_cases h3 : c < d
      · have hT : s.extract b.toNat c.toNat ++ (s.extract (c + 1).toNat d.toNat ++ ⟨#[48, 48, 48, 48, 48, 48]⟩).extract 0 6 = numT s b c d := by rw [numT, if_pos h3]
        by_cases h1 : c = b
        · subst h1
          exact read_dot s a c d w hs (decide_eq_false (by omega)) (decide_eq_true h3) b0 bc (by omega) ds hsz hc _ hdig a0 a1 _ hsg hTz r1 r2 r3 hr (by rw [← hT]; simp)
        · exact read_mid s a b c d w hs (by simp [h1]) (decide_eq_true h3) b0 bc (by omega) ds hsz hc _ hdig a0 a1 _ hsg hTz r1 r2 r3 hr hT
      · have hT : s.extract b.toNat c.toNat ++ ((⟨#[]⟩ : ByteArray) ++ ⟨#[48, 48, 48, 48, 48, 48]⟩).extract 0 6 = numT s b c d := by rw [numT, if_neg h3]
        exact read_whole s a b c d w hs (by simp; intro h1; exact hf ⟨h1, by omega⟩) (decide_eq_false h3) b0 bc cd ds hsz hc _ hdig a0 a1 _ hsg hTz r1 r2 r3 hr hT
    · rw [if_neg hg] at h; cases h
end Go.Proofs.YtgodmbcebpbdiaaDoor.G
end

/- dec.Read for print. -/
section
set_option linter.unusedVariables false
namespace Go.Proofs.YtgodmbcebpbdiaaDoor.G
open Go.RowKit Go.Proofs.YtgodmbcebpbdiaaDoorW.PrintWords Go.Proofs.YtgodmbcebpbdiaaDoorW.PrintLast Go.Proofs.YtgodmbcebpbdiaaDoor.Q1
def dec_Read.f (s : ByteArray) : Option (Int × Int × Int) := (dec_span.f (3 * s.size + 20) s).bind fun t => readV s t.1 t.2.1 t.2.2.1 t.2.2.2
theorem dec_Read.calls (s : ByteArray) (r1 r2 r3 : Int) (w : World) (h : dec_Read.f s = some (r1, r2, r3)) :
    Calls Tryd.prog 13 #[.string s] w fun x w' => x = .returned (.tuple #[.int .i64 r1, .int .i64 r2, .int .i64 r3]) ∧ Below w.heap.size w w' := by
  unfold dec_Read.f at h
  cases hq : dec_span.f (3 * s.size + 20) s with
  | none => rw [hq] at h; cases h
  | some t =>
    obtain ⟨a, b, c, d⟩ := t
    rw [hq] at h
    exact readV_calls s a b c d r1 r2 r3 w (fun w => dec_span.calls _ s a b c d w hq) h
end Go.Proofs.YtgodmbcebpbdiaaDoor.G
end
