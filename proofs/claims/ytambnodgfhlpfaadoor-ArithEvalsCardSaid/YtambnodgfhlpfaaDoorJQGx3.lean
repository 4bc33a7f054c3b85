/- The Go functions of this part as Lean functions, each with a proof that a call of it comes to just what the Lean function does. Written by a program of the session's. Conditions: none but those in each theorem. -/
import Derived.Test.YtambnodgfhlpfaaDoorJQGx0
import Derived.Test.YtambnodgfhlpfaaDoorJQGx1
namespace Go.Proofs.YtambnodgfhlpfaaDoor.QG
open Go.Proofs.YtambnodgfhlpfaaDoor.G Go.Proofs.YtambnodgfhlpfaaDoor.QA
open Go.RowKit Go.Proofs.YtambnodgfhlpfaaDoorW.PrintWords Go.Proofs.YtambnodgfhlpfaaDoorW.PrintLast Go.Proofs.YtambnodgfhlpfaaDoorW.PrintMore
attribute [local go_sem] max2_int min2_int max_two min_two max_three min_three max_four min_four   -- for this text's walks alone
set_option linter.unusedVariables false
set_option linter.unusedSimpArgs false

/-! ### dragomanref10_eval_blanks: function 33 -/
def dragomanref10_eval_blanks.l0 : Nat → ByteArray → Int → Int → List (S39) → Int → Int → Option (ByteArray × Int × Int × Int × Int)
  | 0, _, _, _, _, _, _ => none
  | k + 1, x1000, x1001, x1002, x1003, x1004, x1005 => if x1001 < (x1000.size : Int) then (if 0 ≤ x1001 then (if (bt x1000 x1001) = 32 then (dragomanref10_eval_blanks.l0 k x1000 (wrap64 (x1001 + 1)) x1002 x1003 x1004 x1005) else (if (bt x1000 x1001) = 9 then (dragomanref10_eval_blanks.l0 k x1000 (wrap64 (x1001 + 1)) x1002 x1003 x1004 x1005) else (if (bt x1000 x1001) = 10 then (dragomanref10_eval_blanks.l0 k x1000 (wrap64 (x1001 + 1)) x1002 x1003 x1004 x1005) else (some (x1000, x1001, x1002, x1004, x1005))))) else (none)) else (some (x1000, x1001, x1002, x1004, x1005))
def dragomanref10_eval_blanks.f (k : Nat) (s0_0 : ByteArray) (s0_1 : Int) (s0_2 : Int) (s0_3 : List (S39)) (s0_4 : Int) (s0_5 : Int) : Option (ByteArray × Int × Int × Int × Int) := dragomanref10_eval_blanks.l0 k s0_0 s0_1 s0_2 s0_3 s0_4 s0_5
theorem dragomanref10_eval_blanks.mono_l : ∀ k, (∀ y0 y1 y2 y3 y4 y5, LeO (dragomanref10_eval_blanks.l0 k y0 y1 y2 y3 y4 y5) (dragomanref10_eval_blanks.l0 (k + 1) y0 y1 y2 y3 y4 y5))
  | 0 => fun _ _ _ _ _ _ r h => by simp [dragomanref10_eval_blanks.l0] at h
  | k + 1 => by
    have ih0 := dragomanref10_eval_blanks.mono_l k
    · intro y0 y1 y2 y3 y4 y5
      unfold dragomanref10_eval_blanks.l0
      repeat' first
      | (with_reducible exact ih0 _ _ _ _ _ _)
      | (with_reducible exact LeO.refl _)
      | (with_reducible exact LeO.none _)
      | (with_reducible refine LeO.ite ?_ ?_)
      | (with_reducible refine LeO.bind ?_ (fun _ => ?_))
      | exact ih0 _ _ _ _ _ _
      | exact LeO.none _
      | refine LeO.ite ?_ ?_
      | refine LeO.bind ?_ (fun _ => ?_)
theorem dragomanref10_eval_blanks.mono : ∀ a0 a1 a2 a3 a4 a5 k, LeO (dragomanref10_eval_blanks.f k a0 a1 a2 a3 a4 a5) (dragomanref10_eval_blanks.f (k + 1) a0 a1 a2 a3 a4 a5) := by
  intro a0 a1 a2 a3 a4 a5 k
  have ih0 := dragomanref10_eval_blanks.mono_l k
  unfold dragomanref10_eval_blanks.f
  repeat' first
      | (with_reducible exact ih0 _ _ _ _ _ _)
      | (with_reducible exact LeO.refl _)
      | (with_reducible exact LeO.none _)
      | (with_reducible refine LeO.ite ?_ ?_)
      | (with_reducible refine LeO.bind ?_ (fun _ => ?_))
      | exact ih0 _ _ _ _ _ _
      | exact LeO.none _
      | refine LeO.ite ?_ ?_
      | refine LeO.bind ?_ (fun _ => ?_)
set_option maxHeartbeats 8000000 in
set_option maxRecDepth 100000 in
theorem dragomanref10_eval_blanks.calls (k : Nat) (g : Nat) (s0_0 : ByteArray) (s0_1 : Int) (s0_2 : Int) (s0_3 : List (S39)) (s0_4 : Int) (s0_5 : Int) (r1 : ByteArray) (r2 : Int) (r3 : Int) (r4 : Int) (r5 : Int) (w0 w : World) (hI : IsS67 w0 w g s0_0 s0_1 s0_2 s0_3 s0_4 s0_5) (hB : Below w0.heap.size w0 w) (h : dragomanref10_eval_blanks.f k s0_0 s0_1 s0_2 s0_3 s0_4 s0_5 = some (r1, r2, r3, r4, r5)) :
    Calls Tryd.prog 33 #[.pointer (some ⟨g, 0, none⟩)] w fun e w' => e = .returned (.tuple #[]) ∧ IsS67 w0 w' g r1 r2 r3 s0_3 r4 r5 ∧ Below w0.heap.size w0 w' ∧ KeepBut w w' g none := by
  have HI0 := Aside0.mk hI
  have HK := Aside0.mk (KeepBut.refl w g none)
  have HL := Aside0.mk hB.size
  clear hI
  have HW0 := Aside0.mk hB.size
  have HB := Aside0.mk hB
  clear hB
  have H : (dragomanref10_eval_blanks.l0 k s0_0 s0_1 s0_2 s0_3 s0_4 s0_5) = some (r1, r2, r3, r4, r5) := h
  clear h
  have H' := Aside0.mk H
  clear H
  go_enter Tryd.func33, Tryd.ntmps33
  go_wp2
  repeat (go_quiet (fail); try go_wp2)
  go_loopg [] k (fun kq w' => ∃ (x1001_1 : Int), Aside0 (dragomanref10_eval_blanks.l0 kq s0_0 x1001_1 s0_2 s0_3 s0_4 s0_5 = some (r1, r2, r3, r4, r5)) ∧ Aside0 (kq ≤ k) ∧ Aside0 (IsS67 w0 w' g s0_0 x1001_1 s0_2 s0_3 s0_4 s0_5) ∧ Aside0 (KeepBut w w' g none) ∧ Aside0 (Below w0.heap.size w0 w'))
  case atStart => exact ⟨(s0_1), H', ⟨Nat.le_refl _⟩, ⟨by repeat (first | (with_reducible first | exact HI0.out | apply IsS67.alloc | apply IsS67.drewN | apply IsS67.drew | apply IsS67.set_0 | apply IsS67.set_1 | apply IsS67.set_2 | apply IsS67.set_4 | apply IsS67.set_5) | exact HI0.out)⟩, ⟨by repeat (first | (with_reducible first | exact HK.out | apply KeepBut.set_ | apply keep_drewN | apply keep_drew | apply keep_alloc) | exact HK.out)⟩, ⟨by repeat (first | (with_reducible first | exact HB.out | apply below_alloc | apply pw_below_drewN | apply below_drew1 | refine below_set ?_ (IsS67.ge HI0.out)) | exact HB.out)⟩⟩
  case round =>
    clear H'
    obtain ⟨x1001_1, HA, HK1, HI0, HK, HB⟩ := hrel
    cases gk with
    | zero => exact absurd HA.out (by simp [dragomanref10_eval_blanks.l0])
    | succ k1 =>
      have H := HA.out
      clear HA
      simp only [dragomanref10_eval_blanks.l0] at H
      by_cases c2 : x1001_1 < (s0_0.size : Int)
      · rw [if_pos c2] at H
        have c2b0 : decide (x1001_1 < (s0_0.size : Int)) = true := decide_eq_true c2
        clear c2
        by_cases c3 : 0 ≤ x1001_1
        · rw [if_pos c3] at H
          have c3b0 : decide (0 ≤ x1001_1) = true := decide_eq_true c3
          clear c3
          by_cases c5 : (bt s0_0 x1001_1) = 32
          · rw [if_pos c5] at H
            have c5b0 : ((bt s0_0 x1001_1) == 32) = true := beq_iff_eq.mpr c5
            have c5b1 : ((bt s0_0 x1001_1) != 32) = false := bne_eq_false_iff_eq.mpr c5
            clear c5
            have H' := Aside0.mk H
            clear H
            obtain ⟨ASz6_3, cSz6_3, HGz6, hgz6, HSz6_3⟩ := HI0.out
            have hcz6_0 := cellS67_0 HGz6
            have hcz6_1 := cellS67_1 HGz6
            have hcz6_2 := cellS67_2 HGz6
            have hcz6_3 := cellS67_3 HGz6
            have hcz6_4 := cellS67_4 HGz6
            have hcz6_5 := cellS67_5 HGz6
            have hfz6_0 := blk_frozen HGz6 0
            have hfz6_1 := blk_frozen HGz6 1
            have hfz6_2 := blk_frozen HGz6 2
            have hfz6_4 := blk_frozen HGz6 4
            have hfz6_5 := blk_frozen HGz6 5
            clear HGz6 hgz6
            have p4 : 0 ≤ (x1001_1 : Int) := of_decide_eq_true (by first | (with_reducible assumption) | assumption)
            have q4 : x1001_1 < (s0_0.size : Int) := of_decide_eq_true (by first | (with_reducible assumption) | assumption)
            have hx4 := bt_at s0_0 x1001_1
            replace p4 := eq_true p4
            replace q4 := eq_true q4
            go_wp2
            repeat (go_quiet (fail); try go_wp2)
            go_roundg k1
            case measure => have := HK1.out; omega
            case rel => exact ⟨(wrap64 (x1001_1 + 1)), H', ⟨by have := HK1.out; omega⟩, ⟨by repeat (first | (with_reducible first | exact HI0.out | apply IsS67.alloc | apply IsS67.drewN | apply IsS67.drew | apply IsS67.set_0 | apply IsS67.set_1 | apply IsS67.set_2 | apply IsS67.set_4 | apply IsS67.set_5) | exact HI0.out)⟩, ⟨by repeat (first | (with_reducible first | exact HK.out | apply KeepBut.set_ | apply keep_drewN | apply keep_drew | apply keep_alloc) | exact HK.out)⟩, ⟨by repeat (first | (with_reducible first | exact HB.out | apply below_alloc | apply pw_below_drewN | apply below_drew1 | refine below_set ?_ (IsS67.ge HI0.out)) | exact HB.out)⟩⟩
          · rw [if_neg c5] at H
            have c5b0 : ((bt s0_0 x1001_1) == 32) = false := beq_eq_false_iff_ne.mpr c5
            have c5b1 : ((bt s0_0 x1001_1) != 32) = true := bne_iff_ne.mpr c5
            by_cases c8 : (bt s0_0 x1001_1) = 9
            · rw [if_pos c8] at H
              have c8b0 : ((bt s0_0 x1001_1) == 9) = true := beq_iff_eq.mpr c8
              have c8b1 : ((bt s0_0 x1001_1) != 9) = false := bne_eq_false_iff_eq.mpr c8
              clear c8
              have H' := Aside0.mk H
              clear H
              obtain ⟨ASz9_3, cSz9_3, HGz9, hgz9, HSz9_3⟩ := HI0.out
              have hcz9_0 := cellS67_0 HGz9
              have hcz9_1 := cellS67_1 HGz9
              have hcz9_2 := cellS67_2 HGz9
              have hcz9_3 := cellS67_3 HGz9
              have hcz9_4 := cellS67_4 HGz9
              have hcz9_5 := cellS67_5 HGz9
              have hfz9_0 := blk_frozen HGz9 0
              have hfz9_1 := blk_frozen HGz9 1
              have hfz9_2 := blk_frozen HGz9 2
              have hfz9_4 := blk_frozen HGz9 4
              have hfz9_5 := blk_frozen HGz9 5
              clear HGz9 hgz9
              have p4 : 0 ≤ (x1001_1 : Int) := of_decide_eq_true (by first | (with_reducible assumption) | assumption)
              have q4 : x1001_1 < (s0_0.size : Int) := of_decide_eq_true (by first | (with_reducible assumption) | assumption)
              have hx4 := bt_at s0_0 x1001_1
              replace p4 := eq_true p4
              replace q4 := eq_true q4
              have p7 : 0 ≤ (x1001_1 : Int) := of_decide_eq_true (by first | (with_reducible assumption) | assumption)
              have q7 : x1001_1 < (s0_0.size : Int) := of_decide_eq_true (by first | (with_reducible assumption) | assumption)
              have hx7 := bt_at s0_0 x1001_1
              replace p7 := eq_true p7
              replace q7 := eq_true q7
              go_wp2
              repeat (go_quiet (fail); try go_wp2)
              go_roundg k1
              case measure => have := HK1.out; omega
              case rel => exact ⟨(wrap64 (x1001_1 + 1)), H', ⟨by have := HK1.out; omega⟩, ⟨by repeat (first | (with_reducible first | exact HI0.out | apply IsS67.alloc | apply IsS67.drewN | apply IsS67.drew | apply IsS67.set_0 | apply IsS67.set_1 | apply IsS67.set_2 | apply IsS67.set_4 | apply IsS67.set_5) | exact HI0.out)⟩, ⟨by repeat (first | (with_reducible first | exact HK.out | apply KeepBut.set_ | apply keep_drewN | apply keep_drew | apply keep_alloc) | exact HK.out)⟩, ⟨by repeat (first | (with_reducible first | exact HB.out | apply below_alloc | apply pw_below_drewN | apply below_drew1 | refine below_set ?_ (IsS67.ge HI0.out)) | exact HB.out)⟩⟩
            · rw [if_neg c8] at H
              have c8b0 : ((bt s0_0 x1001_1) == 9) = false := beq_eq_false_iff_ne.mpr c8
              have c8b1 : ((bt s0_0 x1001_1) != 9) = true := bne_iff_ne.mpr c8
              by_cases c11 : (bt s0_0 x1001_1) = 10
              · rw [if_pos c11] at H
                have c11b0 : ((bt s0_0 x1001_1) == 10) = true := beq_iff_eq.mpr c11
                have c11b1 : ((bt s0_0 x1001_1) != 10) = false := bne_eq_false_iff_eq.mpr c11
                clear c11
                have H' := Aside0.mk H
                clear H
                obtain ⟨ASz12_3, cSz12_3, HGz12, hgz12, HSz12_3⟩ := HI0.out
                have hcz12_0 := cellS67_0 HGz12
                have hcz12_1 := cellS67_1 HGz12
                have hcz12_2 := cellS67_2 HGz12
                have hcz12_3 := cellS67_3 HGz12
                have hcz12_4 := cellS67_4 HGz12
                have hcz12_5 := cellS67_5 HGz12
                have hfz12_0 := blk_frozen HGz12 0
                have hfz12_1 := blk_frozen HGz12 1
                have hfz12_2 := blk_frozen HGz12 2
                have hfz12_4 := blk_frozen HGz12 4
                have hfz12_5 := blk_frozen HGz12 5
                clear HGz12 hgz12
                have p4 : 0 ≤ (x1001_1 : Int) := of_decide_eq_true (by first | (with_reducible assumption) | assumption)
                have q4 : x1001_1 < (s0_0.size : Int) := of_decide_eq_true (by first | (with_reducible assumption) | assumption)
                have hx4 := bt_at s0_0 x1001_1
                replace p4 := eq_true p4
                replace q4 := eq_true q4
                have p7 : 0 ≤ (x1001_1 : Int) := of_decide_eq_true (by first | (with_reducible assumption) | assumption)
                have q7 : x1001_1 < (s0_0.size : Int) := of_decide_eq_true (by first | (with_reducible assumption) | assumption)
                have hx7 := bt_at s0_0 x1001_1
                replace p7 := eq_true p7
                replace q7 := eq_true q7
                have p10 : 0 ≤ (x1001_1 : Int) := of_decide_eq_true (by first | (with_reducible assumption) | assumption)
                have q10 : x1001_1 < (s0_0.size : Int) := of_decide_eq_true (by first | (with_reducible assumption) | assumption)
                have hx10 := bt_at s0_0 x1001_1
                replace p10 := eq_true p10
                replace q10 := eq_true q10
                go_wp2
                repeat (go_quiet (fail); try go_wp2)
                go_roundg k1
                case measure => have := HK1.out; omega
                case rel => exact ⟨(wrap64 (x1001_1 + 1)), H', ⟨by have := HK1.out; omega⟩, ⟨by repeat (first | (with_reducible first | exact HI0.out | apply IsS67.alloc | apply IsS67.drewN | apply IsS67.drew | apply IsS67.set_0 | apply IsS67.set_1 | apply IsS67.set_2 | apply IsS67.set_4 | apply IsS67.set_5) | exact HI0.out)⟩, ⟨by repeat (first | (with_reducible first | exact HK.out | apply KeepBut.set_ | apply keep_drewN | apply keep_drew | apply keep_alloc) | exact HK.out)⟩, ⟨by repeat (first | (with_reducible first | exact HB.out | apply below_alloc | apply pw_below_drewN | apply below_drew1 | refine below_set ?_ (IsS67.ge HI0.out)) | exact HB.out)⟩⟩
              · rw [if_neg c11] at H
                have c11b0 : ((bt s0_0 x1001_1) == 10) = false := beq_eq_false_iff_ne.mpr c11
                have c11b1 : ((bt s0_0 x1001_1) != 10) = true := bne_iff_ne.mpr c11
                simp only [Option.some.injEq, Prod.mk.injEq] at H
                obtain ⟨rfl, rfl, rfl, rfl, rfl⟩ := H
                obtain ⟨ASz13_3, cSz13_3, HGz13, hgz13, HSz13_3⟩ := HI0.out
                have hcz13_0 := cellS67_0 HGz13
                have hcz13_1 := cellS67_1 HGz13
                have hcz13_2 := cellS67_2 HGz13
                have hcz13_3 := cellS67_3 HGz13
                have hcz13_4 := cellS67_4 HGz13
                have hcz13_5 := cellS67_5 HGz13
                have hfz13_0 := blk_frozen HGz13 0
                have hfz13_1 := blk_frozen HGz13 1
                have hfz13_2 := blk_frozen HGz13 2
                have hfz13_4 := blk_frozen HGz13 4
                have hfz13_5 := blk_frozen HGz13 5
                clear HGz13 hgz13
                have p4 : 0 ≤ (x1001_1 : Int) := of_decide_eq_true (by first | (with_reducible assumption) | assumption)
                have q4 : x1001_1 < (s0_0.size : Int) := of_decide_eq_true (by first | (with_reducible assumption) | assumption)
                have hx4 := bt_at s0_0 x1001_1
                replace p4 := eq_true p4
                replace q4 := eq_true q4
                have p7 : 0 ≤ (x1001_1 : Int) := of_decide_eq_true (by first | (with_reducible assumption) | assumption)
                have q7 : x1001_1 < (s0_0.size : Int) := of_decide_eq_true (by first | (with_reducible assumption) | assumption)
                have hx7 := bt_at s0_0 x1001_1
                replace p7 := eq_true p7
                replace q7 := eq_true q7
                have p10 : 0 ≤ (x1001_1 : Int) := of_decide_eq_true (by first | (with_reducible assumption) | assumption)
                have q10 : x1001_1 < (s0_0.size : Int) := of_decide_eq_true (by first | (with_reducible assumption) | assumption)
                have hx10 := bt_at s0_0 x1001_1
                replace p10 := eq_true p10
                replace q10 := eq_true q10
                go_wp2
                repeat (go_quiet (fail); try go_wp2)
                first | go_end0 | ((try simp only [Exit.inBlock, Exit.then]); refine bodyPost_ret (results_none rfl _ _ _) rfl ?_)
                exact ⟨by first | rfl | (simp [errW_none, errW_some] <;> rfl) | (simp [*, errW_none, errW_some] <;> rfl), by repeat (first | (with_reducible first | exact HI0.out | apply IsS67.alloc | apply IsS67.drewN | apply IsS67.drew | apply IsS67.set_0 | apply IsS67.set_1 | apply IsS67.set_2 | apply IsS67.set_4 | apply IsS67.set_5) | exact HI0.out), by repeat (first | (with_reducible first | exact HB.out | apply below_alloc | apply pw_below_drewN | apply below_drew1 | refine below_set ?_ (IsS67.ge HI0.out)) | exact HB.out), by repeat (first | (with_reducible first | exact HK.out | apply KeepBut.set_ | apply keep_drewN | apply keep_drew | apply keep_alloc) | exact HK.out)⟩
        · rw [if_neg c3] at H
          exact absurd H (by simp)
      · rw [if_neg c2] at H
        have c2b0 : decide (x1001_1 < (s0_0.size : Int)) = false := decide_eq_false c2
        clear c2
        simp only [Option.some.injEq, Prod.mk.injEq] at H
        obtain ⟨rfl, rfl, rfl, rfl, rfl⟩ := H
        obtain ⟨ASz14_3, cSz14_3, HGz14, hgz14, HSz14_3⟩ := HI0.out
        have hcz14_0 := cellS67_0 HGz14
        have hcz14_1 := cellS67_1 HGz14
        have hcz14_2 := cellS67_2 HGz14
        have hcz14_3 := cellS67_3 HGz14
        have hcz14_4 := cellS67_4 HGz14
        have hcz14_5 := cellS67_5 HGz14
        have hfz14_0 := blk_frozen HGz14 0
        have hfz14_1 := blk_frozen HGz14 1
        have hfz14_2 := blk_frozen HGz14 2
        have hfz14_4 := blk_frozen HGz14 4
        have hfz14_5 := blk_frozen HGz14 5
        clear HGz14 hgz14
        go_wp2
        repeat (go_quiet (fail); try go_wp2)
        first | go_end0 | ((try simp only [Exit.inBlock, Exit.then]); refine bodyPost_ret (results_none rfl _ _ _) rfl ?_)
        exact ⟨by first | rfl | (simp [errW_none, errW_some] <;> rfl) | (simp [*, errW_none, errW_some] <;> rfl), by repeat (first | (with_reducible first | exact HI0.out | apply IsS67.alloc | apply IsS67.drewN | apply IsS67.drew | apply IsS67.set_0 | apply IsS67.set_1 | apply IsS67.set_2 | apply IsS67.set_4 | apply IsS67.set_5) | exact HI0.out), by repeat (first | (with_reducible first | exact HB.out | apply below_alloc | apply pw_below_drewN | apply below_drew1 | refine below_set ?_ (IsS67.ge HI0.out)) | exact HB.out), by repeat (first | (with_reducible first | exact HK.out | apply KeepBut.set_ | apply keep_drewN | apply keep_drew | apply keep_alloc) | exact HK.out)⟩

/-! ### dragomanref10_eval_is: function 50 -/
def dragomanref10_eval_is.f (k : Nat) (s0_0 : ByteArray) (s0_1 : Int) (s0_2 : Int) (s0_3 : List (S39)) (s0_4 : Int) (s0_5 : Int) (a1 : ByteArray) : Option (Bool × ByteArray × Int × Int × Int × Int) := (dragomanref10_eval_blanks.f k s0_0 s0_1 s0_2 s0_3 s0_4 s0_5).bind fun bt135 => (if bt135.2.2.2.1 = 0 then (if (wrap64 ((bt135.1.size : Int) - bt135.2.1)) < (a1.size : Int) then (some (false, bt135.1, bt135.2.1, bt135.2.2.1, bt135.2.2.2.1, bt135.2.2.2.2)) else (if 0 ≤ bt135.2.1 then (if bt135.2.1 ≤ (wrap64 (bt135.2.1 + (a1.size : Int))) then (if (wrap64 (bt135.2.1 + (a1.size : Int))) ≤ (bt135.1.size : Int) then (if (bt135.1.extract (bt135.2.1 : Int).toNat ((wrap64 (bt135.2.1 + (a1.size : Int))) : Int).toNat).toList = a1.toList then (some (true, bt135.1, wrap64 (bt135.2.1 + (a1.size : Int)), bt135.2.2.1, bt135.2.2.2.1, bt135.2.2.2.2)) else (some (false, bt135.1, bt135.2.1, bt135.2.2.1, bt135.2.2.2.1, bt135.2.2.2.2))) else (none)) else (none)) else (none))) else (some (false, bt135.1, bt135.2.1, bt135.2.2.1, bt135.2.2.2.1, bt135.2.2.2.2)))
theorem dragomanref10_eval_is.mono : ∀ a0 a1 a2 a3 a4 a5 a6 k, LeO (dragomanref10_eval_is.f k a0 a1 a2 a3 a4 a5 a6) (dragomanref10_eval_is.f (k + 1) a0 a1 a2 a3 a4 a5 a6) := by
  intro a0 a1 a2 a3 a4 a5 a6 k
  unfold dragomanref10_eval_is.f
  repeat' first
      | (with_reducible exact dragomanref10_eval_blanks.mono _ _ _ _ _ _ _)
      | (with_reducible exact LeO.refl _)
      | (with_reducible exact LeO.none _)
      | (with_reducible refine LeO.ite ?_ ?_)
      | (with_reducible refine LeO.bind ?_ (fun _ => ?_))
      | exact dragomanref10_eval_blanks.mono _ _ _ _ _ _ _
      | exact LeO.none _
      | refine LeO.ite ?_ ?_
      | refine LeO.bind ?_ (fun _ => ?_)
set_option maxHeartbeats 8000000 in
set_option maxRecDepth 100000 in
theorem dragomanref10_eval_is.calls (k : Nat) (g : Nat) (s0_0 : ByteArray) (s0_1 : Int) (s0_2 : Int) (s0_3 : List (S39)) (s0_4 : Int) (s0_5 : Int) (a1 : ByteArray) (r1 : Bool) (r2 : ByteArray) (r3 : Int) (r4 : Int) (r5 : Int) (r6 : Int) (w0 w : World) (hI : IsS67 w0 w g s0_0 s0_1 s0_2 s0_3 s0_4 s0_5) (hB : Below w0.heap.size w0 w) (h : dragomanref10_eval_is.f k s0_0 s0_1 s0_2 s0_3 s0_4 s0_5 a1 = some (r1, r2, r3, r4, r5, r6)) :
    Calls Tryd.prog 50 #[.pointer (some ⟨g, 0, none⟩), .string a1] w fun e w' => e = .returned (.bool r1) ∧ IsS67 w0 w' g r2 r3 r4 s0_3 r5 r6 ∧ Below w0.heap.size w0 w' ∧ KeepBut w w' g none := by
  have HI0 := Aside0.mk hI
  have HK := Aside0.mk (KeepBut.refl w g none)
  have HL := Aside0.mk hB.size
  clear hI
  have HW0 := Aside0.mk hB.size
  have HB := Aside0.mk hB
  clear hB
  have H : ((dragomanref10_eval_blanks.f k s0_0 s0_1 s0_2 s0_3 s0_4 s0_5).bind fun bt135 => (if bt135.2.2.2.1 = 0 then (if (wrap64 ((bt135.1.size : Int) - bt135.2.1)) < (a1.size : Int) then (some (false, bt135.1, bt135.2.1, bt135.2.2.1, bt135.2.2.2.1, bt135.2.2.2.2)) else (if 0 ≤ bt135.2.1 then (if bt135.2.1 ≤ (wrap64 (bt135.2.1 + (a1.size : Int))) then (if (wrap64 (bt135.2.1 + (a1.size : Int))) ≤ (bt135.1.size : Int) then (if (bt135.1.extract (bt135.2.1 : Int).toNat ((wrap64 (bt135.2.1 + (a1.size : Int))) : Int).toNat).toList = a1.toList then (some (true, bt135.1, wrap64 (bt135.2.1 + (a1.size : Int)), bt135.2.2.1, bt135.2.2.2.1, bt135.2.2.2.2)) else (some (false, bt135.1, bt135.2.1, bt135.2.2.1, bt135.2.2.2.1, bt135.2.2.2.2))) else (none)) else (none)) else (none))) else (some (false, bt135.1, bt135.2.1, bt135.2.2.1, bt135.2.2.2.1, bt135.2.2.2.2)))) = some (r1, r2, r3, r4, r5, r6) := h
  clear h
  replace H := Option.bind_eq_some_iff.mp H
  obtain ⟨⟨t135, t136, t137, t138, t139⟩, A30, H⟩ := H
  replace H : (if t138 = 0 then (if (wrap64 ((t135.size : Int) - t136)) < (a1.size : Int) then (some (false, t135, t136, t137, t138, t139)) else (if 0 ≤ t136 then (if t136 ≤ (wrap64 (t136 + (a1.size : Int))) then (if (wrap64 (t136 + (a1.size : Int))) ≤ (t135.size : Int) then (if (t135.extract (t136 : Int).toNat ((wrap64 (t136 + (a1.size : Int))) : Int).toNat).toList = a1.toList then (some (true, t135, wrap64 (t136 + (a1.size : Int)), t137, t138, t139)) else (some (false, t135, t136, t137, t138, t139))) else (none)) else (none)) else (none))) else (some (false, t135, t136, t137, t138, t139))) = some (r1, r2, r3, r4, r5, r6) := H
  have A3 := Aside0.mk A30
  clear A30
  by_cases c4 : t138 = 0
  · rw [if_pos c4] at H
    have c4b0 : (t138 == 0) = true := beq_iff_eq.mpr c4
    have c4b1 : (t138 != 0) = false := bne_eq_false_iff_eq.mpr c4
    clear c4
    by_cases c5 : (wrap64 ((t135.size : Int) - t136)) < (a1.size : Int)
    · rw [if_pos c5] at H
      have c5b0 : decide ((wrap64 ((t135.size : Int) - t136)) < (a1.size : Int)) = true := decide_eq_true c5
      try (have c5b0n := c5b0; rw [wrapFit (by omega) (by omega)] at c5b0n)
      clear c5
      simp only [Option.some.injEq, Prod.mk.injEq] at H
      obtain ⟨rfl, rfl, rfl, rfl, rfl, rfl⟩ := H
      go_enter Tryd.func50, Tryd.ntmps50
      go_wp2_with (first | (go_at_call 33; (with_reducible refine (dragomanref10_eval_blanks.calls k g s0_0 s0_1 s0_2 s0_3 s0_4 s0_5 t135 t136 t137 t138 t139 w0 _ ?side1 ?side2 A3.out).mono ?_); (case side1 => repeat (first | (with_reducible first | exact HI0.out | apply IsS67.alloc | apply IsS67.drewN | apply IsS67.drew | apply IsS67.set_0 | apply IsS67.set_1 | apply IsS67.set_2 | apply IsS67.set_4 | apply IsS67.set_5) | exact HI0.out)); (case side2 => repeat (first | (with_reducible first | exact HB.out | apply below_alloc | apply pw_below_drewN | apply below_drew1 | refine below_set ?_ (IsS67.ge HI0.out)) | exact HB.out)); rintro e w6 ⟨rfl, hi, hb, hk⟩; have n0_ := Aside0.mk (KeepBut.trans (by repeat (first | (with_reducible first | exact HK.out | apply KeepBut.set_ | apply keep_drewN | apply keep_drew | apply keep_alloc) | exact HK.out)) hk (.inl rfl)); have n1_ := Aside0.mk (hb); have n2_ := Aside0.mk (hi); clear HK; clear HB; clear HI0; have HK := n0_; have HB := n1_; have HI0 := n2_; clear n0_ n1_ n2_; (try clear hb); (try clear hb2); (try clear hk); (try clear hi); obtain ⟨ASz7_3, cSz7_3, HGz7, hgz7, HSz7_3⟩ := HI0.out; have hcz7_0 := cellS67_0 HGz7; have hcz7_1 := cellS67_1 HGz7; have hcz7_2 := cellS67_2 HGz7; have hcz7_3 := cellS67_3 HGz7; have hcz7_4 := cellS67_4 HGz7; have hcz7_5 := cellS67_5 HGz7; have hfz7_0 := blk_frozen HGz7 0; have hfz7_1 := blk_frozen HGz7 1; have hfz7_2 := blk_frozen HGz7 2; have hfz7_4 := blk_frozen HGz7 4; have hfz7_5 := blk_frozen HGz7 5; clear HGz7 hgz7))
      repeat (go_quiet (first | (go_at_call 33; (with_reducible refine (dragomanref10_eval_blanks.calls k g s0_0 s0_1 s0_2 s0_3 s0_4 s0_5 t135 t136 t137 t138 t139 w0 _ ?side1 ?side2 A3.out).mono ?_); (case side1 => repeat (first | (with_reducible first | exact HI0.out | apply IsS67.alloc | apply IsS67.drewN | apply IsS67.drew | apply IsS67.set_0 | apply IsS67.set_1 | apply IsS67.set_2 | apply IsS67.set_4 | apply IsS67.set_5) | exact HI0.out)); (case side2 => repeat (first | (with_reducible first | exact HB.out | apply below_alloc | apply pw_below_drewN | apply below_drew1 | refine below_set ?_ (IsS67.ge HI0.out)) | exact HB.out)); rintro e w6 ⟨rfl, hi, hb, hk⟩; have n0_ := Aside0.mk (KeepBut.trans (by repeat (first | (with_reducible first | exact HK.out | apply KeepBut.set_ | apply keep_drewN | apply keep_drew | apply keep_alloc) | exact HK.out)) hk (.inl rfl)); have n1_ := Aside0.mk (hb); have n2_ := Aside0.mk (hi); clear HK; clear HB; clear HI0; have HK := n0_; have HB := n1_; have HI0 := n2_; clear n0_ n1_ n2_; (try clear hb); (try clear hb2); (try clear hk); (try clear hi); obtain ⟨ASz7_3, cSz7_3, HGz7, hgz7, HSz7_3⟩ := HI0.out; have hcz7_0 := cellS67_0 HGz7; have hcz7_1 := cellS67_1 HGz7; have hcz7_2 := cellS67_2 HGz7; have hcz7_3 := cellS67_3 HGz7; have hcz7_4 := cellS67_4 HGz7; have hcz7_5 := cellS67_5 HGz7; have hfz7_0 := blk_frozen HGz7 0; have hfz7_1 := blk_frozen HGz7 1; have hfz7_2 := blk_frozen HGz7 2; have hfz7_4 := blk_frozen HGz7 4; have hfz7_5 := blk_frozen HGz7 5; clear HGz7 hgz7)); try go_wp2_with (first | (go_at_call 33; (with_reducible refine (dragomanref10_eval_blanks.calls k g s0_0 s0_1 s0_2 s0_3 s0_4 s0_5 t135 t136 t137 t138 t139 w0 _ ?side1 ?side2 A3.out).mono ?_); (case side1 => repeat (first | (with_reducible first | exact HI0.out | apply IsS67.alloc | apply IsS67.drewN | apply IsS67.drew | apply IsS67.set_0 | apply IsS67.set_1 | apply IsS67.set_2 | apply IsS67.set_4 | apply IsS67.set_5) | exact HI0.out)); (case side2 => repeat (first | (with_reducible first | exact HB.out | apply below_alloc | apply pw_below_drewN | apply below_drew1 | refine below_set ?_ (IsS67.ge HI0.out)) | exact HB.out)); rintro e w6 ⟨rfl, hi, hb, hk⟩; have n0_ := Aside0.mk (KeepBut.trans (by repeat (first | (with_reducible first | exact HK.out | apply KeepBut.set_ | apply keep_drewN | apply keep_drew | apply keep_alloc) | exact HK.out)) hk (.inl rfl)); have n1_ := Aside0.mk (hb); have n2_ := Aside0.mk (hi); clear HK; clear HB; clear HI0; have HK := n0_; have HB := n1_; have HI0 := n2_; clear n0_ n1_ n2_; (try clear hb); (try clear hb2); (try clear hk); (try clear hi); obtain ⟨ASz7_3, cSz7_3, HGz7, hgz7, HSz7_3⟩ := HI0.out; have hcz7_0 := cellS67_0 HGz7; have hcz7_1 := cellS67_1 HGz7; have hcz7_2 := cellS67_2 HGz7; have hcz7_3 := cellS67_3 HGz7; have hcz7_4 := cellS67_4 HGz7; have hcz7_5 := cellS67_5 HGz7; have hfz7_0 := blk_frozen HGz7 0; have hfz7_1 := blk_frozen HGz7 1; have hfz7_2 := blk_frozen HGz7 2; have hfz7_4 := blk_frozen HGz7 4; have hfz7_5 := blk_frozen HGz7 5; clear HGz7 hgz7)))
      go_ret
      exact ⟨by first | rfl | (simp [errW_none, errW_some] <;> rfl) | (simp [*, errW_none, errW_some] <;> rfl), by repeat (first | (with_reducible first | exact HI0.out | apply IsS67.alloc | apply IsS67.drewN | apply IsS67.drew | apply IsS67.set_0 | apply IsS67.set_1 | apply IsS67.set_2 | apply IsS67.set_4 | apply IsS67.set_5) | exact HI0.out), by repeat (first | (with_reducible first | exact HB.out | apply below_alloc | apply pw_below_drewN | apply below_drew1 | refine below_set ?_ (IsS67.ge HI0.out)) | exact HB.out), by repeat (first | (with_reducible first | exact HK.out | apply KeepBut.set_ | apply keep_drewN | apply keep_drew | apply keep_alloc) | exact HK.out)⟩
    · rw [if_neg c5] at H
      have c5b0 : decide ((wrap64 ((t135.size : Int) - t136)) < (a1.size : Int)) = false := decide_eq_false c5
      try (have c5b0n := c5b0; rw [wrapFit (by omega) (by omega)] at c5b0n)
      clear c5
      by_cases c8 : 0 ≤ t136
      · rw [if_pos c8] at H
        have c8b0 := eq_true c8
        have c8b1 : decide (0 ≤ t136) = true := decide_eq_true c8
        clear c8
        by_cases c9 : t136 ≤ (wrap64 (t136 + (a1.size : Int)))
        · rw [if_pos c9] at H
          have c9b0 := eq_true c9
          have c9b1 : decide (t136 ≤ (wrap64 (t136 + (a1.size : Int)))) = true := decide_eq_true c9
          try (have c9b1n := c9b1; rw [wrapFit (by omega) (by omega)] at c9b1n)
          by_cases c10 : (wrap64 (t136 + (a1.size : Int))) ≤ (t135.size : Int)
          · rw [if_pos c10] at H
            have c10b0 := eq_true c10
            have c10b1 : decide ((wrap64 (t136 + (a1.size : Int))) ≤ (t135.size : Int)) = true := decide_eq_true c10
            try (have c10b1n := c10b1; rw [wrapFit (by omega) (by omega)] at c10b1n)
            by_cases c11 : (t135.extract (t136 : Int).toNat ((wrap64 (t136 + (a1.size : Int))) : Int).toNat).toList = a1.toList
            · rw [if_pos c11] at H
              have c11b0 : ((t135.extract (t136 : Int).toNat ((wrap64 (t136 + (a1.size : Int))) : Int).toNat).toList == a1.toList) = true := beq_iff_eq.mpr c11
              try (have c11b0n := c11b0; rw [wrapFit (by omega) (by omega)] at c11b0n)
              have c11b1 : ((t135.extract (t136 : Int).toNat ((wrap64 (t136 + (a1.size : Int))) : Int).toNat).toList != a1.toList) = false := bne_eq_false_iff_eq.mpr c11
              try (have c11b1n := c11b1; rw [wrapFit (by omega) (by omega)] at c11b1n)
              clear c11
              simp only [Option.some.injEq, Prod.mk.injEq] at H
              obtain ⟨rfl, rfl, rfl, rfl, rfl, rfl⟩ := H
              go_enter Tryd.func50, Tryd.ntmps50
              go_wp2_with (first | (go_at_call 33; (with_reducible refine (dragomanref10_eval_blanks.calls k g s0_0 s0_1 s0_2 s0_3 s0_4 s0_5 t135 t136 t137 t138 t139 w0 _ ?side1 ?side2 A3.out).mono ?_); (case side1 => repeat (first | (with_reducible first | exact HI0.out | apply IsS67.alloc | apply IsS67.drewN | apply IsS67.drew | apply IsS67.set_0 | apply IsS67.set_1 | apply IsS67.set_2 | apply IsS67.set_4 | apply IsS67.set_5) | exact HI0.out)); (case side2 => repeat (first | (with_reducible first | exact HB.out | apply below_alloc | apply pw_below_drewN | apply below_drew1 | refine below_set ?_ (IsS67.ge HI0.out)) | exact HB.out)); rintro e w12 ⟨rfl, hi, hb, hk⟩; have n0_ := Aside0.mk (KeepBut.trans (by repeat (first | (with_reducible first | exact HK.out | apply KeepBut.set_ | apply keep_drewN | apply keep_drew | apply keep_alloc) | exact HK.out)) hk (.inl rfl)); have n1_ := Aside0.mk (hb); have n2_ := Aside0.mk (hi); clear HK; clear HB; clear HI0; have HK := n0_; have HB := n1_; have HI0 := n2_; clear n0_ n1_ n2_; (try clear hb); (try clear hb2); (try clear hk); (try clear hi); obtain ⟨ASz13_3, cSz13_3, HGz13, hgz13, HSz13_3⟩ := HI0.out; have hcz13_0 := cellS67_0 HGz13; have hcz13_1 := cellS67_1 HGz13; have hcz13_2 := cellS67_2 HGz13; have hcz13_3 := cellS67_3 HGz13; have hcz13_4 := cellS67_4 HGz13; have hcz13_5 := cellS67_5 HGz13; have hfz13_0 := blk_frozen HGz13 0; have hfz13_1 := blk_frozen HGz13 1; have hfz13_2 := blk_frozen HGz13 2; have hfz13_4 := blk_frozen HGz13 4; have hfz13_5 := blk_frozen HGz13 5; clear HGz13 hgz13))
              repeat (go_quiet (first | (go_at_call 33; (with_reducible refine (dragomanref10_eval_blanks.calls k g s0_0 s0_1 s0_2 s0_3 s0_4 s0_5 t135 t136 t137 t138 t139 w0 _ ?side1 ?side2 A3.out).mono ?_); (case side1 => repeat (first | (with_reducible first | exact HI0.out | apply IsS67.alloc | apply IsS67.drewN | apply IsS67.drew | apply IsS67.set_0 | apply IsS67.set_1 | apply IsS67.set_2 | apply IsS67.set_4 | apply IsS67.set_5) | exact HI0.out)); (case side2 => repeat (first | (with_reducible first | exact HB.out | apply below_alloc | apply pw_below_drewN | apply below_drew1 | refine below_set ?_ (IsS67.ge HI0.out)) | exact HB.out)); rintro e w12 ⟨rfl, hi, hb, hk⟩; have n0_ := Aside0.mk (KeepBut.trans (by repeat (first | (with_reducible first | exact HK.out | apply KeepBut.set_ | apply keep_drewN | apply keep_drew | apply keep_alloc) | exact HK.out)) hk (.inl rfl)); have n1_ := Aside0.mk (hb); have n2_ := Aside0.mk (hi); clear HK; clear HB; clear HI0; have HK := n0_; have HB := n1_; have HI0 := n2_; clear n0_ n1_ n2_; (try clear hb); (try clear hb2); (try clear hk); (try clear hi); obtain ⟨ASz13_3, cSz13_3, HGz13, hgz13, HSz13_3⟩ := HI0.out; have hcz13_0 := cellS67_0 HGz13; have hcz13_1 := cellS67_1 HGz13; have hcz13_2 := cellS67_2 HGz13; have hcz13_3 := cellS67_3 HGz13; have hcz13_4 := cellS67_4 HGz13; have hcz13_5 := cellS67_5 HGz13; have hfz13_0 := blk_frozen HGz13 0; have hfz13_1 := blk_frozen HGz13 1; have hfz13_2 := blk_frozen HGz13 2; have hfz13_4 := blk_frozen HGz13 4; have hfz13_5 := blk_frozen HGz13 5; clear HGz13 hgz13)); try go_wp2_with (first | (go_at_call 33; (with_reducible refine (dragomanref10_eval_blanks.calls k g s0_0 s0_1 s0_2 s0_3 s0_4 s0_5 t135 t136 t137 t138 t139 w0 _ ?side1 ?side2 A3.out).mono ?_); (case side1 => repeat (first | (with_reducible first | exact HI0.out | apply IsS67.alloc | apply IsS67.drewN | apply IsS67.drew | apply IsS67.set_0 | apply IsS67.set_1 | apply IsS67.set_2 | apply IsS67.set_4 | apply IsS67.set_5) | exact HI0.out)); (case side2 => repeat (first | (with_reducible first | exact HB.out | apply below_alloc | apply pw_below_drewN | apply below_drew1 | refine below_set ?_ (IsS67.ge HI0.out)) | exact HB.out)); rintro e w12 ⟨rfl, hi, hb, hk⟩; have n0_ := Aside0.mk (KeepBut.trans (by repeat (first | (with_reducible first | exact HK.out | apply KeepBut.set_ | apply keep_drewN | apply keep_drew | apply keep_alloc) | exact HK.out)) hk (.inl rfl)); have n1_ := Aside0.mk (hb); have n2_ := Aside0.mk (hi); clear HK; clear HB; clear HI0; have HK := n0_; have HB := n1_; have HI0 := n2_; clear n0_ n1_ n2_; (try clear hb); (try clear hb2); (try clear hk); (try clear hi); obtain ⟨ASz13_3, cSz13_3, HGz13, hgz13, HSz13_3⟩ := HI0.out; have hcz13_0 := cellS67_0 HGz13; have hcz13_1 := cellS67_1 HGz13; have hcz13_2 := cellS67_2 HGz13; have hcz13_3 := cellS67_3 HGz13; have hcz13_4 := cellS67_4 HGz13; have hcz13_5 := cellS67_5 HGz13; have hfz13_0 := blk_frozen HGz13 0; have hfz13_1 := blk_frozen HGz13 1; have hfz13_2 := blk_frozen HGz13 2; have hfz13_4 := blk_frozen HGz13 4; have hfz13_5 := blk_frozen HGz13 5; clear HGz13 hgz13)))
              go_ret
              exact ⟨by first | rfl | (simp [errW_none, errW_some] <;> rfl) | (simp [*, errW_none, errW_some] <;> rfl), by repeat (first | (with_reducible first | exact HI0.out | apply IsS67.alloc | apply IsS67.drewN | apply IsS67.drew | apply IsS67.set_0 | apply IsS67.set_1 | apply IsS67.set_2 | apply IsS67.set_4 | apply IsS67.set_5) | exact HI0.out), by repeat (first | (with_reducible first | exact HB.out | apply below_alloc | apply pw_below_drewN | apply below_drew1 | refine below_set ?_ (IsS67.ge HI0.out)) | exact HB.out), by repeat (first | (with_reducible first | exact HK.out | apply KeepBut.set_ | apply keep_drewN | apply keep_drew | apply keep_alloc) | exact HK.out)⟩
            · rw [if_neg c11] at H
              have c11b0 : ((t135.extract (t136 : Int).toNat ((wrap64 (t136 + (a1.size : Int))) : Int).toNat).toList == a1.toList) = false := beq_eq_false_iff_ne.mpr c11
              try (have c11b0n := c11b0; rw [wrapFit (by omega) (by omega)] at c11b0n)
              have c11b1 : ((t135.extract (t136 : Int).toNat ((wrap64 (t136 + (a1.size : Int))) : Int).toNat).toList != a1.toList) = true := bne_iff_ne.mpr c11
              try (have c11b1n := c11b1; rw [wrapFit (by omega) (by omega)] at c11b1n)
              simp only [Option.some.injEq, Prod.mk.injEq] at H
              obtain ⟨rfl, rfl, rfl, rfl, rfl, rfl⟩ := H
              go_enter Tryd.func50, Tryd.ntmps50
              go_wp2_with (first | (go_at_call 33; (with_reducible refine (dragomanref10_eval_blanks.calls k g s0_0 s0_1 s0_2 s0_3 s0_4 s0_5 t135 t136 t137 t138 t139 w0 _ ?side1 ?side2 A3.out).mono ?_); (case side1 => repeat (first | (with_reducible first | exact HI0.out | apply IsS67.alloc | apply IsS67.drewN | apply IsS67.drew | apply IsS67.set_0 | apply IsS67.set_1 | apply IsS67.set_2 | apply IsS67.set_4 | apply IsS67.set_5) | exact HI0.out)); (case side2 => repeat (first | (with_reducible first | exact HB.out | apply below_alloc | apply pw_below_drewN | apply below_drew1 | refine below_set ?_ (IsS67.ge HI0.out)) | exact HB.out)); rintro e w14 ⟨rfl, hi, hb, hk⟩; have n0_ := Aside0.mk (KeepBut.trans (by repeat (first | (with_reducible first | exact HK.out | apply KeepBut.set_ | apply keep_drewN | apply keep_drew | apply keep_alloc) | exact HK.out)) hk (.inl rfl)); have n1_ := Aside0.mk (hb); have n2_ := Aside0.mk (hi); clear HK; clear HB; clear HI0; have HK := n0_; have HB := n1_; have HI0 := n2_; clear n0_ n1_ n2_; (try clear hb); (try clear hb2); (try clear hk); (try clear hi); obtain ⟨ASz15_3, cSz15_3, HGz15, hgz15, HSz15_3⟩ := HI0.out; have hcz15_0 := cellS67_0 HGz15; have hcz15_1 := cellS67_1 HGz15; have hcz15_2 := cellS67_2 HGz15; have hcz15_3 := cellS67_3 HGz15; have hcz15_4 := cellS67_4 HGz15; have hcz15_5 := cellS67_5 HGz15; have hfz15_0 := blk_frozen HGz15 0; have hfz15_1 := blk_frozen HGz15 1; have hfz15_2 := blk_frozen HGz15 2; have hfz15_4 := blk_frozen HGz15 4; have hfz15_5 := blk_frozen HGz15 5; clear HGz15 hgz15))
              repeat (go_quiet (first | (go_at_call 33; (with_reducible refine (dragomanref10_eval_blanks.calls k g s0_0 s0_1 s0_2 s0_3 s0_4 s0_5 t135 t136 t137 t138 t139 w0 _ ?side1 ?side2 A3.out).mono ?_); (case side1 => repeat (first | (with_reducible first | exact HI0.out | apply IsS67.alloc | apply IsS67.drewN | apply IsS67.drew | apply IsS67.set_0 | apply IsS67.set_1 | apply IsS67.set_2 | apply IsS67.set_4 | apply IsS67.set_5) | exact HI0.out)); (case side2 => repeat (first | (with_reducible first | exact HB.out | apply below_alloc | apply pw_below_drewN | apply below_drew1 | refine below_set ?_ (IsS67.ge HI0.out)) | exact HB.out)); rintro e w14 ⟨rfl, hi, hb, hk⟩; have n0_ := Aside0.mk (KeepBut.trans (by repeat (first | (with_reducible first | exact HK.out | apply KeepBut.set_ | apply keep_drewN | apply keep_drew | apply keep_alloc) | exact HK.out)) hk (.inl rfl)); have n1_ := Aside0.mk (hb); have n2_ := Aside0.mk (hi); clear HK; clear HB; clear HI0; have HK := n0_; have HB := n1_; have HI0 := n2_; clear n0_ n1_ n2_; (try clear hb); (try clear hb2); (try clear hk); (try clear hi); obtain ⟨ASz15_3, cSz15_3, HGz15, hgz15, HSz15_3⟩ := HI0.out; have hcz15_0 := cellS67_0 HGz15; have hcz15_1 := cellS67_1 HGz15; have hcz15_2 := cellS67_2 HGz15; have hcz15_3 := cellS67_3 HGz15; have hcz15_4 := cellS67_4 HGz15; have hcz15_5 := cellS67_5 HGz15; have hfz15_0 := blk_frozen HGz15 0; have hfz15_1 := blk_frozen HGz15 1; have hfz15_2 := blk_frozen HGz15 2; have hfz15_4 := blk_frozen HGz15 4; have hfz15_5 := blk_frozen HGz15 5; clear HGz15 hgz15)); try go_wp2_with (first | (go_at_call 33; (with_reducible refine (dragomanref10_eval_blanks.calls k g s0_0 s0_1 s0_2 s0_3 s0_4 s0_5 t135 t136 t137 t138 t139 w0 _ ?side1 ?side2 A3.out).mono ?_); (case side1 => repeat (first | (with_reducible first | exact HI0.out | apply IsS67.alloc | apply IsS67.drewN | apply IsS67.drew | apply IsS67.set_0 | apply IsS67.set_1 | apply IsS67.set_2 | apply IsS67.set_4 | apply IsS67.set_5) | exact HI0.out)); (case side2 => repeat (first | (with_reducible first | exact HB.out | apply below_alloc | apply pw_below_drewN | apply below_drew1 | refine below_set ?_ (IsS67.ge HI0.out)) | exact HB.out)); rintro e w14 ⟨rfl, hi, hb, hk⟩; have n0_ := Aside0.mk (KeepBut.trans (by repeat (first | (with_reducible first | exact HK.out | apply KeepBut.set_ | apply keep_drewN | apply keep_drew | apply keep_alloc) | exact HK.out)) hk (.inl rfl)); have n1_ := Aside0.mk (hb); have n2_ := Aside0.mk (hi); clear HK; clear HB; clear HI0; have HK := n0_; have HB := n1_; have HI0 := n2_; clear n0_ n1_ n2_; (try clear hb); (try clear hb2); (try clear hk); (try clear hi); obtain ⟨ASz15_3, cSz15_3, HGz15, hgz15, HSz15_3⟩ := HI0.out; have hcz15_0 := cellS67_0 HGz15; have hcz15_1 := cellS67_1 HGz15; have hcz15_2 := cellS67_2 HGz15; have hcz15_3 := cellS67_3 HGz15; have hcz15_4 := cellS67_4 HGz15; have hcz15_5 := cellS67_5 HGz15; have hfz15_0 := blk_frozen HGz15 0; have hfz15_1 := blk_frozen HGz15 1; have hfz15_2 := blk_frozen HGz15 2; have hfz15_4 := blk_frozen HGz15 4; have hfz15_5 := blk_frozen HGz15 5; clear HGz15 hgz15)))
              go_ret
              exact ⟨by first | rfl | (simp [errW_none, errW_some] <;> rfl) | (simp [*, errW_none, errW_some] <;> rfl), by repeat (first | (with_reducible first | exact HI0.out | apply IsS67.alloc | apply IsS67.drewN | apply IsS67.drew | apply IsS67.set_0 | apply IsS67.set_1 | apply IsS67.set_2 | apply IsS67.set_4 | apply IsS67.set_5) | exact HI0.out), by repeat (first | (with_reducible first | exact HB.out | apply below_alloc | apply pw_below_drewN | apply below_drew1 | refine below_set ?_ (IsS67.ge HI0.out)) | exact HB.out), by repeat (first | (with_reducible first | exact HK.out | apply KeepBut.set_ | apply keep_drewN | apply keep_drew | apply keep_alloc) | exact HK.out)⟩
          · rw [if_neg c10] at H
            exact absurd H (by simp)
        · rw [if_neg c9] at H
          exact absurd H (by simp)
      · rw [if_neg c8] at H
        exact absurd H (by simp)
  · rw [if_neg c4] at H
    have c4b0 : (t138 == 0) = false := beq_eq_false_iff_ne.mpr c4
    have c4b1 : (t138 != 0) = true := bne_iff_ne.mpr c4
    simp only [Option.some.injEq, Prod.mk.injEq] at H
    obtain ⟨rfl, rfl, rfl, rfl, rfl, rfl⟩ := H
    go_enter Tryd.func50, Tryd.ntmps50
    go_wp2_with (first | (go_at_call 33; (with_reducible refine (dragomanref10_eval_blanks.calls k g s0_0 s0_1 s0_2 s0_3 s0_4 s0_5 t135 t136 t137 t138 t139 w0 _ ?side1 ?side2 A3.out).mono ?_); (case side1 => repeat (first | (with_reducible first | exact HI0.out | apply IsS67.alloc | apply IsS67.drewN | apply IsS67.drew | apply IsS67.set_0 | apply IsS67.set_1 | apply IsS67.set_2 | apply IsS67.set_4 | apply IsS67.set_5) | exact HI0.out)); (case side2 => repeat (first | (with_reducible first | exact HB.out | apply below_alloc | apply pw_below_drewN | apply below_drew1 | refine below_set ?_ (IsS67.ge HI0.out)) | exact HB.out)); rintro e w16 ⟨rfl, hi, hb, hk⟩; have n0_ := Aside0.mk (KeepBut.trans (by repeat (first | (with_reducible first | exact HK.out | apply KeepBut.set_ | apply keep_drewN | apply keep_drew | apply keep_alloc) | exact HK.out)) hk (.inl rfl)); have n1_ := Aside0.mk (hb); have n2_ := Aside0.mk (hi); clear HK; clear HB; clear HI0; have HK := n0_; have HB := n1_; have HI0 := n2_; clear n0_ n1_ n2_; (try clear hb); (try clear hb2); (try clear hk); (try clear hi); obtain ⟨ASz17_3, cSz17_3, HGz17, hgz17, HSz17_3⟩ := HI0.out; have hcz17_0 := cellS67_0 HGz17; have hcz17_1 := cellS67_1 HGz17; have hcz17_2 := cellS67_2 HGz17; have hcz17_3 := cellS67_3 HGz17; have hcz17_4 := cellS67_4 HGz17; have hcz17_5 := cellS67_5 HGz17; have hfz17_0 := blk_frozen HGz17 0; have hfz17_1 := blk_frozen HGz17 1; have hfz17_2 := blk_frozen HGz17 2; have hfz17_4 := blk_frozen HGz17 4; have hfz17_5 := blk_frozen HGz17 5; clear HGz17 hgz17))
    repeat (go_quiet (first | (go_at_call 33; (with_reducible refine (dragomanref10_eval_blanks.calls k g s0_0 s0_1 s0_2 s0_3 s0_4 s0_5 t135 t136 t137 t138 t139 w0 _ ?side1 ?side2 A3.out).mono ?_); (case side1 => repeat (first | (with_reducible first | exact HI0.out | apply IsS67.alloc | apply IsS67.drewN | apply IsS67.drew | apply IsS67.set_0 | apply IsS67.set_1 | apply IsS67.set_2 | apply IsS67.set_4 | apply IsS67.set_5) | exact HI0.out)); (case side2 => repeat (first | (with_reducible first | exact HB.out | apply below_alloc | apply pw_below_drewN | apply below_drew1 | refine below_set ?_ (IsS67.ge HI0.out)) | exact HB.out)); rintro e w16 ⟨rfl, hi, hb, hk⟩; have n0_ := Aside0.mk (KeepBut.trans (by repeat (first | (with_reducible first | exact HK.out | apply KeepBut.set_ | apply keep_drewN | apply keep_drew | apply keep_alloc) | exact HK.out)) hk (.inl rfl)); have n1_ := Aside0.mk (hb); have n2_ := Aside0.mk (hi); clear HK; clear HB; clear HI0; have HK := n0_; have HB := n1_; have HI0 := n2_; clear n0_ n1_ n2_; (try clear hb); (try clear hb2); (try clear hk); (try clear hi); obtain ⟨ASz17_3, cSz17_3, HGz17, hgz17, HSz17_3⟩ := HI0.out; have hcz17_0 := cellS67_0 HGz17; have hcz17_1 := cellS67_1 HGz17; have hcz17_2 := cellS67_2 HGz17; have hcz17_3 := cellS67_3 HGz17; have hcz17_4 := cellS67_4 HGz17; have hcz17_5 := cellS67_5 HGz17; have hfz17_0 := blk_frozen HGz17 0; have hfz17_1 := blk_frozen HGz17 1; have hfz17_2 := blk_frozen HGz17 2; have hfz17_4 := blk_frozen HGz17 4; have hfz17_5 := blk_frozen HGz17 5; clear HGz17 hgz17)); try go_wp2_with (first | (go_at_call 33; (with_reducible refine (dragomanref10_eval_blanks.calls k g s0_0 s0_1 s0_2 s0_3 s0_4 s0_5 t135 t136 t137 t138 t139 w0 _ ?side1 ?side2 A3.out).mono ?_); (case side1 => repeat (first | (with_reducible first | exact HI0.out | apply IsS67.alloc | apply IsS67.drewN | apply IsS67.drew | apply IsS67.set_0 | apply IsS67.set_1 | apply IsS67.set_2 | apply IsS67.set_4 | apply IsS67.set_5) | exact HI0.out)); (case side2 => repeat (first | (with_reducible first | exact HB.out | apply below_alloc | apply pw_below_drewN | apply below_drew1 | refine below_set ?_ (IsS67.ge HI0.out)) | exact HB.out)); rintro e w16 ⟨rfl, hi, hb, hk⟩; have n0_ := Aside0.mk (KeepBut.trans (by repeat (first | (with_reducible first | exact HK.out | apply KeepBut.set_ | apply keep_drewN | apply keep_drew | apply keep_alloc) | exact HK.out)) hk (.inl rfl)); have n1_ := Aside0.mk (hb); have n2_ := Aside0.mk (hi); clear HK; clear HB; clear HI0; have HK := n0_; have HB := n1_; have HI0 := n2_; clear n0_ n1_ n2_; (try clear hb); (try clear hb2); (try clear hk); (try clear hi); obtain ⟨ASz17_3, cSz17_3, HGz17, hgz17, HSz17_3⟩ := HI0.out; have hcz17_0 := cellS67_0 HGz17; have hcz17_1 := cellS67_1 HGz17; have hcz17_2 := cellS67_2 HGz17; have hcz17_3 := cellS67_3 HGz17; have hcz17_4 := cellS67_4 HGz17; have hcz17_5 := cellS67_5 HGz17; have hfz17_0 := blk_frozen HGz17 0; have hfz17_1 := blk_frozen HGz17 1; have hfz17_2 := blk_frozen HGz17 2; have hfz17_4 := blk_frozen HGz17 4; have hfz17_5 := blk_frozen HGz17 5; clear HGz17 hgz17)))
    go_ret
    exact ⟨by first | rfl | (simp [errW_none, errW_some] <;> rfl) | (simp [*, errW_none, errW_some] <;> rfl), by repeat (first | (with_reducible first | exact HI0.out | apply IsS67.alloc | apply IsS67.drewN | apply IsS67.drew | apply IsS67.set_0 | apply IsS67.set_1 | apply IsS67.set_2 | apply IsS67.set_4 | apply IsS67.set_5) | exact HI0.out), by repeat (first | (with_reducible first | exact HB.out | apply below_alloc | apply pw_below_drewN | apply below_drew1 | refine below_set ?_ (IsS67.ge HI0.out)) | exact HB.out), by repeat (first | (with_reducible first | exact HK.out | apply KeepBut.set_ | apply keep_drewN | apply keep_drew | apply keep_alloc) | exact HK.out)⟩

end Go.Proofs.YtambnodgfhlpfaaDoor.QG
