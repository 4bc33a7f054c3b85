/- The Go functions of this part as Lean functions, each with a proof that a call of it comes to just what the Lean function does. Written by a program of the session's. Conditions: none but those in each theorem. -/
import Derived.Test.YtambnodgfhlpfaaDoorJQGx0
import Derived.Test.YtambnodgfhlpfaaDoorJQGx1
namespace Go.Proofs.YtambnodgfhlpfaaDoor.QG
open Go.Proofs.YtambnodgfhlpfaaDoor.G Go.Proofs.YtambnodgfhlpfaaDoor.QA
open Go.RowKit Go.Proofs.YtambnodgfhlpfaaDoorW.PrintWords Go.Proofs.YtambnodgfhlpfaaDoorW.PrintLast Go.Proofs.YtambnodgfhlpfaaDoorW.PrintMore
attribute [local go_sem] max2_int min2_int max_two min_two max_three min_three max_four min_four   -- for this text's walks alone
set_option linter.unusedVariables false
set_option linter.unusedSimpArgs false

/-! ### dragomanref10_eval_operand: function 102 -/
mutual
def dragomanref10_eval_operand.j1 : Nat → Bool → Int → ByteArray → Int → Int → List (S39) → Int → Int → Option (Int × ByteArray × Int × Int × Int × Int)
  | 0, _, _, _, _, _, _, _, _ => none
  | k + 1, x1, x5, x1000, x1001, x1002, x1003, x1004, x1005 => if x5 > x1001 then (if 0 ≤ x1001 then (if x1001 ≤ x5 then (if x5 ≤ (x1000.size : Int) then ((dragomanref01_Whole.f k (x1000.extract (x1001 : Int).toNat (x5 : Int).toNat)).bind fun bt106 => (if bt106.2.2 = 0 then (some (bt106.1, x1000, x5, x1002, x1004, x1005)) else ((dragomanref10_eval_fails.f x1000 x1001 x1002 x1003 x1004 x1005 9).bind fun bt109 => (some (bt106.1, bt109.1, x5, bt109.2.2.1, bt109.2.2.2.1, bt109.2.2.2.2))))) else (none)) else (none)) else (none)) else (dragomanref10_eval_operand.l1 k x1 x5 x1000 x1001 x1002 x1003 x1004 x1005)
def dragomanref10_eval_operand.j3 : Nat → Bool → Int → ByteArray → Int → Int → List (S39) → Int → Int → Option (Int × ByteArray × Int × Int × Int × Int)
  | 0, _, _, _, _, _, _, _, _ => none
  | k + 1, x1, x5, x1000, x1001, x1002, x1003, x1004, x1005 => if x5 = x1001 then ((dragomanref10_eval_fails.f x1000 x1001 x1002 x1003 x1004 x1005 9).bind fun bt115 => (some (0, bt115.1, bt115.2.1, bt115.2.2.1, bt115.2.2.2.1, bt115.2.2.2.2))) else (if 0 ≤ x1001 then (if x1001 ≤ x5 then (if x5 ≤ (x1000.size : Int) then ((dragomanref10_FindT.f k x1003 (x1000.extract (x1001 : Int).toNat (x5 : Int).toNat)).bind fun bt120 => (if bt120.1.toList = ([] : List UInt8) then (some (0, x1000, x5, x1002, x1004, x1005)) else ((dragomanref01_Whole.f k bt120.1).bind fun bt122 => (if bt122.2.2 = 0 then (if bt122.2.1 < (bt120.1.size : Int) then ((dragomanref10_eval_comes.f x1000 x5 x1002 x1003 x1004 x1005 2 x1).bind fun bt125 => (some (0, bt125.1, bt125.2.1, bt125.2.2.1, bt125.2.2.2.1, bt125.2.2.2.2))) else (some (bt122.1, x1000, x5, x1002, x1004, x1005))) else ((dragomanref10_eval_comes.f x1000 x5 x1002 x1003 x1004 x1005 2 x1).bind fun bt130 => (some (0, bt130.1, bt130.2.1, bt130.2.2.1, bt130.2.2.2.1, bt130.2.2.2.2))))))) else (none)) else (none)) else (none))
def dragomanref10_eval_operand.l1 : Nat → Bool → Int → ByteArray → Int → Int → List (S39) → Int → Int → Option (Int × ByteArray × Int × Int × Int × Int)
  | 0, _, _, _, _, _, _, _, _ => none
  | k + 1, x1, x5, x1000, x1001, x1002, x1003, x1004, x1005 => if x5 < (x1000.size : Int) then (if 0 ≤ x1001 then (if x1001 ≤ (wrap64 (x5 + 1)) then (if (wrap64 (x5 + 1)) ≤ (x1000.size : Int) then ((dragomanref01_IsName.f k (x1000.extract (x1001 : Int).toNat ((wrap64 (x5 + 1)) : Int).toNat)).bind fun t114 => (if t114 = true then (dragomanref10_eval_operand.l1 k x1 (wrap64 (x5 + 1)) x1000 x1001 x1002 x1003 x1004 x1005) else (dragomanref10_eval_operand.j3 k x1 x5 x1000 x1001 x1002 x1003 x1004 x1005))) else (none)) else (none)) else (none)) else (dragomanref10_eval_operand.j3 k x1 x5 x1000 x1001 x1002 x1003 x1004 x1005)
def dragomanref10_eval_operand.l0 : Nat → Bool → Int → ByteArray → Int → Int → List (S39) → Int → Int → Option (Int × ByteArray × Int × Int × Int × Int)
  | 0, _, _, _, _, _, _, _, _ => none
  | k + 1, x1, x5, x1000, x1001, x1002, x1003, x1004, x1005 => if x5 < (x1000.size : Int) then (if 0 ≤ x5 then (if (bt x1000 x5) ≥ 48 then (if (bt x1000 x5) ≤ 57 then (dragomanref10_eval_operand.l0 k x1 (wrap64 (x5 + 1)) x1000 x1001 x1002 x1003 x1004 x1005) else (dragomanref10_eval_operand.j1 k x1 x5 x1000 x1001 x1002 x1003 x1004 x1005)) else (dragomanref10_eval_operand.j1 k x1 x5 x1000 x1001 x1002 x1003 x1004 x1005)) else (none)) else (dragomanref10_eval_operand.j1 k x1 x5 x1000 x1001 x1002 x1003 x1004 x1005)
end
def dragomanref10_eval_operand.f (k : Nat) (s0_0 : ByteArray) (s0_1 : Int) (s0_2 : Int) (s0_3 : List (S39)) (s0_4 : Int) (s0_5 : Int) (a1 : Bool) : Option (Int × ByteArray × Int × Int × Int × Int) := if s0_4 = 0 then (dragomanref10_eval_operand.l0 k a1 s0_1 s0_0 s0_1 s0_2 s0_3 s0_4 s0_5) else (some (0, s0_0, s0_1, s0_2, s0_4, s0_5))
theorem dragomanref10_eval_operand.mono_l : ∀ k, (∀ y0 y1 y2 y3 y4 y5 y6 y7, LeO (dragomanref10_eval_operand.j1 k y0 y1 y2 y3 y4 y5 y6 y7) (dragomanref10_eval_operand.j1 (k + 1) y0 y1 y2 y3 y4 y5 y6 y7)) ∧ (∀ y0 y1 y2 y3 y4 y5 y6 y7, LeO (dragomanref10_eval_operand.j3 k y0 y1 y2 y3 y4 y5 y6 y7) (dragomanref10_eval_operand.j3 (k + 1) y0 y1 y2 y3 y4 y5 y6 y7)) ∧ (∀ y0 y1 y2 y3 y4 y5 y6 y7, LeO (dragomanref10_eval_operand.l1 k y0 y1 y2 y3 y4 y5 y6 y7) (dragomanref10_eval_operand.l1 (k + 1) y0 y1 y2 y3 y4 y5 y6 y7)) ∧ (∀ y0 y1 y2 y3 y4 y5 y6 y7, LeO (dragomanref10_eval_operand.l0 k y0 y1 y2 y3 y4 y5 y6 y7) (dragomanref10_eval_operand.l0 (k + 1) y0 y1 y2 y3 y4 y5 y6 y7))
  | 0 => ⟨fun _ _ _ _ _ _ _ _ r h => by simp [dragomanref10_eval_operand.j1] at h, fun _ _ _ _ _ _ _ _ r h => by simp [dragomanref10_eval_operand.j3] at h, fun _ _ _ _ _ _ _ _ r h => by simp [dragomanref10_eval_operand.l1] at h, fun _ _ _ _ _ _ _ _ r h => by simp [dragomanref10_eval_operand.l0] at h⟩
  | k + 1 => by
    obtain ⟨ih0, ih1, ih2, ih3⟩ := dragomanref10_eval_operand.mono_l k
    refine ⟨?_, ?_, ?_, ?_⟩
    · intro y0 y1 y2 y3 y4 y5 y6 y7
      unfold dragomanref10_eval_operand.j1
      repeat' first
      | (with_reducible exact ih0 _ _ _ _ _ _ _ _)
      | (with_reducible exact ih1 _ _ _ _ _ _ _ _)
      | (with_reducible exact ih2 _ _ _ _ _ _ _ _)
      | (with_reducible exact ih3 _ _ _ _ _ _ _ _)
      | (with_reducible exact dragomanref01_IsName.mono _ _)
      | (with_reducible exact dragomanref01_Whole.mono _ _)
      | (with_reducible exact dragomanref10_FindT.mono _ _ _)
      | (with_reducible exact LeO.refl _)
      | (with_reducible exact LeO.none _)
      | (with_reducible refine LeO.ite ?_ ?_)
      | (with_reducible refine LeO.bind ?_ (fun _ => ?_))
      | exact ih0 _ _ _ _ _ _ _ _
      | exact ih1 _ _ _ _ _ _ _ _
      | exact ih2 _ _ _ _ _ _ _ _
      | exact ih3 _ _ _ _ _ _ _ _
      | exact dragomanref01_IsName.mono _ _
      | exact dragomanref01_Whole.mono _ _
      | exact dragomanref10_FindT.mono _ _ _
      | exact LeO.none _
      | refine LeO.ite ?_ ?_
      | refine LeO.bind ?_ (fun _ => ?_)
    · intro y0 y1 y2 y3 y4 y5 y6 y7
      unfold dragomanref10_eval_operand.j3
      repeat' first
      | (with_reducible exact ih0 _ _ _ _ _ _ _ _)
      | (with_reducible exact ih1 _ _ _ _ _ _ _ _)
      | (with_reducible exact ih2 _ _ _ _ _ _ _ _)
      | (with_reducible exact ih3 _ _ _ _ _ _ _ _)
      | (with_reducible exact dragomanref01_IsName.mono _ _)
      | (with_reducible exact dragomanref01_Whole.mono _ _)
      | (with_reducible exact dragomanref10_FindT.mono _ _ _)
      | (with_reducible exact LeO.refl _)
      | (with_reducible exact LeO.none _)
      | (with_reducible refine LeO.ite ?_ ?_)
      | (with_reducible refine LeO.bind ?_ (fun _ => ?_))
      | exact ih0 _ _ _ _ _ _ _ _
      | exact ih1 _ _ _ _ _ _ _ _
      | exact ih2 _ _ _ _ _ _ _ _
      | exact ih3 _ _ _ _ _ _ _ _
      | exact dragomanref01_IsName.mono _ _
      | exact dragomanref01_Whole.mono _ _
      | exact dragomanref10_FindT.mono _ _ _
      | exact LeO.none _
      | refine LeO.ite ?_ ?_
      | refine LeO.bind ?_ (fun _ => ?_)
    · intro y0 y1 y2 y3 y4 y5 y6 y7
      unfold dragomanref10_eval_operand.l1
      repeat' first
      | (with_reducible exact ih0 _ _ _ _ _ _ _ _)
      | (with_reducible exact ih1 _ _ _ _ _ _ _ _)
      | (with_reducible exact ih2 _ _ _ _ _ _ _ _)
      | (with_reducible exact ih3 _ _ _ _ _ _ _ _)
      | (with_reducible exact dragomanref01_IsName.mono _ _)
      | (with_reducible exact dragomanref01_Whole.mono _ _)
      | (with_reducible exact dragomanref10_FindT.mono _ _ _)
      | (with_reducible exact LeO.refl _)
      | (with_reducible exact LeO.none _)
      | (with_reducible refine LeO.ite ?_ ?_)
      | (with_reducible refine LeO.bind ?_ (fun _ => ?_))
      | exact ih0 _ _ _ _ _ _ _ _
      | exact ih1 _ _ _ _ _ _ _ _
      | exact ih2 _ _ _ _ _ _ _ _
      | exact ih3 _ _ _ _ _ _ _ _
      | exact dragomanref01_IsName.mono _ _
      | exact dragomanref01_Whole.mono _ _
      | exact dragomanref10_FindT.mono _ _ _
      | exact LeO.none _
      | refine LeO.ite ?_ ?_
      | refine LeO.bind ?_ (fun _ => ?_)
    · intro y0 y1 y2 y3 y4 y5 y6 y7
      unfold dragomanref10_eval_operand.l0
      repeat' first
      | (with_reducible exact ih0 _ _ _ _ _ _ _ _)
      | (with_reducible exact ih1 _ _ _ _ _ _ _ _)
      | (with_reducible exact ih2 _ _ _ _ _ _ _ _)
      | (with_reducible exact ih3 _ _ _ _ _ _ _ _)
      | (with_reducible exact dragomanref01_IsName.mono _ _)
      | (with_reducible exact dragomanref01_Whole.mono _ _)
      | (with_reducible exact dragomanref10_FindT.mono _ _ _)
      | (with_reducible exact LeO.refl _)
      | (with_reducible exact LeO.none _)
      | (with_reducible refine LeO.ite ?_ ?_)
      | (with_reducible refine LeO.bind ?_ (fun _ => ?_))
      | exact ih0 _ _ _ _ _ _ _ _
      | exact ih1 _ _ _ _ _ _ _ _
      | exact ih2 _ _ _ _ _ _ _ _
      | exact ih3 _ _ _ _ _ _ _ _
      | exact dragomanref01_IsName.mono _ _
      | exact dragomanref01_Whole.mono _ _
      | exact dragomanref10_FindT.mono _ _ _
      | exact LeO.none _
      | refine LeO.ite ?_ ?_
      | refine LeO.bind ?_ (fun _ => ?_)
theorem dragomanref10_eval_operand.mono : ∀ a0 a1 a2 a3 a4 a5 a6 k, LeO (dragomanref10_eval_operand.f k a0 a1 a2 a3 a4 a5 a6) (dragomanref10_eval_operand.f (k + 1) a0 a1 a2 a3 a4 a5 a6) := by
  intro a0 a1 a2 a3 a4 a5 a6 k
  obtain ⟨ih0, ih1, ih2, ih3⟩ := dragomanref10_eval_operand.mono_l k
  unfold dragomanref10_eval_operand.f
  repeat' first
      | (with_reducible exact ih0 _ _ _ _ _ _ _ _)
      | (with_reducible exact ih1 _ _ _ _ _ _ _ _)
      | (with_reducible exact ih2 _ _ _ _ _ _ _ _)
      | (with_reducible exact ih3 _ _ _ _ _ _ _ _)
      | (with_reducible exact dragomanref01_IsName.mono _ _)
      | (with_reducible exact dragomanref01_Whole.mono _ _)
      | (with_reducible exact dragomanref10_FindT.mono _ _ _)
      | (with_reducible exact LeO.refl _)
      | (with_reducible exact LeO.none _)
      | (with_reducible refine LeO.ite ?_ ?_)
      | (with_reducible refine LeO.bind ?_ (fun _ => ?_))
      | exact ih0 _ _ _ _ _ _ _ _
      | exact ih1 _ _ _ _ _ _ _ _
      | exact ih2 _ _ _ _ _ _ _ _
      | exact ih3 _ _ _ _ _ _ _ _
      | exact dragomanref01_IsName.mono _ _
      | exact dragomanref01_Whole.mono _ _
      | exact dragomanref10_FindT.mono _ _ _
      | exact LeO.none _
      | refine LeO.ite ?_ ?_
      | refine LeO.bind ?_ (fun _ => ?_)
set_option maxHeartbeats 8000000 in
set_option maxRecDepth 100000 in
theorem dragomanref10_eval_operand.calls (k : Nat) (g : Nat) (s0_0 : ByteArray) (s0_1 : Int) (s0_2 : Int) (s0_3 : List (S39)) (s0_4 : Int) (s0_5 : Int) (a1 : Bool) (r1 : Int) (r2 : ByteArray) (r3 : Int) (r4 : Int) (r5 : Int) (r6 : Int) (w0 w : World) (hI : IsS67 w0 w g s0_0 s0_1 s0_2 s0_3 s0_4 s0_5) (hB : Below w0.heap.size w0 w) (h : dragomanref10_eval_operand.f k s0_0 s0_1 s0_2 s0_3 s0_4 s0_5 a1 = some (r1, r2, r3, r4, r5, r6)) :
    Calls Tryd.prog 102 #[.pointer (some ⟨g, 0, none⟩), .bool a1] w fun e w' => e = .returned (.int .i64 r1) ∧ IsS67 w0 w' g r2 r3 r4 s0_3 r5 r6 ∧ Below w0.heap.size w0 w' ∧ KeepBut w w' g none := by
  have HI0 := Aside0.mk hI
  have HK := Aside0.mk (KeepBut.refl w g none)
  have HL := Aside0.mk hB.size
  clear hI
  have HW0 := Aside0.mk hB.size
  have HB := Aside0.mk hB
  clear hB
  have H : (if s0_4 = 0 then (dragomanref10_eval_operand.l0 k a1 s0_1 s0_0 s0_1 s0_2 s0_3 s0_4 s0_5) else (some (0, s0_0, s0_1, s0_2, s0_4, s0_5))) = some (r1, r2, r3, r4, r5, r6) := h
  clear h
  by_cases c3 : s0_4 = 0
  · rw [if_pos c3] at H
    have c3b0 : (s0_4 == 0) = true := beq_iff_eq.mpr c3
    have c3b1 : (s0_4 != 0) = false := bne_eq_false_iff_eq.mpr c3
    clear c3
    have HC4 := Aside0.mk H
    clear H
    obtain ⟨ASz5_3, cSz5_3, HGz5, hgz5, HSz5_3⟩ := HI0.out
    have hcz5_0 := cellS67_0 HGz5
    have hcz5_1 := cellS67_1 HGz5
    have hcz5_2 := cellS67_2 HGz5
    have hcz5_3 := cellS67_3 HGz5
    have hcz5_4 := cellS67_4 HGz5
    have hcz5_5 := cellS67_5 HGz5
    have hfz5_0 := blk_frozen HGz5 0
    have hfz5_1 := blk_frozen HGz5 1
    have hfz5_2 := blk_frozen HGz5 2
    have hfz5_4 := blk_frozen HGz5 4
    have hfz5_5 := blk_frozen HGz5 5
    clear HGz5 hgz5
    go_enter Tryd.func102, Tryd.ntmps102
    go_upto_block 0 with (fail)
    repeat (go_quiet (fail); go_upto_block 0 with (fail))
    go_cut [5] (fun v5 wc => ∃ (kq : Nat) (x5_3 : Int), v5 = .int .i64 x5_3 ∧ Aside0 (dragomanref10_eval_operand.j1 kq a1 x5_3 s0_0 s0_1 s0_2 s0_3 s0_4 s0_5 = some (r1, r2, r3, r4, r5, r6)) ∧ Aside0 (kq ≤ k) ∧ Aside0 (IsS67 w0 wc g s0_0 s0_1 s0_2 s0_3 s0_4 s0_5) ∧ Aside0 (KeepBut w wc g none) ∧ Aside0 (Below w0.heap.size w0 wc))
    case first =>
      have H := HC4.out
      clear HC4
      have H' := Aside0.mk H
      clear H
      go_wp2
      repeat (go_quiet (fail); try go_wp2)
      go_loopg [5] k (fun kq v5 w' => ∃ (x5_1 : Int), v5 = .int .i64 x5_1 ∧ Aside0 (dragomanref10_eval_operand.l0 kq a1 x5_1 s0_0 s0_1 s0_2 s0_3 s0_4 s0_5 = some (r1, r2, r3, r4, r5, r6)) ∧ Aside0 (kq ≤ k) ∧ Aside0 (IsS67 w0 w' g s0_0 s0_1 s0_2 s0_3 s0_4 s0_5) ∧ Aside0 (KeepBut w w' g none) ∧ Aside0 (Below w0.heap.size w0 w'))
      case atStart => exact ⟨(s0_1), (by first | rfl | (simp; done) | (simp [*]; done)), H', ⟨Nat.le_refl _⟩, ⟨by repeat (first | (with_reducible first | exact HI0.out | apply IsS67.alloc | apply IsS67.drewN | apply IsS67.drew | apply IsS67.set_0 | apply IsS67.set_1 | apply IsS67.set_2 | apply IsS67.set_4 | apply IsS67.set_5) | exact HI0.out)⟩, ⟨by repeat (first | (with_reducible first | exact HK.out | apply KeepBut.set_ | apply keep_drewN | apply keep_drew | apply keep_alloc) | exact HK.out)⟩, ⟨by repeat (first | (with_reducible first | exact HB.out | apply below_alloc | apply pw_below_drewN | apply below_drew1 | refine below_set ?_ (IsS67.ge HI0.out)) | exact HB.out)⟩⟩
      case round =>
        clear H'
        try clear c1
        try clear p2
        try clear c3
        try clear c3b0
        try clear c3b1
        try clear hcz5_0
        try clear hcz5_1
        try clear hcz5_2
        try clear hcz5_3
        try clear hcz5_4
        try clear hcz5_5
        try clear hfz5_0
        try clear hfz5_1
        try clear hfz5_2
        try clear hfz5_4
        try clear hfz5_5
        obtain ⟨x5_1, rfl, HA, HK1, HI0, HK, HB⟩ := hrel
        cases gk with
        | zero => exact absurd HA.out (by simp [dragomanref10_eval_operand.l0])
        | succ k1 =>
          have H := HA.out
          clear HA
          simp only [dragomanref10_eval_operand.l0] at H
          by_cases c6 : x5_1 < (s0_0.size : Int)
          · rw [if_pos c6] at H
            have c6b0 : decide (x5_1 < (s0_0.size : Int)) = true := decide_eq_true c6
            clear c6
            (first | rw [c6b0] | (simp only [i64_w, i32_w]; rw [c6b0]) | skip)
            by_cases c7 : 0 ≤ x5_1
            · rw [if_pos c7] at H
              have c7b0 : decide (0 ≤ x5_1) = true := decide_eq_true c7
              clear c7
              by_cases c9 : (bt s0_0 x5_1) ≥ 48
              · rw [if_pos c9] at H
                have c9b0 : decide (48 ≤ (bt s0_0 x5_1)) = true := decide_eq_true c9
                clear c9
                by_cases c11 : (bt s0_0 x5_1) ≤ 57
                · rw [if_pos c11] at H
                  have c11b0 : decide ((bt s0_0 x5_1) ≤ 57) = true := decide_eq_true c11
                  clear c11
                  have H' := Aside0.mk H
                  clear H
                  obtain ⟨ASz12_3, cSz12_3, HGz12, hgz12, HSz12_3⟩ := HI0.out
                  have hcz12_0 := cellS67_0 HGz12
                  have hcz12_1 := cellS67_1 HGz12
                  have hcz12_2 := cellS67_2 HGz12
                  have hcz12_3 := cellS67_3 HGz12
                  have hcz12_4 := cellS67_4 HGz12
                  have hcz12_5 := cellS67_5 HGz12
                  have hfz12_0 := blk_frozen HGz12 0
                  have hfz12_1 := blk_frozen HGz12 1
                  have hfz12_2 := blk_frozen HGz12 2
                  have hfz12_4 := blk_frozen HGz12 4
                  have hfz12_5 := blk_frozen HGz12 5
                  clear HGz12 hgz12
                  have p8 : 0 ≤ (x5_1 : Int) := of_decide_eq_true (by first | (with_reducible assumption) | assumption)
                  have q8 : x5_1 < (s0_0.size : Int) := of_decide_eq_true (by first | (with_reducible assumption) | assumption)
                  have hx8 := bt_at s0_0 x5_1
                  replace p8 := eq_true p8
                  replace q8 := eq_true q8
                  have p10 : 0 ≤ (x5_1 : Int) := of_decide_eq_true (by first | (with_reducible assumption) | assumption)
                  have q10 : x5_1 < (s0_0.size : Int) := of_decide_eq_true (by first | (with_reducible assumption) | assumption)
                  have hx10 := bt_at s0_0 x5_1
                  replace p10 := eq_true p10
                  replace q10 := eq_true q10
                  go_wp2
                  repeat (go_quiet (fail); try go_wp2)
                  go_roundg k1
                  case measure => have := HK1.out; omega
                  case rel => exact ⟨(wrap64 (x5_1 + 1)), (by first | rfl | (simp; done) | (simp [*]; done)), H', ⟨by have := HK1.out; omega⟩, ⟨by repeat (first | (with_reducible first | exact HI0.out | apply IsS67.alloc | apply IsS67.drewN | apply IsS67.drew | apply IsS67.set_0 | apply IsS67.set_1 | apply IsS67.set_2 | apply IsS67.set_4 | apply IsS67.set_5) | exact HI0.out)⟩, ⟨by repeat (first | (with_reducible first | exact HK.out | apply KeepBut.set_ | apply keep_drewN | apply keep_drew | apply keep_alloc) | exact HK.out)⟩, ⟨by repeat (first | (with_reducible first | exact HB.out | apply below_alloc | apply pw_below_drewN | apply below_drew1 | refine below_set ?_ (IsS67.ge HI0.out)) | exact HB.out)⟩⟩
                · rw [if_neg c11] at H
                  have c11b0 : decide ((bt s0_0 x5_1) ≤ 57) = false := decide_eq_false c11
                  clear c11
                  have H' := Aside0.mk H
                  clear H
                  obtain ⟨ASz13_3, cSz13_3, HGz13, hgz13, HSz13_3⟩ := HI0.out
                  have hcz13_0 := cellS67_0 HGz13
                  have hcz13_1 := cellS67_1 HGz13
                  have hcz13_2 := cellS67_2 HGz13
                  have hcz13_3 := cellS67_3 HGz13
                  have hcz13_4 := cellS67_4 HGz13
                  have hcz13_5 := cellS67_5 HGz13
                  have hfz13_0 := blk_frozen HGz13 0
                  have hfz13_1 := blk_frozen HGz13 1
                  have hfz13_2 := blk_frozen HGz13 2
                  have hfz13_4 := blk_frozen HGz13 4
                  have hfz13_5 := blk_frozen HGz13 5
                  clear HGz13 hgz13
                  have p8 : 0 ≤ (x5_1 : Int) := of_decide_eq_true (by first | (with_reducible assumption) | assumption)
                  have q8 : x5_1 < (s0_0.size : Int) := of_decide_eq_true (by first | (with_reducible assumption) | assumption)
                  have hx8 := bt_at s0_0 x5_1
                  replace p8 := eq_true p8
                  replace q8 := eq_true q8
                  have p10 : 0 ≤ (x5_1 : Int) := of_decide_eq_true (by first | (with_reducible assumption) | assumption)
                  have q10 : x5_1 < (s0_0.size : Int) := of_decide_eq_true (by first | (with_reducible assumption) | assumption)
                  have hx10 := bt_at s0_0 x5_1
                  replace p10 := eq_true p10
                  replace q10 := eq_true q10
                  go_wp2
                  repeat (go_quiet (fail); try go_wp2)
                  go_meet
                  case rel => exact ⟨_, (x5_1), (by first | rfl | (simp; done) | (simp [*]; done)), H', ⟨by have := HK1.out; first | omega | exact Nat.le_refl _⟩, ⟨by repeat (first | (with_reducible first | exact HI0.out | apply IsS67.alloc | apply IsS67.drewN | apply IsS67.drew | apply IsS67.set_0 | apply IsS67.set_1 | apply IsS67.set_2 | apply IsS67.set_4 | apply IsS67.set_5) | exact HI0.out)⟩, ⟨by repeat (first | (with_reducible first | exact HK.out | apply KeepBut.set_ | apply keep_drewN | apply keep_drew | apply keep_alloc) | exact HK.out)⟩, ⟨by repeat (first | (with_reducible first | exact HB.out | apply below_alloc | apply pw_below_drewN | apply below_drew1 | refine below_set ?_ (IsS67.ge HI0.out)) | exact HB.out)⟩⟩
              · rw [if_neg c9] at H
                have c9b0 : decide (48 ≤ (bt s0_0 x5_1)) = false := decide_eq_false c9
                clear c9
                have H' := Aside0.mk H
                clear H
                obtain ⟨ASz14_3, cSz14_3, HGz14, hgz14, HSz14_3⟩ := HI0.out
                have hcz14_0 := cellS67_0 HGz14
                have hcz14_1 := cellS67_1 HGz14
                have hcz14_2 := cellS67_2 HGz14
                have hcz14_3 := cellS67_3 HGz14
                have hcz14_4 := cellS67_4 HGz14
                have hcz14_5 := cellS67_5 HGz14
                have hfz14_0 := blk_frozen HGz14 0
                have hfz14_1 := blk_frozen HGz14 1
                have hfz14_2 := blk_frozen HGz14 2
                have hfz14_4 := blk_frozen HGz14 4
                have hfz14_5 := blk_frozen HGz14 5
                clear HGz14 hgz14
                have p8 : 0 ≤ (x5_1 : Int) := of_decide_eq_true (by first | (with_reducible assumption) | assumption)
                have q8 : x5_1 < (s0_0.size : Int) := of_decide_eq_true (by first | (with_reducible assumption) | assumption)
                have hx8 := bt_at s0_0 x5_1
                replace p8 := eq_true p8
                replace q8 := eq_true q8
                go_wp2
                repeat (go_quiet (fail); try go_wp2)
                go_meet
                case rel => exact ⟨_, (x5_1), (by first | rfl | (simp; done) | (simp [*]; done)), H', ⟨by have := HK1.out; first | omega | exact Nat.le_refl _⟩, ⟨by repeat (first | (with_reducible first | exact HI0.out | apply IsS67.alloc | apply IsS67.drewN | apply IsS67.drew | apply IsS67.set_0 | apply IsS67.set_1 | apply IsS67.set_2 | apply IsS67.set_4 | apply IsS67.set_5) | exact HI0.out)⟩, ⟨by repeat (first | (with_reducible first | exact HK.out | apply KeepBut.set_ | apply keep_drewN | apply keep_drew | apply keep_alloc) | exact HK.out)⟩, ⟨by repeat (first | (with_reducible first | exact HB.out | apply below_alloc | apply pw_below_drewN | apply below_drew1 | refine below_set ?_ (IsS67.ge HI0.out)) | exact HB.out)⟩⟩
            · rw [if_neg c7] at H
              exact absurd H (by simp)
          · rw [if_neg c6] at H
            have c6b0 : decide (x5_1 < (s0_0.size : Int)) = false := decide_eq_false c6
            clear c6
            (first | rw [c6b0] | (simp only [i64_w, i32_w]; rw [c6b0]) | skip)
            have H' := Aside0.mk H
            clear H
            obtain ⟨ASz15_3, cSz15_3, HGz15, hgz15, HSz15_3⟩ := HI0.out
            have hcz15_0 := cellS67_0 HGz15
            have hcz15_1 := cellS67_1 HGz15
            have hcz15_2 := cellS67_2 HGz15
            have hcz15_3 := cellS67_3 HGz15
            have hcz15_4 := cellS67_4 HGz15
            have hcz15_5 := cellS67_5 HGz15
            have hfz15_0 := blk_frozen HGz15 0
            have hfz15_1 := blk_frozen HGz15 1
            have hfz15_2 := blk_frozen HGz15 2
            have hfz15_4 := blk_frozen HGz15 4
            have hfz15_5 := blk_frozen HGz15 5
            clear HGz15 hgz15
            go_wp2
            repeat (go_quiet (fail); try go_wp2)
            go_meet
            case rel => exact ⟨_, (x5_1), (by first | rfl | (simp; done) | (simp [*]; done)), H', ⟨by have := HK1.out; first | omega | exact Nat.le_refl _⟩, ⟨by repeat (first | (with_reducible first | exact HI0.out | apply IsS67.alloc | apply IsS67.drewN | apply IsS67.drew | apply IsS67.set_0 | apply IsS67.set_1 | apply IsS67.set_2 | apply IsS67.set_4 | apply IsS67.set_5) | exact HI0.out)⟩, ⟨by repeat (first | (with_reducible first | exact HK.out | apply KeepBut.set_ | apply keep_drewN | apply keep_drew | apply keep_alloc) | exact HK.out)⟩, ⟨by repeat (first | (with_reducible first | exact HB.out | apply below_alloc | apply pw_below_drewN | apply below_drew1 | refine below_set ?_ (IsS67.ge HI0.out)) | exact HB.out)⟩⟩
    case rest =>
      clear HC4
      try clear c1
      try clear p1
      try clear q1
      try clear hx1
      try clear p2
      try clear c3
      try clear c3b0
      try clear c3b1
      try clear c6
      try clear c6b0
      try clear p6
      try clear c7
      try clear c7b0
      try clear p8
      try clear q8
      try clear hx8
      try clear c9
      try clear c9b0
      try clear c10
      try clear p10
      try clear q10
      try clear hx10
      try clear c11
      try clear c11b0
      try clear hcz12_0
      try clear hcz12_1
      try clear hcz12_2
      try clear hcz12_3
      try clear hcz12_4
      try clear hcz12_5
      try clear hcz13_0
      try clear hcz13_1
      try clear hcz13_2
      try clear hcz13_3
      try clear hcz13_4
      try clear hcz13_5
      try clear hcz14_0
      try clear hcz14_1
      try clear hcz14_2
      try clear hcz14_3
      try clear hcz14_4
      try clear hcz14_5
      try clear hcz15_0
      try clear hcz15_1
      try clear hcz15_2
      try clear hcz15_3
      try clear hcz15_4
      try clear hcz15_5
      try clear hcz5_0
      try clear hcz5_1
      try clear hcz5_2
      try clear hcz5_3
      try clear hcz5_4
      try clear hcz5_5
      try clear hfz12_0
      try clear hfz12_1
      try clear hfz12_2
      try clear hfz12_4
      try clear hfz12_5
      try clear hfz13_0
      try clear hfz13_1
      try clear hfz13_2
      try clear hfz13_4
      try clear hfz13_5
      try clear hfz14_0
      try clear hfz14_1
      try clear hfz14_2
      try clear hfz14_4
      try clear hfz14_5
      try clear hfz15_0
      try clear hfz15_1
      try clear hfz15_2
      try clear hfz15_4
      try clear hfz15_5
      try clear hfz5_0
      try clear hfz5_1
      try clear hfz5_2
      try clear hfz5_4
      try clear hfz5_5
      try clear p10
      try clear p2
      try clear p8
      try clear q10
      try clear q8
      obtain ⟨kq, x5_3, rfl, HA, HJ3, HI0, HK, HB⟩ := hcut
      cases kq with
      | zero => exact absurd HA.out (by simp [dragomanref10_eval_operand.j1])
      | succ kj3 =>
        have H := HA.out
        clear HA
        simp only [dragomanref10_eval_operand.j1] at H
        by_cases c16 : x5_3 > s0_1
        · rw [if_pos c16] at H
          have c16b0 : decide (s0_1 < x5_3) = true := decide_eq_true c16
          clear c16
          by_cases c17 : 0 ≤ s0_1
          · rw [if_pos c17] at H
            have c17b0 := eq_true c17
            have c17b1 : decide (0 ≤ s0_1) = true := decide_eq_true c17
            clear c17
            by_cases c18 : s0_1 ≤ x5_3
            · rw [if_pos c18] at H
              have c18b0 := eq_true c18
              have c18b1 : decide (s0_1 ≤ x5_3) = true := decide_eq_true c18
              clear c18
              by_cases c19 : x5_3 ≤ (s0_0.size : Int)
              · rw [if_pos c19] at H
                have c19b0 := eq_true c19
                have c19b1 : decide (x5_3 ≤ (s0_0.size : Int)) = true := decide_eq_true c19
                clear c19
                replace H := Option.bind_eq_some_iff.mp H
                obtain ⟨⟨t106, t107, t108⟩, A200, H⟩ := H
                replace H : (if t108 = 0 then (some (t106, s0_0, x5_3, s0_2, s0_4, s0_5)) else ((dragomanref10_eval_fails.f s0_0 s0_1 s0_2 s0_3 s0_4 s0_5 9).bind fun bt109 => (some (t106, bt109.1, x5_3, bt109.2.2.1, bt109.2.2.2.1, bt109.2.2.2.2)))) = some (r1, r2, r3, r4, r5, r6) := H
                have A20 := Aside0.mk A200
                clear A200
                by_cases c21 : t108 = 0
                · rw [if_pos c21] at H
                  have c21b0 : (t108 == 0) = true := beq_iff_eq.mpr c21
                  have c21b1 : (t108 != 0) = false := bne_eq_false_iff_eq.mpr c21
                  clear c21
                  simp only [Option.some.injEq, Prod.mk.injEq] at H
                  obtain ⟨rfl, rfl, rfl, rfl, rfl, rfl⟩ := H
                  obtain ⟨ASz22_3, cSz22_3, HGz22, hgz22, HSz22_3⟩ := HI0.out
                  have hcz22_0 := cellS67_0 HGz22
                  have hcz22_1 := cellS67_1 HGz22
                  have hcz22_2 := cellS67_2 HGz22
                  have hcz22_3 := cellS67_3 HGz22
                  have hcz22_4 := cellS67_4 HGz22
                  have hcz22_5 := cellS67_5 HGz22
                  have hfz22_0 := blk_frozen HGz22 0
                  have hfz22_1 := blk_frozen HGz22 1
                  have hfz22_2 := blk_frozen HGz22 2
                  have hfz22_4 := blk_frozen HGz22 4
                  have hfz22_5 := blk_frozen HGz22 5
                  clear HGz22 hgz22
                  go_wp2_with (first | (go_at_call 104; (with_reducible refine (dragomanref01_Whole.calls kj3 (s0_0.extract (s0_1 : Int).toNat (x5_3 : Int).toNat) t106 t107 t108 _ A20.out).mono ?_); rintro e w' ⟨rfl, ⟨nd, rfl⟩⟩; (try first | exact ⟨rfl, _, World.drewN_drewN _ _ _⟩ | exact ⟨rfl, _, Eq.trans (World.drewN_drewN _ _ _) (congrArg (World.drewN _) (Nat.add_assoc _ _ _))⟩)))
                  repeat (go_quiet (first | (go_at_call 104; (with_reducible refine (dragomanref01_Whole.calls kj3 (s0_0.extract (s0_1 : Int).toNat (x5_3 : Int).toNat) t106 t107 t108 _ A20.out).mono ?_); rintro e w' ⟨rfl, ⟨nd, rfl⟩⟩; (try first | exact ⟨rfl, _, World.drewN_drewN _ _ _⟩ | exact ⟨rfl, _, Eq.trans (World.drewN_drewN _ _ _) (congrArg (World.drewN _) (Nat.add_assoc _ _ _))⟩))); try go_wp2_with (first | (go_at_call 104; (with_reducible refine (dragomanref01_Whole.calls kj3 (s0_0.extract (s0_1 : Int).toNat (x5_3 : Int).toNat) t106 t107 t108 _ A20.out).mono ?_); rintro e w' ⟨rfl, ⟨nd, rfl⟩⟩; (try first | exact ⟨rfl, _, World.drewN_drewN _ _ _⟩ | exact ⟨rfl, _, Eq.trans (World.drewN_drewN _ _ _) (congrArg (World.drewN _) (Nat.add_assoc _ _ _))⟩))))
                  go_ret
                  exact ⟨by first | rfl | (simp [errW_none, errW_some] <;> rfl) | (simp [*, errW_none, errW_some] <;> rfl), by repeat (first | (with_reducible first | exact HI0.out | apply IsS67.alloc | apply IsS67.drewN | apply IsS67.drew | apply IsS67.set_0 | apply IsS67.set_1 | apply IsS67.set_2 | apply IsS67.set_4 | apply IsS67.set_5) | exact HI0.out), by repeat (first | (with_reducible first | exact HB.out | apply below_alloc | apply pw_below_drewN | apply below_drew1 | refine below_set ?_ (IsS67.ge HI0.out)) | exact HB.out), by repeat (first | (with_reducible first | exact HK.out | apply KeepBut.set_ | apply keep_drewN | apply keep_drew | apply keep_alloc) | exact HK.out)⟩
                · rw [if_neg c21] at H
                  have c21b0 : (t108 == 0) = false := beq_eq_false_iff_ne.mpr c21
                  have c21b1 : (t108 != 0) = true := bne_iff_ne.mpr c21
                  replace H := Option.bind_eq_some_iff.mp H
                  obtain ⟨⟨t109, t110, t111, t112, t113⟩, A230, H⟩ := H
                  replace H : (some (t106, t109, x5_3, t111, t112, t113)) = some (r1, r2, r3, r4, r5, r6) := H
                  have A23 := Aside0.mk A230
                  clear A230
                  simp only [Option.some.injEq, Prod.mk.injEq] at H
                  obtain ⟨rfl, rfl, rfl, rfl, rfl, rfl⟩ := H
                  obtain ⟨ASz24_3, cSz24_3, HGz24, hgz24, HSz24_3⟩ := HI0.out
                  have hcz24_0 := cellS67_0 HGz24
                  have hcz24_1 := cellS67_1 HGz24
                  have hcz24_2 := cellS67_2 HGz24
                  have hcz24_3 := cellS67_3 HGz24
                  have hcz24_4 := cellS67_4 HGz24
                  have hcz24_5 := cellS67_5 HGz24
                  have hfz24_0 := blk_frozen HGz24 0
                  have hfz24_1 := blk_frozen HGz24 1
                  have hfz24_2 := blk_frozen HGz24 2
                  have hfz24_4 := blk_frozen HGz24 4
                  have hfz24_5 := blk_frozen HGz24 5
                  clear HGz24 hgz24
                  go_wp2_with (first | (go_at_call 104; (with_reducible refine (dragomanref01_Whole.calls kj3 (s0_0.extract (s0_1 : Int).toNat (x5_3 : Int).toNat) t106 t107 t108 _ A20.out).mono ?_); rintro e w' ⟨rfl, ⟨nd, rfl⟩⟩; (try first | exact ⟨rfl, _, World.drewN_drewN _ _ _⟩ | exact ⟨rfl, _, Eq.trans (World.drewN_drewN _ _ _) (congrArg (World.drewN _) (Nat.add_assoc _ _ _))⟩)) | (go_at_call 34; (with_reducible refine (dragomanref10_eval_fails.calls g s0_0 s0_1 s0_2 s0_3 s0_4 s0_5 9 t109 t110 t111 t112 t113 w0 _ ?side1 ?side2 A23.out).mono ?_); (case side1 => repeat (first | (with_reducible first | exact HI0.out | apply IsS67.alloc | apply IsS67.drewN | apply IsS67.drew | apply IsS67.set_0 | apply IsS67.set_1 | apply IsS67.set_2 | apply IsS67.set_4 | apply IsS67.set_5) | exact HI0.out)); (case side2 => repeat (first | (with_reducible first | exact HB.out | apply below_alloc | apply pw_below_drewN | apply below_drew1 | refine below_set ?_ (IsS67.ge HI0.out)) | exact HB.out)); rintro e w25 ⟨rfl, hi, hb, hk⟩; have n0_ := Aside0.mk (KeepBut.trans (by repeat (first | (with_reducible first | exact HK.out | apply KeepBut.set_ | apply keep_drewN | apply keep_drew | apply keep_alloc) | exact HK.out)) hk (.inl rfl)); have n1_ := Aside0.mk (hb); have n2_ := Aside0.mk (hi); clear HK; clear HB; clear HI0; have HK := n0_; have HB := n1_; have HI0 := n2_; clear n0_ n1_ n2_; (try clear hb); (try clear hb2); (try clear hk); (try clear hi); obtain ⟨ASz26_3, cSz26_3, HGz26, hgz26, HSz26_3⟩ := HI0.out; have hcz26_0 := cellS67_0 HGz26; have hcz26_1 := cellS67_1 HGz26; have hcz26_2 := cellS67_2 HGz26; have hcz26_3 := cellS67_3 HGz26; have hcz26_4 := cellS67_4 HGz26; have hcz26_5 := cellS67_5 HGz26; have hfz26_0 := blk_frozen HGz26 0; have hfz26_1 := blk_frozen HGz26 1; have hfz26_2 := blk_frozen HGz26 2; have hfz26_4 := blk_frozen HGz26 4; have hfz26_5 := blk_frozen HGz26 5; clear HGz26 hgz26))
                  repeat (go_quiet (first | (go_at_call 104; (with_reducible refine (dragomanref01_Whole.calls kj3 (s0_0.extract (s0_1 : Int).toNat (x5_3 : Int).toNat) t106 t107 t108 _ A20.out).mono ?_); rintro e w' ⟨rfl, ⟨nd, rfl⟩⟩; (try first | exact ⟨rfl, _, World.drewN_drewN _ _ _⟩ | exact ⟨rfl, _, Eq.trans (World.drewN_drewN _ _ _) (congrArg (World.drewN _) (Nat.add_assoc _ _ _))⟩)) | (go_at_call 34; (with_reducible refine (dragomanref10_eval_fails.calls g s0_0 s0_1 s0_2 s0_3 s0_4 s0_5 9 t109 t110 t111 t112 t113 w0 _ ?side1 ?side2 A23.out).mono ?_); (case side1 => repeat (first | (with_reducible first | exact HI0.out | apply IsS67.alloc | apply IsS67.drewN | apply IsS67.drew | apply IsS67.set_0 | apply IsS67.set_1 | apply IsS67.set_2 | apply IsS67.set_4 | apply IsS67.set_5) | exact HI0.out)); (case side2 => repeat (first | (with_reducible first | exact HB.out | apply below_alloc | apply pw_below_drewN | apply below_drew1 | refine below_set ?_ (IsS67.ge HI0.out)) | exact HB.out)); rintro e w25 ⟨rfl, hi, hb, hk⟩; have n0_ := Aside0.mk (KeepBut.trans (by repeat (first | (with_reducible first | exact HK.out | apply KeepBut.set_ | apply keep_drewN | apply keep_drew | apply keep_alloc) | exact HK.out)) hk (.inl rfl)); have n1_ := Aside0.mk (hb); have n2_ := Aside0.mk (hi); clear HK; clear HB; clear HI0; have HK := n0_; have HB := n1_; have HI0 := n2_; clear n0_ n1_ n2_; (try clear hb); (try clear hb2); (try clear hk); (try clear hi); obtain ⟨ASz26_3, cSz26_3, HGz26, hgz26, HSz26_3⟩ := HI0.out; have hcz26_0 := cellS67_0 HGz26; have hcz26_1 := cellS67_1 HGz26; have hcz26_2 := cellS67_2 HGz26; have hcz26_3 := cellS67_3 HGz26; have hcz26_4 := cellS67_4 HGz26; have hcz26_5 := cellS67_5 HGz26; have hfz26_0 := blk_frozen HGz26 0; have hfz26_1 := blk_frozen HGz26 1; have hfz26_2 := blk_frozen HGz26 2; have hfz26_4 := blk_frozen HGz26 4; have hfz26_5 := blk_frozen HGz26 5; clear HGz26 hgz26)); try go_wp2_with (first | (go_at_call 104; (with_reducible refine (dragomanref01_Whole.calls kj3 (s0_0.extract (s0_1 : Int).toNat (x5_3 : Int).toNat) t106 t107 t108 _ A20.out).mono ?_); rintro e w' ⟨rfl, ⟨nd, rfl⟩⟩; (try first | exact ⟨rfl, _, World.drewN_drewN _ _ _⟩ | exact ⟨rfl, _, Eq.trans (World.drewN_drewN _ _ _) (congrArg (World.drewN _) (Nat.add_assoc _ _ _))⟩)) | (go_at_call 34; (with_reducible refine (dragomanref10_eval_fails.calls g s0_0 s0_1 s0_2 s0_3 s0_4 s0_5 9 t109 t110 t111 t112 t113 w0 _ ?side1 ?side2 A23.out).mono ?_); (case side1 => repeat (first | (with_reducible first | exact HI0.out | apply IsS67.alloc | apply IsS67.drewN | apply IsS67.drew | apply IsS67.set_0 | apply IsS67.set_1 | apply IsS67.set_2 | apply IsS67.set_4 | apply IsS67.set_5) | exact HI0.out)); (case side2 => repeat (first | (with_reducible first | exact HB.out | apply below_alloc | apply pw_below_drewN | apply below_drew1 | refine below_set ?_ (IsS67.ge HI0.out)) | exact HB.out)); rintro e w25 ⟨rfl, hi, hb, hk⟩; have n0_ := Aside0.mk (KeepBut.trans (by repeat (first | (with_reducible first | exact HK.out | apply KeepBut.set_ | apply keep_drewN | apply keep_drew | apply keep_alloc) | exact HK.out)) hk (.inl rfl)); have n1_ := Aside0.mk (hb); have n2_ := Aside0.mk (hi); clear HK; clear HB; clear HI0; have HK := n0_; have HB := n1_; have HI0 := n2_; clear n0_ n1_ n2_; (try clear hb); (try clear hb2); (try clear hk); (try clear hi); obtain ⟨ASz26_3, cSz26_3, HGz26, hgz26, HSz26_3⟩ := HI0.out; have hcz26_0 := cellS67_0 HGz26; have hcz26_1 := cellS67_1 HGz26; have hcz26_2 := cellS67_2 HGz26; have hcz26_3 := cellS67_3 HGz26; have hcz26_4 := cellS67_4 HGz26; have hcz26_5 := cellS67_5 HGz26; have hfz26_0 := blk_frozen HGz26 0; have hfz26_1 := blk_frozen HGz26 1; have hfz26_2 := blk_frozen HGz26 2; have hfz26_4 := blk_frozen HGz26 4; have hfz26_5 := blk_frozen HGz26 5; clear HGz26 hgz26)))
                  go_ret
                  exact ⟨by first | rfl | (simp [errW_none, errW_some] <;> rfl) | (simp [*, errW_none, errW_some] <;> rfl), by repeat (first | (with_reducible first | exact HI0.out | apply IsS67.alloc | apply IsS67.drewN | apply IsS67.drew | apply IsS67.set_0 | apply IsS67.set_1 | apply IsS67.set_2 | apply IsS67.set_4 | apply IsS67.set_5) | exact HI0.out), by repeat (first | (with_reducible first | exact HB.out | apply below_alloc | apply pw_below_drewN | apply below_drew1 | refine below_set ?_ (IsS67.ge HI0.out)) | exact HB.out), by repeat (first | (with_reducible first | exact HK.out | apply KeepBut.set_ | apply keep_drewN | apply keep_drew | apply keep_alloc) | exact HK.out)⟩
              · rw [if_neg c19] at H
                exact absurd H (by simp)
            · rw [if_neg c18] at H
              exact absurd H (by simp)
          · rw [if_neg c17] at H
            exact absurd H (by simp)
        · rw [if_neg c16] at H
          have c16b0 : decide (s0_1 < x5_3) = false := decide_eq_false c16
          clear c16
          have HC27 := Aside0.mk H
          clear H
          obtain ⟨ASz28_3, cSz28_3, HGz28, hgz28, HSz28_3⟩ := HI0.out
          have hcz28_0 := cellS67_0 HGz28
          have hcz28_1 := cellS67_1 HGz28
          have hcz28_2 := cellS67_2 HGz28
          have hcz28_3 := cellS67_3 HGz28
          have hcz28_4 := cellS67_4 HGz28
          have hcz28_5 := cellS67_5 HGz28
          have hfz28_0 := blk_frozen HGz28 0
          have hfz28_1 := blk_frozen HGz28 1
          have hfz28_2 := blk_frozen HGz28 2
          have hfz28_4 := blk_frozen HGz28 4
          have hfz28_5 := blk_frozen HGz28 5
          clear HGz28 hgz28
          go_upto_block 2 with (fail)
          repeat (go_quiet (fail); go_upto_block 2 with (fail))
          go_cut [5] (fun v5 wc => ∃ (kq : Nat) (x5_26 : Int), v5 = .int .i64 x5_26 ∧ Aside0 (dragomanref10_eval_operand.j3 kq a1 x5_26 s0_0 s0_1 s0_2 s0_3 s0_4 s0_5 = some (r1, r2, r3, r4, r5, r6)) ∧ Aside0 (kq ≤ kj3) ∧ Aside0 (IsS67 w0 wc g s0_0 s0_1 s0_2 s0_3 s0_4 s0_5) ∧ Aside0 (KeepBut w wc g none) ∧ Aside0 (Below w0.heap.size w0 wc))
          case first =>
            have H := HC27.out
            clear HC27
            have H' := Aside0.mk H
            clear H
            go_wp2
            repeat (go_quiet (fail); try go_wp2)
            go_loopg [5] kj3 (fun kq v5 w' => ∃ (x5_2 : Int), v5 = .int .i64 x5_2 ∧ Aside0 (dragomanref10_eval_operand.l1 kq a1 x5_2 s0_0 s0_1 s0_2 s0_3 s0_4 s0_5 = some (r1, r2, r3, r4, r5, r6)) ∧ Aside0 (kq ≤ kj3) ∧ Aside0 (IsS67 w0 w' g s0_0 s0_1 s0_2 s0_3 s0_4 s0_5) ∧ Aside0 (KeepBut w w' g none) ∧ Aside0 (Below w0.heap.size w0 w'))
            case atStart => exact ⟨(x5_3), (by first | rfl | (simp; done) | (simp [*]; done)), H', ⟨Nat.le_refl _⟩, ⟨by repeat (first | (with_reducible first | exact HI0.out | apply IsS67.alloc | apply IsS67.drewN | apply IsS67.drew | apply IsS67.set_0 | apply IsS67.set_1 | apply IsS67.set_2 | apply IsS67.set_4 | apply IsS67.set_5) | exact HI0.out)⟩, ⟨by repeat (first | (with_reducible first | exact HK.out | apply KeepBut.set_ | apply keep_drewN | apply keep_drew | apply keep_alloc) | exact HK.out)⟩, ⟨by repeat (first | (with_reducible first | exact HB.out | apply below_alloc | apply pw_below_drewN | apply below_drew1 | refine below_set ?_ (IsS67.ge HI0.out)) | exact HB.out)⟩⟩
            case round =>
              clear H'
              try clear c1
              try clear p1
              try clear q1
              try clear hx1
              try clear c2
              try clear p2
              try clear c3
              try clear c3b0
              try clear c3b1
              try clear c6
              try clear c6b0
              try clear p6
              try clear c7
              try clear c7b0
              try clear p8
              try clear q8
              try clear hx8
              try clear c9
              try clear c9b0
              try clear c10
              try clear p10
              try clear q10
              try clear hx10
              try clear c11
              try clear c11b0
              try clear c16
              try clear c16b0
              try clear c17
              try clear c17b0
              try clear c17b1
              try clear c18
              try clear c18b0
              try clear c18b1
              try clear c19
              try clear c19b0
              try clear c19b1
              try clear c21
              try clear c21b0
              try clear c21b1
              try clear hcz12_0
              try clear hcz12_1
              try clear hcz12_2
              try clear hcz12_3
              try clear hcz12_4
              try clear hcz12_5
              try clear hcz13_0
              try clear hcz13_1
              try clear hcz13_2
              try clear hcz13_3
              try clear hcz13_4
              try clear hcz13_5
              try clear hcz14_0
              try clear hcz14_1
              try clear hcz14_2
              try clear hcz14_3
              try clear hcz14_4
              try clear hcz14_5
              try clear hcz15_0
              try clear hcz15_1
              try clear hcz15_2
              try clear hcz15_3
              try clear hcz15_4
              try clear hcz15_5
              try clear hcz22_0
              try clear hcz22_1
              try clear hcz22_2
              try clear hcz22_3
              try clear hcz22_4
              try clear hcz22_5
              try clear hcz24_0
              try clear hcz24_1
              try clear hcz24_2
              try clear hcz24_3
              try clear hcz24_4
              try clear hcz24_5
              try clear hcz26_0
              try clear hcz26_1
              try clear hcz26_2
              try clear hcz26_3
              try clear hcz26_4
              try clear hcz26_5
              try clear hcz28_0
              try clear hcz28_1
              try clear hcz28_2
              try clear hcz28_3
              try clear hcz28_4
              try clear hcz28_5
              try clear hcz5_0
              try clear hcz5_1
              try clear hcz5_2
              try clear hcz5_3
              try clear hcz5_4
              try clear hcz5_5
              try clear hfz12_0
              try clear hfz12_1
              try clear hfz12_2
              try clear hfz12_4
              try clear hfz12_5
              try clear hfz13_0
              try clear hfz13_1
              try clear hfz13_2
              try clear hfz13_4
              try clear hfz13_5
              try clear hfz14_0
              try clear hfz14_1
              try clear hfz14_2
              try clear hfz14_4
              try clear hfz14_5
              try clear hfz15_0
              try clear hfz15_1
              try clear hfz15_2
              try clear hfz15_4
              try clear hfz15_5
              try clear hfz22_0
              try clear hfz22_1
              try clear hfz22_2
              try clear hfz22_4
              try clear hfz22_5
              try clear hfz24_0
              try clear hfz24_1
              try clear hfz24_2
              try clear hfz24_4
              try clear hfz24_5
              try clear hfz26_0
              try clear hfz26_1
              try clear hfz26_2
              try clear hfz26_4
              try clear hfz26_5
              try clear hfz28_0
              try clear hfz28_1
              try clear hfz28_2
              try clear hfz28_4
              try clear hfz28_5
              try clear hfz5_0
              try clear hfz5_1
              try clear hfz5_2
              try clear hfz5_4
              try clear hfz5_5
              try clear p1
              try clear p10
              try clear p2
              try clear p6
              try clear p8
              try clear q1
              try clear q10
              try clear q8
              obtain ⟨x5_2, rfl, HA, HK2, HI0, HK, HB⟩ := hrel
              cases gk with
              | zero => exact absurd HA.out (by simp [dragomanref10_eval_operand.l1])
              | succ k2 =>
                have H := HA.out
                clear HA
                simp only [dragomanref10_eval_operand.l1] at H
                by_cases c29 : x5_2 < (s0_0.size : Int)
                · rw [if_pos c29] at H
                  have c29b0 : decide (x5_2 < (s0_0.size : Int)) = true := decide_eq_true c29
                  clear c29
                  (first | rw [c29b0] | (simp only [i64_w, i32_w]; rw [c29b0]) | skip)
                  by_cases c30 : 0 ≤ s0_1
                  · rw [if_pos c30] at H
                    have c30b0 := eq_true c30
                    have c30b1 : decide (0 ≤ s0_1) = true := decide_eq_true c30
                    clear c30
                    by_cases c31 : s0_1 ≤ (wrap64 (x5_2 + 1))
                    · rw [if_pos c31] at H
                      have c31b0 := eq_true c31
                      have c31b1 : decide (s0_1 ≤ (wrap64 (x5_2 + 1))) = true := decide_eq_true c31
                      try (have c31b1n := c31b1; rw [wrapFit (by omega) (by omega)] at c31b1n)
                      by_cases c32 : (wrap64 (x5_2 + 1)) ≤ (s0_0.size : Int)
                      · rw [if_pos c32] at H
                        have c32b0 := eq_true c32
                        have c32b1 : decide ((wrap64 (x5_2 + 1)) ≤ (s0_0.size : Int)) = true := decide_eq_true c32
                        try (have c32b1n := c32b1; rw [wrapFit (by omega) (by omega)] at c32b1n)
                        replace H := Option.bind_eq_some_iff.mp H
                        obtain ⟨t114, A330, H⟩ := H
                        replace H : (if t114 = true then (dragomanref10_eval_operand.l1 k2 a1 (wrap64 (x5_2 + 1)) s0_0 s0_1 s0_2 s0_3 s0_4 s0_5) else (dragomanref10_eval_operand.j3 k2 a1 x5_2 s0_0 s0_1 s0_2 s0_3 s0_4 s0_5)) = some (r1, r2, r3, r4, r5, r6) := H
                        have A33 := Aside0.mk A330
                        clear A330
                        by_cases c34 : t114 = true
                        · subst c34
                          have H1 : (dragomanref10_eval_operand.l1 k2 a1 (wrap64 (x5_2 + 1)) s0_0 s0_1 s0_2 s0_3 s0_4 s0_5) = some (r1, r2, r3, r4, r5, r6) := by rw [if_pos rfl] at H; exact H
                          clear H
                          have H := H1
                          clear H1
                          have H' := Aside0.mk H
                          clear H
                          obtain ⟨ASz35_3, cSz35_3, HGz35, hgz35, HSz35_3⟩ := HI0.out
                          have hcz35_0 := cellS67_0 HGz35
                          have hcz35_1 := cellS67_1 HGz35
                          have hcz35_2 := cellS67_2 HGz35
                          have hcz35_3 := cellS67_3 HGz35
                          have hcz35_4 := cellS67_4 HGz35
                          have hcz35_5 := cellS67_5 HGz35
                          have hfz35_0 := blk_frozen HGz35 0
                          have hfz35_1 := blk_frozen HGz35 1
                          have hfz35_2 := blk_frozen HGz35 2
                          have hfz35_4 := blk_frozen HGz35 4
                          have hfz35_5 := blk_frozen HGz35 5
                          clear HGz35 hgz35
                          go_wp2_with (first | (go_at_call 30; (with_reducible refine (dragomanref01_IsName.calls k2 (s0_0.extract (s0_1 : Int).toNat ((wrap64 (x5_2 + 1)) : Int).toNat) true _ A33.out).mono ?_); rintro e w' ⟨rfl, ⟨nd, rfl⟩⟩; (try first | exact ⟨rfl, _, World.drewN_drewN _ _ _⟩ | exact ⟨rfl, _, Eq.trans (World.drewN_drewN _ _ _) (congrArg (World.drewN _) (Nat.add_assoc _ _ _))⟩)))
                          repeat (go_quiet (first | (go_at_call 30; (with_reducible refine (dragomanref01_IsName.calls k2 (s0_0.extract (s0_1 : Int).toNat ((wrap64 (x5_2 + 1)) : Int).toNat) true _ A33.out).mono ?_); rintro e w' ⟨rfl, ⟨nd, rfl⟩⟩; (try first | exact ⟨rfl, _, World.drewN_drewN _ _ _⟩ | exact ⟨rfl, _, Eq.trans (World.drewN_drewN _ _ _) (congrArg (World.drewN _) (Nat.add_assoc _ _ _))⟩))); try go_wp2_with (first | (go_at_call 30; (with_reducible refine (dragomanref01_IsName.calls k2 (s0_0.extract (s0_1 : Int).toNat ((wrap64 (x5_2 + 1)) : Int).toNat) true _ A33.out).mono ?_); rintro e w' ⟨rfl, ⟨nd, rfl⟩⟩; (try first | exact ⟨rfl, _, World.drewN_drewN _ _ _⟩ | exact ⟨rfl, _, Eq.trans (World.drewN_drewN _ _ _) (congrArg (World.drewN _) (Nat.add_assoc _ _ _))⟩))))
                          go_roundg k2
                          case measure => have := HJ3.out; have := HK2.out; omega
                          case rel => exact ⟨(wrap64 (x5_2 + 1)), (by first | rfl | (simp; done) | (simp [*]; done)), H', ⟨by have := HJ3.out; have := HK2.out; omega⟩, ⟨by repeat (first | (with_reducible first | exact HI0.out | apply IsS67.alloc | apply IsS67.drewN | apply IsS67.drew | apply IsS67.set_0 | apply IsS67.set_1 | apply IsS67.set_2 | apply IsS67.set_4 | apply IsS67.set_5) | exact HI0.out)⟩, ⟨by repeat (first | (with_reducible first | exact HK.out | apply KeepBut.set_ | apply keep_drewN | apply keep_drew | apply keep_alloc) | exact HK.out)⟩, ⟨by repeat (first | (with_reducible first | exact HB.out | apply below_alloc | apply pw_below_drewN | apply below_drew1 | refine below_set ?_ (IsS67.ge HI0.out)) | exact HB.out)⟩⟩
                        · replace c34 := Bool.eq_false_iff.mpr c34
                          subst c34
                          have H1 : (dragomanref10_eval_operand.j3 k2 a1 x5_2 s0_0 s0_1 s0_2 s0_3 s0_4 s0_5) = some (r1, r2, r3, r4, r5, r6) := by rw [if_neg (show ¬ (false = true) by decide)] at H; exact H
                          clear H
                          have H := H1
                          clear H1
                          have H' := Aside0.mk H
                          clear H
                          obtain ⟨ASz36_3, cSz36_3, HGz36, hgz36, HSz36_3⟩ := HI0.out
                          have hcz36_0 := cellS67_0 HGz36
                          have hcz36_1 := cellS67_1 HGz36
                          have hcz36_2 := cellS67_2 HGz36
                          have hcz36_3 := cellS67_3 HGz36
                          have hcz36_4 := cellS67_4 HGz36
                          have hcz36_5 := cellS67_5 HGz36
                          have hfz36_0 := blk_frozen HGz36 0
                          have hfz36_1 := blk_frozen HGz36 1
                          have hfz36_2 := blk_frozen HGz36 2
                          have hfz36_4 := blk_frozen HGz36 4
                          have hfz36_5 := blk_frozen HGz36 5
                          clear HGz36 hgz36
                          go_wp2_with (first | (go_at_call 30; (with_reducible refine (dragomanref01_IsName.calls k2 (s0_0.extract (s0_1 : Int).toNat ((wrap64 (x5_2 + 1)) : Int).toNat) false _ A33.out).mono ?_); rintro e w' ⟨rfl, ⟨nd, rfl⟩⟩; (try first | exact ⟨rfl, _, World.drewN_drewN _ _ _⟩ | exact ⟨rfl, _, Eq.trans (World.drewN_drewN _ _ _) (congrArg (World.drewN _) (Nat.add_assoc _ _ _))⟩)))
                          repeat (go_quiet (first | (go_at_call 30; (with_reducible refine (dragomanref01_IsName.calls k2 (s0_0.extract (s0_1 : Int).toNat ((wrap64 (x5_2 + 1)) : Int).toNat) false _ A33.out).mono ?_); rintro e w' ⟨rfl, ⟨nd, rfl⟩⟩; (try first | exact ⟨rfl, _, World.drewN_drewN _ _ _⟩ | exact ⟨rfl, _, Eq.trans (World.drewN_drewN _ _ _) (congrArg (World.drewN _) (Nat.add_assoc _ _ _))⟩))); try go_wp2_with (first | (go_at_call 30; (with_reducible refine (dragomanref01_IsName.calls k2 (s0_0.extract (s0_1 : Int).toNat ((wrap64 (x5_2 + 1)) : Int).toNat) false _ A33.out).mono ?_); rintro e w' ⟨rfl, ⟨nd, rfl⟩⟩; (try first | exact ⟨rfl, _, World.drewN_drewN _ _ _⟩ | exact ⟨rfl, _, Eq.trans (World.drewN_drewN _ _ _) (congrArg (World.drewN _) (Nat.add_assoc _ _ _))⟩))))
                          go_meet
                          case rel => exact ⟨_, (x5_2), (by first | rfl | (simp; done) | (simp [*]; done)), H', ⟨by have := HJ3.out; have := HK2.out; first | omega | exact Nat.le_refl _⟩, ⟨by repeat (first | (with_reducible first | exact HI0.out | apply IsS67.alloc | apply IsS67.drewN | apply IsS67.drew | apply IsS67.set_0 | apply IsS67.set_1 | apply IsS67.set_2 | apply IsS67.set_4 | apply IsS67.set_5) | exact HI0.out)⟩, ⟨by repeat (first | (with_reducible first | exact HK.out | apply KeepBut.set_ | apply keep_drewN | apply keep_drew | apply keep_alloc) | exact HK.out)⟩, ⟨by repeat (first | (with_reducible first | exact HB.out | apply below_alloc | apply pw_below_drewN | apply below_drew1 | refine below_set ?_ (IsS67.ge HI0.out)) | exact HB.out)⟩⟩
                      · rw [if_neg c32] at H
                        exact absurd H (by simp)
                    · rw [if_neg c31] at H
                      exact absurd H (by simp)
                  · rw [if_neg c30] at H
                    exact absurd H (by simp)
                · rw [if_neg c29] at H
                  have c29b0 : decide (x5_2 < (s0_0.size : Int)) = false := decide_eq_false c29
                  clear c29
                  (first | rw [c29b0] | (simp only [i64_w, i32_w]; rw [c29b0]) | skip)
                  have H' := Aside0.mk H
                  clear H
                  obtain ⟨ASz37_3, cSz37_3, HGz37, hgz37, HSz37_3⟩ := HI0.out
                  have hcz37_0 := cellS67_0 HGz37
                  have hcz37_1 := cellS67_1 HGz37
                  have hcz37_2 := cellS67_2 HGz37
                  have hcz37_3 := cellS67_3 HGz37
                  have hcz37_4 := cellS67_4 HGz37
                  have hcz37_5 := cellS67_5 HGz37
                  have hfz37_0 := blk_frozen HGz37 0
                  have hfz37_1 := blk_frozen HGz37 1
                  have hfz37_2 := blk_frozen HGz37 2
                  have hfz37_4 := blk_frozen HGz37 4
                  have hfz37_5 := blk_frozen HGz37 5
                  clear HGz37 hgz37
                  go_wp2
                  repeat (go_quiet (fail); try go_wp2)
                  go_meet
                  case rel => exact ⟨_, (x5_2), (by first | rfl | (simp; done) | (simp [*]; done)), H', ⟨by have := HJ3.out; have := HK2.out; first | omega | exact Nat.le_refl _⟩, ⟨by repeat (first | (with_reducible first | exact HI0.out | apply IsS67.alloc | apply IsS67.drewN | apply IsS67.drew | apply IsS67.set_0 | apply IsS67.set_1 | apply IsS67.set_2 | apply IsS67.set_4 | apply IsS67.set_5) | exact HI0.out)⟩, ⟨by repeat (first | (with_reducible first | exact HK.out | apply KeepBut.set_ | apply keep_drewN | apply keep_drew | apply keep_alloc) | exact HK.out)⟩, ⟨by repeat (first | (with_reducible first | exact HB.out | apply below_alloc | apply pw_below_drewN | apply below_drew1 | refine below_set ?_ (IsS67.ge HI0.out)) | exact HB.out)⟩⟩
          case rest =>
            clear HC27
            try clear c1
            try clear p1
            try clear q1
            try clear hx1
            try clear c2
            try clear p2
            try clear c3
            try clear c3b0
            try clear c3b1
            try clear c6
            try clear c6b0
            try clear p6
            try clear c7
            try clear c7b0
            try clear p8
            try clear q8
            try clear hx8
            try clear c9
            try clear c9b0
            try clear c10
            try clear p10
            try clear q10
            try clear hx10
            try clear c11
            try clear c11b0
            try clear c16
            try clear c16b0
            try clear c17
            try clear c17b0
            try clear c17b1
            try clear c18
            try clear c18b0
            try clear c18b1
            try clear c19
            try clear c19b0
            try clear c19b1
            try clear c21
            try clear c21b0
            try clear c21b1
            try clear c29
            try clear c29b0
            try clear c30
            try clear c30b0
            try clear c30b1
            try clear c31
            try clear c31b0
            try clear c31b1
            try clear c32
            try clear c32b0
            try clear c32b1
            try clear c34
            try clear hcz12_0
            try clear hcz12_1
            try clear hcz12_2
            try clear hcz12_3
            try clear hcz12_4
            try clear hcz12_5
            try clear hcz13_0
            try clear hcz13_1
            try clear hcz13_2
            try clear hcz13_3
            try clear hcz13_4
            try clear hcz13_5
            try clear hcz14_0
            try clear hcz14_1
            try clear hcz14_2
            try clear hcz14_3
            try clear hcz14_4
            try clear hcz14_5
            try clear hcz15_0
            try clear hcz15_1
            try clear hcz15_2
            try clear hcz15_3
            try clear hcz15_4
            try clear hcz15_5
            try clear hcz22_0
            try clear hcz22_1
            try clear hcz22_2
            try clear hcz22_3
            try clear hcz22_4
            try clear hcz22_5
            try clear hcz24_0
            try clear hcz24_1
            try clear hcz24_2
            try clear hcz24_3
            try clear hcz24_4
            try clear hcz24_5
            try clear hcz26_0
            try clear hcz26_1
            try clear hcz26_2
            try clear hcz26_3
            try clear hcz26_4
            try clear hcz26_5
            try clear hcz28_0
            try clear hcz28_1
            try clear hcz28_2
            try clear hcz28_3
            try clear hcz28_4
            try clear hcz28_5
            try clear hcz35_0
            try clear hcz35_1
            try clear hcz35_2
            try clear hcz35_3
            try clear hcz35_4
            try clear hcz35_5
            try clear hcz36_0
            try clear hcz36_1
            try clear hcz36_2
            try clear hcz36_3
            try clear hcz36_4
            try clear hcz36_5
            try clear hcz37_0
            try clear hcz37_1
            try clear hcz37_2
            try clear hcz37_3
            try clear hcz37_4
            try clear hcz37_5
            try clear hcz5_0
            try clear hcz5_1
            try clear hcz5_2
            try clear hcz5_3
            try clear hcz5_4
            try clear hcz5_5
            try clear hfz12_0
            try clear hfz12_1
            try clear hfz12_2
            try clear hfz12_4
            try clear hfz12_5
            try clear hfz13_0
            try clear hfz13_1
            try clear hfz13_2
            try clear hfz13_4
            try clear hfz13_5
            try clear hfz14_0
            try clear hfz14_1
            try clear hfz14_2
            try clear hfz14_4
            try clear hfz14_5
            try clear hfz15_0
            try clear hfz15_1
            try clear hfz15_2
            try clear hfz15_4
            try clear hfz15_5
            try clear hfz22_0
            try clear hfz22_1
            try clear hfz22_2
            try clear hfz22_4
            try clear hfz22_5
            try clear hfz24_0
            try clear hfz24_1
            try clear hfz24_2
            try clear hfz24_4
            try clear hfz24_5
            try clear hfz26_0
            try clear hfz26_1
            try clear hfz26_2
            try clear hfz26_4
            try clear hfz26_5
            try clear hfz28_0
            try clear hfz28_1
            try clear hfz28_2
            try clear hfz28_4
            try clear hfz28_5
            try clear hfz35_0
            try clear hfz35_1
            try clear hfz35_2
            try clear hfz35_4
            try clear hfz35_5
            try clear hfz36_0
            try clear hfz36_1
            try clear hfz36_2
            try clear hfz36_4
            try clear hfz36_5
            try clear hfz37_0
            try clear hfz37_1
            try clear hfz37_2
            try clear hfz37_4
            try clear hfz37_5
            try clear hfz5_0
            try clear hfz5_1
            try clear hfz5_2
            try clear hfz5_4
            try clear hfz5_5
            try clear p1
            try clear p10
            try clear p2
            try clear p6
            try clear p8
            try clear q1
            try clear q10
            try clear q8
            obtain ⟨kq, x5_26, rfl, HA, HJ26, HI0, HK, HB⟩ := hcut
            cases kq with
            | zero => exact absurd HA.out (by simp [dragomanref10_eval_operand.j3])
            | succ kj26 =>
              have H := HA.out
              clear HA
              simp only [dragomanref10_eval_operand.j3] at H
              by_cases c38 : x5_26 = s0_1
              · rw [if_pos c38] at H
                have c38b0 : (x5_26 == s0_1) = true := beq_iff_eq.mpr c38
                have c38b1 : (x5_26 != s0_1) = false := bne_eq_false_iff_eq.mpr c38
                clear c38
                replace H := Option.bind_eq_some_iff.mp H
                obtain ⟨⟨t115, t116, t117, t118, t119⟩, A390, H⟩ := H
                replace H : (some (0, t115, t116, t117, t118, t119)) = some (r1, r2, r3, r4, r5, r6) := H
                have A39 := Aside0.mk A390
                clear A390
                simp only [Option.some.injEq, Prod.mk.injEq] at H
                obtain ⟨rfl, rfl, rfl, rfl, rfl, rfl⟩ := H
                obtain ⟨ASz40_3, cSz40_3, HGz40, hgz40, HSz40_3⟩ := HI0.out
                have hcz40_0 := cellS67_0 HGz40
                have hcz40_1 := cellS67_1 HGz40
                have hcz40_2 := cellS67_2 HGz40
                have hcz40_3 := cellS67_3 HGz40
                have hcz40_4 := cellS67_4 HGz40
                have hcz40_5 := cellS67_5 HGz40
                have hfz40_0 := blk_frozen HGz40 0
                have hfz40_1 := blk_frozen HGz40 1
                have hfz40_2 := blk_frozen HGz40 2
                have hfz40_4 := blk_frozen HGz40 4
                have hfz40_5 := blk_frozen HGz40 5
                clear HGz40 hgz40
                go_wp2_with (first | (go_at_call 34; (with_reducible refine (dragomanref10_eval_fails.calls g s0_0 s0_1 s0_2 s0_3 s0_4 s0_5 9 t115 t116 t117 t118 t119 w0 _ ?side1 ?side2 A39.out).mono ?_); (case side1 => repeat (first | (with_reducible first | exact HI0.out | apply IsS67.alloc | apply IsS67.drewN | apply IsS67.drew | apply IsS67.set_0 | apply IsS67.set_1 | apply IsS67.set_2 | apply IsS67.set_4 | apply IsS67.set_5) | exact HI0.out)); (case side2 => repeat (first | (with_reducible first | exact HB.out | apply below_alloc | apply pw_below_drewN | apply below_drew1 | refine below_set ?_ (IsS67.ge HI0.out)) | exact HB.out)); rintro e w41 ⟨rfl, hi, hb, hk⟩; have n0_ := Aside0.mk (KeepBut.trans (by repeat (first | (with_reducible first | exact HK.out | apply KeepBut.set_ | apply keep_drewN | apply keep_drew | apply keep_alloc) | exact HK.out)) hk (.inl rfl)); have n1_ := Aside0.mk (hb); have n2_ := Aside0.mk (hi); clear HK; clear HB; clear HI0; have HK := n0_; have HB := n1_; have HI0 := n2_; clear n0_ n1_ n2_; (try clear hb); (try clear hb2); (try clear hk); (try clear hi)))
                repeat (go_quiet (first | (go_at_call 34; (with_reducible refine (dragomanref10_eval_fails.calls g s0_0 s0_1 s0_2 s0_3 s0_4 s0_5 9 t115 t116 t117 t118 t119 w0 _ ?side1 ?side2 A39.out).mono ?_); (case side1 => repeat (first | (with_reducible first | exact HI0.out | apply IsS67.alloc | apply IsS67.drewN | apply IsS67.drew | apply IsS67.set_0 | apply IsS67.set_1 | apply IsS67.set_2 | apply IsS67.set_4 | apply IsS67.set_5) | exact HI0.out)); (case side2 => repeat (first | (with_reducible first | exact HB.out | apply below_alloc | apply pw_below_drewN | apply below_drew1 | refine below_set ?_ (IsS67.ge HI0.out)) | exact HB.out)); rintro e w41 ⟨rfl, hi, hb, hk⟩; have n0_ := Aside0.mk (KeepBut.trans (by repeat (first | (with_reducible first | exact HK.out | apply KeepBut.set_ | apply keep_drewN | apply keep_drew | apply keep_alloc) | exact HK.out)) hk (.inl rfl)); have n1_ := Aside0.mk (hb); have n2_ := Aside0.mk (hi); clear HK; clear HB; clear HI0; have HK := n0_; have HB := n1_; have HI0 := n2_; clear n0_ n1_ n2_; (try clear hb); (try clear hb2); (try clear hk); (try clear hi))); try go_wp2_with (first | (go_at_call 34; (with_reducible refine (dragomanref10_eval_fails.calls g s0_0 s0_1 s0_2 s0_3 s0_4 s0_5 9 t115 t116 t117 t118 t119 w0 _ ?side1 ?side2 A39.out).mono ?_); (case side1 => repeat (first | (with_reducible first | exact HI0.out | apply IsS67.alloc | apply IsS67.drewN | apply IsS67.drew | apply IsS67.set_0 | apply IsS67.set_1 | apply IsS67.set_2 | apply IsS67.set_4 | apply IsS67.set_5) | exact HI0.out)); (case side2 => repeat (first | (with_reducible first | exact HB.out | apply below_alloc | apply pw_below_drewN | apply below_drew1 | refine below_set ?_ (IsS67.ge HI0.out)) | exact HB.out)); rintro e w41 ⟨rfl, hi, hb, hk⟩; have n0_ := Aside0.mk (KeepBut.trans (by repeat (first | (with_reducible first | exact HK.out | apply KeepBut.set_ | apply keep_drewN | apply keep_drew | apply keep_alloc) | exact HK.out)) hk (.inl rfl)); have n1_ := Aside0.mk (hb); have n2_ := Aside0.mk (hi); clear HK; clear HB; clear HI0; have HK := n0_; have HB := n1_; have HI0 := n2_; clear n0_ n1_ n2_; (try clear hb); (try clear hb2); (try clear hk); (try clear hi))))
                go_ret
                exact ⟨by first | rfl | (simp [errW_none, errW_some] <;> rfl) | (simp [*, errW_none, errW_some] <;> rfl), by repeat (first | (with_reducible first | exact HI0.out | apply IsS67.alloc | apply IsS67.drewN | apply IsS67.drew | apply IsS67.set_0 | apply IsS67.set_1 | apply IsS67.set_2 | apply IsS67.set_4 | apply IsS67.set_5) | exact HI0.out), by repeat (first | (with_reducible first | exact HB.out | apply below_alloc | apply pw_below_drewN | apply below_drew1 | refine below_set ?_ (IsS67.ge HI0.out)) | exact HB.out), by repeat (first | (with_reducible first | exact HK.out | apply KeepBut.set_ | apply keep_drewN | apply keep_drew | apply keep_alloc) | exact HK.out)⟩
              · rw [if_neg c38] at H
                have c38b0 : (x5_26 == s0_1) = false := beq_eq_false_iff_ne.mpr c38
                have c38b1 : (x5_26 != s0_1) = true := bne_iff_ne.mpr c38
                by_cases c42 : 0 ≤ s0_1
                · rw [if_pos c42] at H
                  have c42b0 := eq_true c42
                  have c42b1 : decide (0 ≤ s0_1) = true := decide_eq_true c42
                  clear c42
                  by_cases c43 : s0_1 ≤ x5_26
                  · rw [if_pos c43] at H
                    have c43b0 := eq_true c43
                    have c43b1 : decide (s0_1 ≤ x5_26) = true := decide_eq_true c43
                    clear c43
                    by_cases c44 : x5_26 ≤ (s0_0.size : Int)
                    · rw [if_pos c44] at H
                      have c44b0 := eq_true c44
                      have c44b1 : decide (x5_26 ≤ (s0_0.size : Int)) = true := decide_eq_true c44
                      clear c44
                      replace H := Option.bind_eq_some_iff.mp H
                      obtain ⟨⟨t120, t121⟩, A450, H⟩ := H
                      replace H : (if t120.toList = ([] : List UInt8) then (some (0, s0_0, x5_26, s0_2, s0_4, s0_5)) else ((dragomanref01_Whole.f kj26 t120).bind fun bt122 => (if bt122.2.2 = 0 then (if bt122.2.1 < (t120.size : Int) then ((dragomanref10_eval_comes.f s0_0 x5_26 s0_2 s0_3 s0_4 s0_5 2 a1).bind fun bt125 => (some (0, bt125.1, bt125.2.1, bt125.2.2.1, bt125.2.2.2.1, bt125.2.2.2.2))) else (some (bt122.1, s0_0, x5_26, s0_2, s0_4, s0_5))) else ((dragomanref10_eval_comes.f s0_0 x5_26 s0_2 s0_3 s0_4 s0_5 2 a1).bind fun bt130 => (some (0, bt130.1, bt130.2.1, bt130.2.2.1, bt130.2.2.2.1, bt130.2.2.2.2)))))) = some (r1, r2, r3, r4, r5, r6) := H
                      have A45 := Aside0.mk A450
                      clear A450
                      by_cases c46 : t120.toList = ([] : List UInt8)
                      · rw [if_pos c46] at H
                        have c46b0 : (t120.toList == ([] : List UInt8)) = true := beq_iff_eq.mpr c46
                        have c46b1 : (t120.toList != ([] : List UInt8)) = false := bne_eq_false_iff_eq.mpr c46
                        clear c46
                        simp only [Option.some.injEq, Prod.mk.injEq] at H
                        obtain ⟨rfl, rfl, rfl, rfl, rfl, rfl⟩ := H
                        obtain ⟨ASz47_3, cSz47_3, HGz47, hgz47, HSz47_3⟩ := HI0.out
                        have hcz47_0 := cellS67_0 HGz47
                        have hcz47_1 := cellS67_1 HGz47
                        have hcz47_2 := cellS67_2 HGz47
                        have hcz47_3 := cellS67_3 HGz47
                        have hcz47_4 := cellS67_4 HGz47
                        have hcz47_5 := cellS67_5 HGz47
                        have hfz47_0 := blk_frozen HGz47 0
                        have hfz47_1 := blk_frozen HGz47 1
                        have hfz47_2 := blk_frozen HGz47 2
                        have hfz47_4 := blk_frozen HGz47 4
                        have hfz47_5 := blk_frozen HGz47 5
                        clear HGz47 hgz47
                        go_wp2_with (first | (go_at_call 19; (with_reducible refine (dragomanref10_FindT.calls kj26 _ _ s0_3 (s0_0.extract (s0_1 : Int).toNat (x5_26 : Int).toNat) t120 t121 _ ?side1 ?side2 A45.out).mono ?_); (case side1 => exact Kd.C_below HSz47_3 (by repeat (first | (with_reducible first | exact HB.out | apply below_alloc | apply pw_below_drewN | apply below_drew1 | refine below_set ?_ (IsS67.ge HI0.out)) | exact HB.out))); (case side2 => exact trivial); rintro e w' ⟨rfl, ⟨nd, rfl⟩⟩; (try first | exact ⟨rfl, _, World.drewN_drewN _ _ _⟩ | exact ⟨rfl, _, Eq.trans (World.drewN_drewN _ _ _) (congrArg (World.drewN _) (Nat.add_assoc _ _ _))⟩)))
                        repeat (go_quiet (first | (go_at_call 19; (with_reducible refine (dragomanref10_FindT.calls kj26 _ _ s0_3 (s0_0.extract (s0_1 : Int).toNat (x5_26 : Int).toNat) t120 t121 _ ?side1 ?side2 A45.out).mono ?_); (case side1 => exact Kd.C_below HSz47_3 (by repeat (first | (with_reducible first | exact HB.out | apply below_alloc | apply pw_below_drewN | apply below_drew1 | refine below_set ?_ (IsS67.ge HI0.out)) | exact HB.out))); (case side2 => exact trivial); rintro e w' ⟨rfl, ⟨nd, rfl⟩⟩; (try first | exact ⟨rfl, _, World.drewN_drewN _ _ _⟩ | exact ⟨rfl, _, Eq.trans (World.drewN_drewN _ _ _) (congrArg (World.drewN _) (Nat.add_assoc _ _ _))⟩))); try go_wp2_with (first | (go_at_call 19; (with_reducible refine (dragomanref10_FindT.calls kj26 _ _ s0_3 (s0_0.extract (s0_1 : Int).toNat (x5_26 : Int).toNat) t120 t121 _ ?side1 ?side2 A45.out).mono ?_); (case side1 => exact Kd.C_below HSz47_3 (by repeat (first | (with_reducible first | exact HB.out | apply below_alloc | apply pw_below_drewN | apply below_drew1 | refine below_set ?_ (IsS67.ge HI0.out)) | exact HB.out))); (case side2 => exact trivial); rintro e w' ⟨rfl, ⟨nd, rfl⟩⟩; (try first | exact ⟨rfl, _, World.drewN_drewN _ _ _⟩ | exact ⟨rfl, _, Eq.trans (World.drewN_drewN _ _ _) (congrArg (World.drewN _) (Nat.add_assoc _ _ _))⟩))))
                        go_ret
                        exact ⟨by first | rfl | (simp [errW_none, errW_some] <;> rfl) | (simp [*, errW_none, errW_some] <;> rfl), by repeat (first | (with_reducible first | exact HI0.out | apply IsS67.alloc | apply IsS67.drewN | apply IsS67.drew | apply IsS67.set_0 | apply IsS67.set_1 | apply IsS67.set_2 | apply IsS67.set_4 | apply IsS67.set_5) | exact HI0.out), by repeat (first | (with_reducible first | exact HB.out | apply below_alloc | apply pw_below_drewN | apply below_drew1 | refine below_set ?_ (IsS67.ge HI0.out)) | exact HB.out), by repeat (first | (with_reducible first | exact HK.out | apply KeepBut.set_ | apply keep_drewN | apply keep_drew | apply keep_alloc) | exact HK.out)⟩
                      · rw [if_neg c46] at H
                        have c46b0 : (t120.toList == ([] : List UInt8)) = false := beq_eq_false_iff_ne.mpr c46
                        have c46b1 : (t120.toList != ([] : List UInt8)) = true := bne_iff_ne.mpr c46
                        replace H := Option.bind_eq_some_iff.mp H
                        obtain ⟨⟨t122, t123, t124⟩, A480, H⟩ := H
                        replace H : (if t124 = 0 then (if t123 < (t120.size : Int) then ((dragomanref10_eval_comes.f s0_0 x5_26 s0_2 s0_3 s0_4 s0_5 2 a1).bind fun bt125 => (some (0, bt125.1, bt125.2.1, bt125.2.2.1, bt125.2.2.2.1, bt125.2.2.2.2))) else (some (t122, s0_0, x5_26, s0_2, s0_4, s0_5))) else ((dragomanref10_eval_comes.f s0_0 x5_26 s0_2 s0_3 s0_4 s0_5 2 a1).bind fun bt130 => (some (0, bt130.1, bt130.2.1, bt130.2.2.1, bt130.2.2.2.1, bt130.2.2.2.2)))) = some (r1, r2, r3, r4, r5, r6) := H
                        have A48 := Aside0.mk A480
                        clear A480
                        by_cases c49 : t124 = 0
                        · rw [if_pos c49] at H
                          have c49b0 : (t124 == 0) = true := beq_iff_eq.mpr c49
                          have c49b1 : (t124 != 0) = false := bne_eq_false_iff_eq.mpr c49
                          clear c49
                          by_cases c50 : t123 < (t120.size : Int)
                          · rw [if_pos c50] at H
                            have c50b0 : decide (t123 < (t120.size : Int)) = true := decide_eq_true c50
                            clear c50
                            replace H := Option.bind_eq_some_iff.mp H
                            obtain ⟨⟨t125, t126, t127, t128, t129⟩, A510, H⟩ := H
                            replace H : (some (0, t125, t126, t127, t128, t129)) = some (r1, r2, r3, r4, r5, r6) := H
                            have A51 := Aside0.mk A510
                            clear A510
                            simp only [Option.some.injEq, Prod.mk.injEq] at H
                            obtain ⟨rfl, rfl, rfl, rfl, rfl, rfl⟩ := H
                            obtain ⟨ASz52_3, cSz52_3, HGz52, hgz52, HSz52_3⟩ := HI0.out
                            have hcz52_0 := cellS67_0 HGz52
                            have hcz52_1 := cellS67_1 HGz52
                            have hcz52_2 := cellS67_2 HGz52
                            have hcz52_3 := cellS67_3 HGz52
                            have hcz52_4 := cellS67_4 HGz52
                            have hcz52_5 := cellS67_5 HGz52
                            have hfz52_0 := blk_frozen HGz52 0
                            have hfz52_1 := blk_frozen HGz52 1
                            have hfz52_2 := blk_frozen HGz52 2
                            have hfz52_4 := blk_frozen HGz52 4
                            have hfz52_5 := blk_frozen HGz52 5
                            clear HGz52 hgz52
                            go_wp2_with (first | (go_at_call 19; (with_reducible refine (dragomanref10_FindT.calls kj26 _ _ s0_3 (s0_0.extract (s0_1 : Int).toNat (x5_26 : Int).toNat) t120 t121 _ ?side1 ?side2 A45.out).mono ?_); (case side1 => exact Kd.C_below HSz52_3 (by repeat (first | (with_reducible first | exact HB.out | apply below_alloc | apply pw_below_drewN | apply below_drew1 | refine below_set ?_ (IsS67.ge HI0.out)) | exact HB.out))); (case side2 => exact trivial); rintro e w' ⟨rfl, ⟨nd, rfl⟩⟩; (try first | exact ⟨rfl, _, World.drewN_drewN _ _ _⟩ | exact ⟨rfl, _, Eq.trans (World.drewN_drewN _ _ _) (congrArg (World.drewN _) (Nat.add_assoc _ _ _))⟩)) | (go_at_call 104; (with_reducible refine (dragomanref01_Whole.calls kj26 t120 t122 t123 t124 _ A48.out).mono ?_); rintro e w' ⟨rfl, ⟨nd, rfl⟩⟩; (try first | exact ⟨rfl, _, World.drewN_drewN _ _ _⟩ | exact ⟨rfl, _, Eq.trans (World.drewN_drewN _ _ _) (congrArg (World.drewN _) (Nat.add_assoc _ _ _))⟩)) | (go_at_call 99; (with_reducible refine (dragomanref10_eval_comes.calls g s0_0 x5_26 s0_2 s0_3 s0_4 s0_5 2 a1 t125 t126 t127 t128 t129 w0 _ ?side1 ?side2 A51.out).mono ?_); (case side1 => repeat (first | (with_reducible first | exact HI0.out | apply IsS67.alloc | apply IsS67.drewN | apply IsS67.drew | apply IsS67.set_0 | apply IsS67.set_1 | apply IsS67.set_2 | apply IsS67.set_4 | apply IsS67.set_5) | exact HI0.out)); (case side2 => repeat (first | (with_reducible first | exact HB.out | apply below_alloc | apply pw_below_drewN | apply below_drew1 | refine below_set ?_ (IsS67.ge HI0.out)) | exact HB.out)); rintro e w53 ⟨rfl, hi, hb, hk⟩; have n0_ := Aside0.mk (KeepBut.trans (by repeat (first | (with_reducible first | exact HK.out | apply KeepBut.set_ | apply keep_drewN | apply keep_drew | apply keep_alloc) | exact HK.out)) hk (.inl rfl)); have n1_ := Aside0.mk (hb); have n2_ := Aside0.mk (hi); clear HK; clear HB; clear HI0; have HK := n0_; have HB := n1_; have HI0 := n2_; clear n0_ n1_ n2_; (try clear hb); (try clear hb2); (try clear hk); (try clear hi)))
                            repeat (go_quiet (first | (go_at_call 19; (with_reducible refine (dragomanref10_FindT.calls kj26 _ _ s0_3 (s0_0.extract (s0_1 : Int).toNat (x5_26 : Int).toNat) t120 t121 _ ?side1 ?side2 A45.out).mono ?_); (case side1 => exact Kd.C_below HSz52_3 (by repeat (first | (with_reducible first | exact HB.out | apply below_alloc | apply pw_below_drewN | apply below_drew1 | refine below_set ?_ (IsS67.ge HI0.out)) | exact HB.out))); (case side2 => exact trivial); rintro e w' ⟨rfl, ⟨nd, rfl⟩⟩; (try first | exact ⟨rfl, _, World.drewN_drewN _ _ _⟩ | exact ⟨rfl, _, Eq.trans (World.drewN_drewN _ _ _) (congrArg (World.drewN _) (Nat.add_assoc _ _ _))⟩)) | (go_at_call 104; (with_reducible refine (dragomanref01_Whole.calls kj26 t120 t122 t123 t124 _ A48.out).mono ?_); rintro e w' ⟨rfl, ⟨nd, rfl⟩⟩; (try first | exact ⟨rfl, _, World.drewN_drewN _ _ _⟩ | exact ⟨rfl, _, Eq.trans (World.drewN_drewN _ _ _) (congrArg (World.drewN _) (Nat.add_assoc _ _ _))⟩)) | (go_at_call 99; (with_reducible refine (dragomanref10_eval_comes.calls g s0_0 x5_26 s0_2 s0_3 s0_4 s0_5 2 a1 t125 t126 t127 t128 t129 w0 _ ?side1 ?side2 A51.out).mono ?_); (case side1 => repeat (first | (with_reducible first | exact HI0.out | apply IsS67.alloc | apply IsS67.drewN | apply IsS67.drew | apply IsS67.set_0 | apply IsS67.set_1 | apply IsS67.set_2 | apply IsS67.set_4 | apply IsS67.set_5) | exact HI0.out)); (case side2 => repeat (first | (with_reducible first | exact HB.out | apply below_alloc | apply pw_below_drewN | apply below_drew1 | refine below_set ?_ (IsS67.ge HI0.out)) | exact HB.out)); rintro e w53 ⟨rfl, hi, hb, hk⟩; have n0_ := Aside0.mk (KeepBut.trans (by repeat (first | (with_reducible first | exact HK.out | apply KeepBut.set_ | apply keep_drewN | apply keep_drew | apply keep_alloc) | exact HK.out)) hk (.inl rfl)); have n1_ := Aside0.mk (hb); have n2_ := Aside0.mk (hi); clear HK; clear HB; clear HI0; have HK := n0_; have HB := n1_; have HI0 := n2_; clear n0_ n1_ n2_; (try clear hb); (try clear hb2); (try clear hk); (try clear hi))); try go_wp2_with (first | (go_at_call 19; (with_reducible refine (dragomanref10_FindT.calls kj26 _ _ s0_3 (s0_0.extract (s0_1 : Int).toNat (x5_26 : Int).toNat) t120 t121 _ ?side1 ?side2 A45.out).mono ?_); (case side1 => exact Kd.C_below HSz52_3 (by repeat (first | (with_reducible first | exact HB.out | apply below_alloc | apply pw_below_drewN | apply below_drew1 | refine below_set ?_ (IsS67.ge HI0.out)) | exact HB.out))); (case side2 => exact trivial); rintro e w' ⟨rfl, ⟨nd, rfl⟩⟩; (try first | exact ⟨rfl, _, World.drewN_drewN _ _ _⟩ | exact ⟨rfl, _, Eq.trans (World.drewN_drewN _ _ _) (congrArg (World.drewN _) (Nat.add_assoc _ _ _))⟩)) | (go_at_call 104; (with_reducible refine (dragomanref01_Whole.calls kj26 t120 t122 t123 t124 _ A48.out).mono ?_); rintro e w' ⟨rfl, ⟨nd, rfl⟩⟩; (try first | exact ⟨rfl, _, World.drewN_drewN _ _ _⟩ | exact ⟨rfl, _, Eq.trans (World.drewN_drewN _ _ _) (congrArg (World.drewN _) (Nat.add_assoc _ _ _))⟩)) | (go_at_call 99; (with_reducible refine (dragomanref10_eval_comes.calls g s0_0 x5_26 s0_2 s0_3 s0_4 s0_5 2 a1 t125 t126 t127 t128 t129 w0 _ ?side1 ?side2 A51.out).mono ?_); (case side1 => repeat (first | (with_reducible first | exact HI0.out | apply IsS67.alloc | apply IsS67.drewN | apply IsS67.drew | apply IsS67.set_0 | apply IsS67.set_1 | apply IsS67.set_2 | apply IsS67.set_4 | apply IsS67.set_5) | exact HI0.out)); (case side2 => repeat (first | (with_reducible first | exact HB.out | apply below_alloc | apply pw_below_drewN | apply below_drew1 | refine below_set ?_ (IsS67.ge HI0.out)) | exact HB.out)); rintro e w53 ⟨rfl, hi, hb, hk⟩; have n0_ := Aside0.mk (KeepBut.trans (by repeat (first | (with_reducible first | exact HK.out | apply KeepBut.set_ | apply keep_drewN | apply keep_drew | apply keep_alloc) | exact HK.out)) hk (.inl rfl)); have n1_ := Aside0.mk (hb); have n2_ := Aside0.mk (hi); clear HK; clear HB; clear HI0; have HK := n0_; have HB := n1_; have HI0 := n2_; clear n0_ n1_ n2_; (try clear hb); (try clear hb2); (try clear hk); (try clear hi))))
                            go_ret
                            exact ⟨by first | rfl | (simp [errW_none, errW_some] <;> rfl) | (simp [*, errW_none, errW_some] <;> rfl), by repeat (first | (with_reducible first | exact HI0.out | apply IsS67.alloc | apply IsS67.drewN | apply IsS67.drew | apply IsS67.set_0 | apply IsS67.set_1 | apply IsS67.set_2 | apply IsS67.set_4 | apply IsS67.set_5) | exact HI0.out), by repeat (first | (with_reducible first | exact HB.out | apply below_alloc | apply pw_below_drewN | apply below_drew1 | refine below_set ?_ (IsS67.ge HI0.out)) | exact HB.out), by repeat (first | (with_reducible first | exact HK.out | apply KeepBut.set_ | apply keep_drewN | apply keep_drew | apply keep_alloc) | exact HK.out)⟩
                          · rw [if_neg c50] at H
                            have c50b0 : decide (t123 < (t120.size : Int)) = false := decide_eq_false c50
                            clear c50
                            simp only [Option.some.injEq, Prod.mk.injEq] at H
                            obtain ⟨rfl, rfl, rfl, rfl, rfl, rfl⟩ := H
                            obtain ⟨ASz54_3, cSz54_3, HGz54, hgz54, HSz54_3⟩ := HI0.out
                            have hcz54_0 := cellS67_0 HGz54
                            have hcz54_1 := cellS67_1 HGz54
                            have hcz54_2 := cellS67_2 HGz54
                            have hcz54_3 := cellS67_3 HGz54
                            have hcz54_4 := cellS67_4 HGz54
                            have hcz54_5 := cellS67_5 HGz54
                            have hfz54_0 := blk_frozen HGz54 0
                            have hfz54_1 := blk_frozen HGz54 1
                            have hfz54_2 := blk_frozen HGz54 2
                            have hfz54_4 := blk_frozen HGz54 4
                            have hfz54_5 := blk_frozen HGz54 5
                            clear HGz54 hgz54
                            go_wp2_with (first | (go_at_call 19; (with_reducible refine (dragomanref10_FindT.calls kj26 _ _ s0_3 (s0_0.extract (s0_1 : Int).toNat (x5_26 : Int).toNat) t120 t121 _ ?side1 ?side2 A45.out).mono ?_); (case side1 => exact Kd.C_below HSz54_3 (by repeat (first | (with_reducible first | exact HB.out | apply below_alloc | apply pw_below_drewN | apply below_drew1 | refine below_set ?_ (IsS67.ge HI0.out)) | exact HB.out))); (case side2 => exact trivial); rintro e w' ⟨rfl, ⟨nd, rfl⟩⟩; (try first | exact ⟨rfl, _, World.drewN_drewN _ _ _⟩ | exact ⟨rfl, _, Eq.trans (World.drewN_drewN _ _ _) (congrArg (World.drewN _) (Nat.add_assoc _ _ _))⟩)) | (go_at_call 104; (with_reducible refine (dragomanref01_Whole.calls kj26 t120 t122 t123 t124 _ A48.out).mono ?_); rintro e w' ⟨rfl, ⟨nd, rfl⟩⟩; (try first | exact ⟨rfl, _, World.drewN_drewN _ _ _⟩ | exact ⟨rfl, _, Eq.trans (World.drewN_drewN _ _ _) (congrArg (World.drewN _) (Nat.add_assoc _ _ _))⟩)))
                            repeat (go_quiet (first | (go_at_call 19; (with_reducible refine (dragomanref10_FindT.calls kj26 _ _ s0_3 (s0_0.extract (s0_1 : Int).toNat (x5_26 : Int).toNat) t120 t121 _ ?side1 ?side2 A45.out).mono ?_); (case side1 => exact Kd.C_below HSz54_3 (by repeat (first | (with_reducible first | exact HB.out | apply below_alloc | apply pw_below_drewN | apply below_drew1 | refine below_set ?_ (IsS67.ge HI0.out)) | exact HB.out))); (case side2 => exact trivial); rintro e w' ⟨rfl, ⟨nd, rfl⟩⟩; (try first | exact ⟨rfl, _, World.drewN_drewN _ _ _⟩ | exact ⟨rfl, _, Eq.trans (World.drewN_drewN _ _ _) (congrArg (World.drewN _) (Nat.add_assoc _ _ _))⟩)) | (go_at_call 104; (with_reducible refine (dragomanref01_Whole.calls kj26 t120 t122 t123 t124 _ A48.out).mono ?_); rintro e w' ⟨rfl, ⟨nd, rfl⟩⟩; (try first | exact ⟨rfl, _, World.drewN_drewN _ _ _⟩ | exact ⟨rfl, _, Eq.trans (World.drewN_drewN _ _ _) (congrArg (World.drewN _) (Nat.add_assoc _ _ _))⟩))); try go_wp2_with (first | (go_at_call 19; (with_reducible refine (dragomanref10_FindT.calls kj26 _ _ s0_3 (s0_0.extract (s0_1 : Int).toNat (x5_26 : Int).toNat) t120 t121 _ ?side1 ?side2 A45.out).mono ?_); (case side1 => exact Kd.C_below HSz54_3 (by repeat (first | (with_reducible first | exact HB.out | apply below_alloc | apply pw_below_drewN | apply below_drew1 | refine below_set ?_ (IsS67.ge HI0.out)) | exact HB.out))); (case side2 => exact trivial); rintro e w' ⟨rfl, ⟨nd, rfl⟩⟩; (try first | exact ⟨rfl, _, World.drewN_drewN _ _ _⟩ | exact ⟨rfl, _, Eq.trans (World.drewN_drewN _ _ _) (congrArg (World.drewN _) (Nat.add_assoc _ _ _))⟩)) | (go_at_call 104; (with_reducible refine (dragomanref01_Whole.calls kj26 t120 t122 t123 t124 _ A48.out).mono ?_); rintro e w' ⟨rfl, ⟨nd, rfl⟩⟩; (try first | exact ⟨rfl, _, World.drewN_drewN _ _ _⟩ | exact ⟨rfl, _, Eq.trans (World.drewN_drewN _ _ _) (congrArg (World.drewN _) (Nat.add_assoc _ _ _))⟩))))
                            go_ret
                            exact ⟨by first | rfl | (simp [errW_none, errW_some] <;> rfl) | (simp [*, errW_none, errW_some] <;> rfl), by repeat (first | (with_reducible first | exact HI0.out | apply IsS67.alloc | apply IsS67.drewN | apply IsS67.drew | apply IsS67.set_0 | apply IsS67.set_1 | apply IsS67.set_2 | apply IsS67.set_4 | apply IsS67.set_5) | exact HI0.out), by repeat (first | (with_reducible first | exact HB.out | apply below_alloc | apply pw_below_drewN | apply below_drew1 | refine below_set ?_ (IsS67.ge HI0.out)) | exact HB.out), by repeat (first | (with_reducible first | exact HK.out | apply KeepBut.set_ | apply keep_drewN | apply keep_drew | apply keep_alloc) | exact HK.out)⟩
                        · rw [if_neg c49] at H
                          have c49b0 : (t124 == 0) = false := beq_eq_false_iff_ne.mpr c49
                          have c49b1 : (t124 != 0) = true := bne_iff_ne.mpr c49
                          replace H := Option.bind_eq_some_iff.mp H
                          obtain ⟨⟨t130, t131, t132, t133, t134⟩, A550, H⟩ := H
                          replace H : (some (0, t130, t131, t132, t133, t134)) = some (r1, r2, r3, r4, r5, r6) := H
                          have A55 := Aside0.mk A550
                          clear A550
                          simp only [Option.some.injEq, Prod.mk.injEq] at H
                          obtain ⟨rfl, rfl, rfl, rfl, rfl, rfl⟩ := H
                          obtain ⟨ASz56_3, cSz56_3, HGz56, hgz56, HSz56_3⟩ := HI0.out
                          have hcz56_0 := cellS67_0 HGz56
                          have hcz56_1 := cellS67_1 HGz56
                          have hcz56_2 := cellS67_2 HGz56
                          have hcz56_3 := cellS67_3 HGz56
                          have hcz56_4 := cellS67_4 HGz56
                          have hcz56_5 := cellS67_5 HGz56
                          have hfz56_0 := blk_frozen HGz56 0
                          have hfz56_1 := blk_frozen HGz56 1
                          have hfz56_2 := blk_frozen HGz56 2
                          have hfz56_4 := blk_frozen HGz56 4
                          have hfz56_5 := blk_frozen HGz56 5
                          clear HGz56 hgz56
                          go_wp2_with (first | (go_at_call 19; (with_reducible refine (dragomanref10_FindT.calls kj26 _ _ s0_3 (s0_0.extract (s0_1 : Int).toNat (x5_26 : Int).toNat) t120 t121 _ ?side1 ?side2 A45.out).mono ?_); (case side1 => exact Kd.C_below HSz56_3 (by repeat (first | (with_reducible first | exact HB.out | apply below_alloc | apply pw_below_drewN | apply below_drew1 | refine below_set ?_ (IsS67.ge HI0.out)) | exact HB.out))); (case side2 => exact trivial); rintro e w' ⟨rfl, ⟨nd, rfl⟩⟩; (try first | exact ⟨rfl, _, World.drewN_drewN _ _ _⟩ | exact ⟨rfl, _, Eq.trans (World.drewN_drewN _ _ _) (congrArg (World.drewN _) (Nat.add_assoc _ _ _))⟩)) | (go_at_call 104; (with_reducible refine (dragomanref01_Whole.calls kj26 t120 t122 t123 t124 _ A48.out).mono ?_); rintro e w' ⟨rfl, ⟨nd, rfl⟩⟩; (try first | exact ⟨rfl, _, World.drewN_drewN _ _ _⟩ | exact ⟨rfl, _, Eq.trans (World.drewN_drewN _ _ _) (congrArg (World.drewN _) (Nat.add_assoc _ _ _))⟩)) | (go_at_call 99; (with_reducible refine (dragomanref10_eval_comes.calls g s0_0 x5_26 s0_2 s0_3 s0_4 s0_5 2 a1 t130 t131 t132 t133 t134 w0 _ ?side1 ?side2 A55.out).mono ?_); (case side1 => repeat (first | (with_reducible first | exact HI0.out | apply IsS67.alloc | apply IsS67.drewN | apply IsS67.drew | apply IsS67.set_0 | apply IsS67.set_1 | apply IsS67.set_2 | apply IsS67.set_4 | apply IsS67.set_5) | exact HI0.out)); (case side2 => repeat (first | (with_reducible first | exact HB.out | apply below_alloc | apply pw_below_drewN | apply below_drew1 | refine below_set ?_ (IsS67.ge HI0.out)) | exact HB.out)); rintro e w57 ⟨rfl, hi, hb, hk⟩; have n0_ := Aside0.mk (KeepBut.trans (by repeat (first | (with_reducible first | exact HK.out | apply KeepBut.set_ | apply keep_drewN | apply keep_drew | apply keep_alloc) | exact HK.out)) hk (.inl rfl)); have n1_ := Aside0.mk (hb); have n2_ := Aside0.mk (hi); clear HK; clear HB; clear HI0; have HK := n0_; have HB := n1_; have HI0 := n2_; clear n0_ n1_ n2_; (try clear hb); (try clear hb2); (try clear hk); (try clear hi)))
                          repeat (go_quiet (first | (go_at_call 19; (with_reducible refine (dragomanref10_FindT.calls kj26 _ _ s0_3 (s0_0.extract (s0_1 : Int).toNat (x5_26 : Int).toNat) t120 t121 _ ?side1 ?side2 A45.out).mono ?_); (case side1 => exact Kd.C_below HSz56_3 (by repeat (first | (with_reducible first | exact HB.out | apply below_alloc | apply pw_below_drewN | apply below_drew1 | refine below_set ?_ (IsS67.ge HI0.out)) | exact HB.out))); (case side2 => exact trivial); rintro e w' ⟨rfl, ⟨nd, rfl⟩⟩; (try first | exact ⟨rfl, _, World.drewN_drewN _ _ _⟩ | exact ⟨rfl, _, Eq.trans (World.drewN_drewN _ _ _) (congrArg (World.drewN _) (Nat.add_assoc _ _ _))⟩)) | (go_at_call 104; (with_reducible refine (dragomanref01_Whole.calls kj26 t120 t122 t123 t124 _ A48.out).mono ?_); rintro e w' ⟨rfl, ⟨nd, rfl⟩⟩; (try first | exact ⟨rfl, _, World.drewN_drewN _ _ _⟩ | exact ⟨rfl, _, Eq.trans (World.drewN_drewN _ _ _) (congrArg (World.drewN _) (Nat.add_assoc _ _ _))⟩)) | (go_at_call 99; (with_reducible refine (dragomanref10_eval_comes.calls g s0_0 x5_26 s0_2 s0_3 s0_4 s0_5 2 a1 t130 t131 t132 t133 t134 w0 _ ?side1 ?side2 A55.out).mono ?_); (case side1 => repeat (first | (with_reducible first | exact HI0.out | apply IsS67.alloc | apply IsS67.drewN | apply IsS67.drew | apply IsS67.set_0 | apply IsS67.set_1 | apply IsS67.set_2 | apply IsS67.set_4 | apply IsS67.set_5) | exact HI0.out)); (case side2 => repeat (first | (with_reducible first | exact HB.out | apply below_alloc | apply pw_below_drewN | apply below_drew1 | refine below_set ?_ (IsS67.ge HI0.out)) | exact HB.out)); rintro e w57 ⟨rfl, hi, hb, hk⟩; have n0_ := Aside0.mk (KeepBut.trans (by repeat (first | (with_reducible first | exact HK.out | apply KeepBut.set_ | apply keep_drewN | apply keep_drew | apply keep_alloc) | exact HK.out)) hk (.inl rfl)); have n1_ := Aside0.mk (hb); have n2_ := Aside0.mk (hi); clear HK; clear HB; clear HI0; have HK := n0_; have HB := n1_; have HI0 := n2_; clear n0_ n1_ n2_; (try clear hb); (try clear hb2); (try clear hk); (try clear hi))); try go_wp2_with (first | (go_at_call 19; (with_reducible refine (dragomanref10_FindT.calls kj26 _ _ s0_3 (s0_0.extract (s0_1 : Int).toNat (x5_26 : Int).toNat) t120 t121 _ ?side1 ?side2 A45.out).mono ?_); (case side1 => exact Kd.C_below HSz56_3 (by repeat (first | (with_reducible first | exact HB.out | apply below_alloc | apply pw_below_drewN | apply below_drew1 | refine below_set ?_ (IsS67.ge HI0.out)) | exact HB.out))); (case side2 => exact trivial); rintro e w' ⟨rfl, ⟨nd, rfl⟩⟩; (try first | exact ⟨rfl, _, World.drewN_drewN _ _ _⟩ | exact ⟨rfl, _, Eq.trans (World.drewN_drewN _ _ _) (congrArg (World.drewN _) (Nat.add_assoc _ _ _))⟩)) | (go_at_call 104; (with_reducible refine (dragomanref01_Whole.calls kj26 t120 t122 t123 t124 _ A48.out).mono ?_); rintro e w' ⟨rfl, ⟨nd, rfl⟩⟩; (try first | exact ⟨rfl, _, World.drewN_drewN _ _ _⟩ | exact ⟨rfl, _, Eq.trans (World.drewN_drewN _ _ _) (congrArg (World.drewN _) (Nat.add_assoc _ _ _))⟩)) | (go_at_call 99; (with_reducible refine (dragomanref10_eval_comes.calls g s0_0 x5_26 s0_2 s0_3 s0_4 s0_5 2 a1 t130 t131 t132 t133 t134 w0 _ ?side1 ?side2 A55.out).mono ?_); (case side1 => repeat (first | (with_reducible first | exact HI0.out | apply IsS67.alloc | apply IsS67.drewN | apply IsS67.drew | apply IsS67.set_0 | apply IsS67.set_1 | apply IsS67.set_2 | apply IsS67.set_4 | apply IsS67.set_5) | exact HI0.out)); (case side2 => repeat (first | (with_reducible first | exact HB.out | apply below_alloc | apply pw_below_drewN | apply below_drew1 | refine below_set ?_ (IsS67.ge HI0.out)) | exact HB.out)); rintro e w57 ⟨rfl, hi, hb, hk⟩; have n0_ := Aside0.mk (KeepBut.trans (by repeat (first | (with_reducible first | exact HK.out | apply KeepBut.set_ | apply keep_drewN | apply keep_drew | apply keep_alloc) | exact HK.out)) hk (.inl rfl)); have n1_ := Aside0.mk (hb); have n2_ := Aside0.mk (hi); clear HK; clear HB; clear HI0; have HK := n0_; have HB := n1_; have HI0 := n2_; clear n0_ n1_ n2_; (try clear hb); (try clear hb2); (try clear hk); (try clear hi))))
                          go_ret
                          exact ⟨by first | rfl | (simp [errW_none, errW_some] <;> rfl) | (simp [*, errW_none, errW_some] <;> rfl), by repeat (first | (with_reducible first | exact HI0.out | apply IsS67.alloc | apply IsS67.drewN | apply IsS67.drew | apply IsS67.set_0 | apply IsS67.set_1 | apply IsS67.set_2 | apply IsS67.set_4 | apply IsS67.set_5) | exact HI0.out), by repeat (first | (with_reducible first | exact HB.out | apply below_alloc | apply pw_below_drewN | apply below_drew1 | refine below_set ?_ (IsS67.ge HI0.out)) | exact HB.out), by repeat (first | (with_reducible first | exact HK.out | apply KeepBut.set_ | apply keep_drewN | apply keep_drew | apply keep_alloc) | exact HK.out)⟩
                    · rw [if_neg c44] at H
                      exact absurd H (by simp)
                  · rw [if_neg c43] at H
                    exact absurd H (by simp)
                · rw [if_neg c42] at H
                  exact absurd H (by simp)
  · rw [if_neg c3] at H
    have c3b0 : (s0_4 == 0) = false := beq_eq_false_iff_ne.mpr c3
    have c3b1 : (s0_4 != 0) = true := bne_iff_ne.mpr c3
    simp only [Option.some.injEq, Prod.mk.injEq] at H
    obtain ⟨rfl, rfl, rfl, rfl, rfl, rfl⟩ := H
    obtain ⟨ASz58_3, cSz58_3, HGz58, hgz58, HSz58_3⟩ := HI0.out
    have hcz58_0 := cellS67_0 HGz58
    have hcz58_1 := cellS67_1 HGz58
    have hcz58_2 := cellS67_2 HGz58
    have hcz58_3 := cellS67_3 HGz58
    have hcz58_4 := cellS67_4 HGz58
    have hcz58_5 := cellS67_5 HGz58
    have hfz58_0 := blk_frozen HGz58 0
    have hfz58_1 := blk_frozen HGz58 1
    have hfz58_2 := blk_frozen HGz58 2
    have hfz58_4 := blk_frozen HGz58 4
    have hfz58_5 := blk_frozen HGz58 5
    clear HGz58 hgz58
    go_enter Tryd.func102, Tryd.ntmps102
    go_wp2
    repeat (go_quiet (fail); try go_wp2)
    go_ret
    exact ⟨by first | rfl | (simp [errW_none, errW_some] <;> rfl) | (simp [*, errW_none, errW_some] <;> rfl), by repeat (first | (with_reducible first | exact HI0.out | apply IsS67.alloc | apply IsS67.drewN | apply IsS67.drew | apply IsS67.set_0 | apply IsS67.set_1 | apply IsS67.set_2 | apply IsS67.set_4 | apply IsS67.set_5) | exact HI0.out), by repeat (first | (with_reducible first | exact HB.out | apply below_alloc | apply pw_below_drewN | apply below_drew1 | refine below_set ?_ (IsS67.ge HI0.out)) | exact HB.out), by repeat (first | (with_reducible first | exact HK.out | apply KeepBut.set_ | apply keep_drewN | apply keep_drew | apply keep_alloc) | exact HK.out)⟩

end Go.Proofs.YtambnodgfhlpfaaDoor.QG
