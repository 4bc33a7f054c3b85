/- The Go functions of this part as Lean functions, each with a proof that a call of it comes to just what the Lean function does. Written by a program of the session's. Conditions: none but those in each theorem. -/
import Derived.Test.YtmhkofgappbpjaaZQBx0
namespace Go.Proofs.Ytmhkofgappbpjaa.QB
open Go.Proofs.Ytmhkofgappbpjaa.G Go.Proofs.Ytmhkofgappbpjaa.QA
open Go.RowKit Go.Proofs.YtmhkofgappbpjaaW.PrintWords Go.Proofs.YtmhkofgappbpjaaW.PrintLast Go.Proofs.YtmhkofgappbpjaaW.PrintMore
attribute [local go_sem] max2_int min2_int max_two min_two max_three min_three max_four min_four   -- for this text's walks alone
attribute [local go_sem ↓] ix40_0 ix40_1 ia40_0 ia40_1
set_option linter.unusedVariables false
set_option linter.unusedSimpArgs false

/-! ### dragomanref06_within: function 43 -/
mutual
def dragomanref06_within.j0 : Nat → Bool → Int → Bool → Int → Option ((List (S78)))
  | 0, _, _, _, _ => none
  | k + 1, x47, x120000, x120001, x120002 => if x47 = true then (some (([(⟨x120000, true, wrap64 (x120002 + 1)⟩ : S78)] : List (S78)))) else (some ([] : List (S78)))
def dragomanref06_within.j1 : Nat → ByteArray → Int → Bool → Int → Bool → Int → Int → Int → Int → Int → Int → Int → Int → Int → Bool → Int → Int → Bool → Int → Option ((List (S78)))
  | 0, _, _, _, _, _, _, _, _, _, _, _, _, _, _, _, _, _, _, _ => none
  | k + 1, x1, x27, x55, x120000, x120001, x120002, x122000, x122001, x122002, x122003, x122004, x122005, x122006, x123000, x123001, x123002, x124000, x124001, x124002 => if x55 = true then (some (([(⟨x124000, x124001, x124002⟩ : S78)] : List (S78)))) else (if x27 = 3 then (some (([(⟨x124000, x124001, x124002⟩ : S78), (⟨x122006, false, x120002⟩ : S78)] : List (S78)))) else (if x27 = 4 then (dragomanref06_within.j2 k x1 x27 (x27 == 4) x120000 x120001 x120002 x123000 x123001 x123002 x124000 x124001 x124002) else (dragomanref06_within.j2 k x1 x27 (x27 == 6) x120000 x120001 x120002 x123000 x123001 x123002 x124000 x124001 x124002)))
def dragomanref06_within.j2 : Nat → ByteArray → Int → Bool → Int → Bool → Int → Int → Bool → Int → Int → Bool → Int → Option ((List (S78)))
  | 0, _, _, _, _, _, _, _, _, _, _, _, _ => none
  | k + 1, x1, x27, x70, x120000, x120001, x120002, x123000, x123001, x123002, x124000, x124001, x124002 => if x70 = true then (some (([(⟨x123000, x123001, x123002⟩ : S78), (⟨x124000, x124001, x124002⟩ : S78)] : List (S78)))) else (if x27 = 7 then (if x120002 = 0 then (some (([(⟨x123000, x123001, x123002⟩ : S78)] : List (S78)))) else (some ([] : List (S78)))) else (if x120002 = (x1.size : Int) then (some (([(⟨x123000, x123001, x123002⟩ : S78)] : List (S78)))) else (some ([] : List (S78)))))
end
def dragomanref06_within.f (k : Nat) (l0 : List (S42)) (a1 : ByteArray) (a2_0 : Int) (a2_1 : Bool) (a2_2 : Int) : Option ((List (S78))) := if 0 ≤ a2_0 then (if a2_0 < (l0.length : Int) then (if ((rd_T42 l0 a2_0).f0) = 0 then (some (([(⟨a2_0, true, a2_2⟩ : S78)] : List (S78)))) else (if ((rd_T42 l0 a2_0).f0) = 1 then (if a2_2 < (a1.size : Int) then (if 0 ≤ a2_2 then ((ref04_Has.f ((rd_T42 l0 a2_0).f1.f0) ((rd_T42 l0 a2_0).f1.f1) ((rd_T42 l0 a2_0).f1.f2) ((rd_T42 l0 a2_0).f1.f3) (bt a1 a2_2)).bind fun t127 => (dragomanref06_within.j0 k t127 a2_0 a2_1 a2_2)) else (none)) else (dragomanref06_within.j0 k false a2_0 a2_1 a2_2)) else (if ((rd_T42 l0 a2_0).f0) = 2 then (dragomanref06_within.j1 k a1 ((rd_T42 l0 a2_0).f0) (((rd_T42 l0 a2_0).f0) == 2) a2_0 a2_1 a2_2 ((rd_T42 l0 a2_0).f0) ((rd_T42 l0 a2_0).f1.f0) ((rd_T42 l0 a2_0).f1.f1) ((rd_T42 l0 a2_0).f1.f2) ((rd_T42 l0 a2_0).f1.f3) ((rd_T42 l0 a2_0).f2.f0) ((rd_T42 l0 a2_0).f2.f1) a2_0 true a2_2 ((rd_T42 l0 a2_0).f2.f0) false a2_2) else (dragomanref06_within.j1 k a1 ((rd_T42 l0 a2_0).f0) (((rd_T42 l0 a2_0).f0) == 5) a2_0 a2_1 a2_2 ((rd_T42 l0 a2_0).f0) ((rd_T42 l0 a2_0).f1.f0) ((rd_T42 l0 a2_0).f1.f1) ((rd_T42 l0 a2_0).f1.f2) ((rd_T42 l0 a2_0).f1.f3) ((rd_T42 l0 a2_0).f2.f0) ((rd_T42 l0 a2_0).f2.f1) a2_0 true a2_2 ((rd_T42 l0 a2_0).f2.f0) false a2_2)))) else (none)) else (none)
theorem dragomanref06_within.mono_l : ∀ k, (∀ y0 y1 y2 y3, LeO (dragomanref06_within.j0 k y0 y1 y2 y3) (dragomanref06_within.j0 (k + 1) y0 y1 y2 y3)) ∧ (∀ y0 y1 y2 y3 y4 y5 y6 y7 y8 y9 y10 y11 y12 y13 y14 y15 y16 y17 y18, LeO (dragomanref06_within.j1 k y0 y1 y2 y3 y4 y5 y6 y7 y8 y9 y10 y11 y12 y13 y14 y15 y16 y17 y18) (dragomanref06_within.j1 (k + 1) y0 y1 y2 y3 y4 y5 y6 y7 y8 y9 y10 y11 y12 y13 y14 y15 y16 y17 y18)) ∧ (∀ y0 y1 y2 y3 y4 y5 y6 y7 y8 y9 y10 y11, LeO (dragomanref06_within.j2 k y0 y1 y2 y3 y4 y5 y6 y7 y8 y9 y10 y11) (dragomanref06_within.j2 (k + 1) y0 y1 y2 y3 y4 y5 y6 y7 y8 y9 y10 y11))
  | 0 => ⟨fun _ _ _ _ r h => by simp [dragomanref06_within.j0] at h, fun _ _ _ _ _ _ _ _ _ _ _ _ _ _ _ _ _ _ _ r h => by simp [dragomanref06_within.j1] at h, fun _ _ _ _ _ _ _ _ _ _ _ _ r h => by simp [dragomanref06_within.j2] at h⟩
  | k + 1 => by
    obtain ⟨ih0, ih1, ih2⟩ := dragomanref06_within.mono_l k
    refine ⟨?_, ?_, ?_⟩
    · intro y0 y1 y2 y3
      unfold dragomanref06_within.j0
      repeat' first
      | (with_reducible exact ih0 _ _ _ _)
      | (with_reducible exact ih1 _ _ _ _ _ _ _ _ _ _ _ _ _ _ _ _ _ _ _)
      | (with_reducible exact ih2 _ _ _ _ _ _ _ _ _ _ _ _)
      | (with_reducible exact LeO.refl _)
      | (with_reducible exact LeO.none _)
      | (with_reducible refine LeO.ite ?_ ?_)
      | (with_reducible refine LeO.bind ?_ (fun _ => ?_))
      | exact ih0 _ _ _ _
      | exact ih1 _ _ _ _ _ _ _ _ _ _ _ _ _ _ _ _ _ _ _
      | exact ih2 _ _ _ _ _ _ _ _ _ _ _ _
      | exact LeO.none _
      | refine LeO.ite ?_ ?_
      | refine LeO.bind ?_ (fun _ => ?_)
    · intro y0 y1 y2 y3 y4 y5 y6 y7 y8 y9 y10 y11 y12 y13 y14 y15 y16 y17 y18
      unfold dragomanref06_within.j1
      repeat' first
      | (with_reducible exact ih0 _ _ _ _)
      | (with_reducible exact ih1 _ _ _ _ _ _ _ _ _ _ _ _ _ _ _ _ _ _ _)
      | (with_reducible exact ih2 _ _ _ _ _ _ _ _ _ _ _ _)
      | (with_reducible exact LeO.refl _)
      | (with_reducible exact LeO.none _)
      | (with_reducible refine LeO.ite ?_ ?_)
      | (with_reducible refine LeO.bind ?_ (fun _ => ?_))
      | exact ih0 _ _ _ _
      | exact ih1 _ _ _ _ _ _ _ _ _ _ _ _ _ _ _ _ _ _ _
      | exact ih2 _ _ _ _ _ _ _ _ _ _ _ _
      | exact LeO.none _
      | refine LeO.ite ?_ ?_
      | refine LeO.bind ?_ (fun _ => ?_)
    · intro y0 y1 y2 y3 y4 y5 y6 y7 y8 y9 y10 y11
      unfold dragomanref06_within.j2
      repeat' first
      | (with_reducible exact ih0 _ _ _ _)
      | (with_reducible exact ih1 _ _ _ _ _ _ _ _ _ _ _ _ _ _ _ _ _ _ _)
      | (with_reducible exact ih2 _ _ _ _ _ _ _ _ _ _ _ _)
      | (with_reducible exact LeO.refl _)
      | (with_reducible exact LeO.none _)
      | (with_reducible refine LeO.ite ?_ ?_)
      | (with_reducible refine LeO.bind ?_ (fun _ => ?_))
      | exact ih0 _ _ _ _
      | exact ih1 _ _ _ _ _ _ _ _ _ _ _ _ _ _ _ _ _ _ _
      | exact ih2 _ _ _ _ _ _ _ _ _ _ _ _
      | exact LeO.none _
      | refine LeO.ite ?_ ?_
      | refine LeO.bind ?_ (fun _ => ?_)
theorem dragomanref06_within.mono : ∀ a0 a1 a2 a3 a4 k, LeO (dragomanref06_within.f k a0 a1 a2 a3 a4) (dragomanref06_within.f (k + 1) a0 a1 a2 a3 a4) := by
  intro a0 a1 a2 a3 a4 k
  obtain ⟨ih0, ih1, ih2⟩ := dragomanref06_within.mono_l k
  unfold dragomanref06_within.f
  repeat' first
      | (with_reducible exact ih0 _ _ _ _)
      | (with_reducible exact ih1 _ _ _ _ _ _ _ _ _ _ _ _ _ _ _ _ _ _ _)
      | (with_reducible exact ih2 _ _ _ _ _ _ _ _ _ _ _ _)
      | (with_reducible exact LeO.refl _)
      | (with_reducible exact LeO.none _)
      | (with_reducible refine LeO.ite ?_ ?_)
      | (with_reducible refine LeO.bind ?_ (fun _ => ?_))
      | exact ih0 _ _ _ _
      | exact ih1 _ _ _ _ _ _ _ _ _ _ _ _ _ _ _ _ _ _ _
      | exact ih2 _ _ _ _ _ _ _ _ _ _ _ _
      | exact LeO.none _
      | refine LeO.ite ?_ ?_
      | refine LeO.bind ?_ (fun _ => ?_)
def dragomanref06_within.T8 : Bool × List (List Nat × List Nat) := (true, [([], []), ([0], [0]), ([], []), ([2], [2]), ([1, 3], [1, 3]), ([4], [4]), ([5], [5]), ([6, 5], [5, 6]), ([5], [5]), ([5], [5]), ([9, 5], [5, 9]), ([8, 10, 5], [5, 8, 10]), ([7, 11, 5, 5], [5, 7, 11]), ([5, 12], [5, 12])])
def dragomanref06_within.B8 : List Nat := [0, 1, 0, 4, 15, 31, 63, 127, 63, 63, 575, 1855, 4095, 8191]
theorem dragomanref06_within.tab8 : rtab .any (opsOf Try.f43 8) = dragomanref06_within.T8 := by kernel_rfl
theorem dragomanref06_within.bits8 : waitsOk dragomanref06_within.T8.2 dragomanref06_within.B8 = true := by kernel_rfl
set_option maxHeartbeats 8000000 in
set_option maxRecDepth 100000 in
theorem dragomanref06_within.calls (k : Nat) (A0 : Option Addr) (c0 : Nat) (l0 : List (S42)) (a1 : ByteArray) (a2_0 : Int) (a2_1 : Bool) (a2_2 : Int) (r : List (S78)) (w : World) (hr0 : Kd.C k42 w A0 l0.length l0) (hc0 : l0.length ≤ c0) (h : dragomanref06_within.f k l0 a1 a2_0 a2_1 a2_2 = some r) :
    Calls Try.prog 43 #[.slice A0 l0.length c0, .string a1, .agg #[.int .i64 a2_0, .bool a2_1, .int .i64 a2_2]] w fun e w' => ∃ v0_ : Value, e = .returned (v0_) ∧ Kd.R k78 78 w' w.heap.size (fun _ => True) v0_ r ∧ Below w.heap.size w w' := by
  have hu78 := Try.underlying78
  have hu42 := Try.underlying42
  have hu39 := Try.underlying39
  have HR0 := Aside0.mk hr0
  have HC0 := Aside0.mk hc0
  clear hr0 hc0
  have HB := Aside0.mk (Below.refl w.heap.size w)
  have H : (if 0 ≤ a2_0 then (if a2_0 < (l0.length : Int) then (if ((rd_T42 l0 a2_0).f0) = 0 then (some (([(⟨a2_0, true, a2_2⟩ : S78)] : List (S78)))) else (if ((rd_T42 l0 a2_0).f0) = 1 then (if a2_2 < (a1.size : Int) then (if 0 ≤ a2_2 then ((ref04_Has.f ((rd_T42 l0 a2_0).f1.f0) ((rd_T42 l0 a2_0).f1.f1) ((rd_T42 l0 a2_0).f1.f2) ((rd_T42 l0 a2_0).f1.f3) (bt a1 a2_2)).bind fun t127 => (dragomanref06_within.j0 k t127 a2_0 a2_1 a2_2)) else (none)) else (dragomanref06_within.j0 k false a2_0 a2_1 a2_2)) else (if ((rd_T42 l0 a2_0).f0) = 2 then (dragomanref06_within.j1 k a1 ((rd_T42 l0 a2_0).f0) (((rd_T42 l0 a2_0).f0) == 2) a2_0 a2_1 a2_2 ((rd_T42 l0 a2_0).f0) ((rd_T42 l0 a2_0).f1.f0) ((rd_T42 l0 a2_0).f1.f1) ((rd_T42 l0 a2_0).f1.f2) ((rd_T42 l0 a2_0).f1.f3) ((rd_T42 l0 a2_0).f2.f0) ((rd_T42 l0 a2_0).f2.f1) a2_0 true a2_2 ((rd_T42 l0 a2_0).f2.f0) false a2_2) else (dragomanref06_within.j1 k a1 ((rd_T42 l0 a2_0).f0) (((rd_T42 l0 a2_0).f0) == 5) a2_0 a2_1 a2_2 ((rd_T42 l0 a2_0).f0) ((rd_T42 l0 a2_0).f1.f0) ((rd_T42 l0 a2_0).f1.f1) ((rd_T42 l0 a2_0).f1.f2) ((rd_T42 l0 a2_0).f1.f3) ((rd_T42 l0 a2_0).f2.f0) ((rd_T42 l0 a2_0).f2.f1) a2_0 true a2_2 ((rd_T42 l0 a2_0).f2.f0) false a2_2)))) else (none)) else (none)) = some r := h
  clear h
  by_cases c4 : 0 ≤ a2_0
  · rw [if_pos c4] at H
    have c4b0 : decide (0 ≤ a2_0) = true := decide_eq_true c4
    clear c4
    by_cases c5 : a2_0 < (l0.length : Int)
    · rw [if_pos c5] at H
      have c5b0 : decide (a2_0 < (l0.length : Int)) = true := decide_eq_true c5
      clear c5
      by_cases c6 : ((rd_T42 l0 a2_0).f0) = 0
      · rw [if_pos c6] at H
        have c6b0 : (((rd_T42 l0 a2_0).f0) == 0) = true := beq_iff_eq.mpr c6
        have c6b1 : (((rd_T42 l0 a2_0).f0) != 0) = false := bne_eq_false_iff_eq.mpr c6
        clear c6
        obtain ⟨y124, hy124⟩ : ∃ y_ : List (S78), y_ = (([(⟨a2_0, true, a2_2⟩ : S78)] : List (S78))) := ⟨_, rfl⟩
        replace H : (some y124) = some r := by first | (rw [hy124]; with_reducible exact H) | (have H2_ := (Option.bind_some _ _).symm.trans H; rw [hy124]; with_reducible exact H2_) | (have H2_ := (Option.bind_some _ _).symm.trans H; with_reducible exact H2_) | with_reducible exact H | (rw [hy124]; exact H) | exact H
        have Ny124 := Aside0.mk hy124
        clear hy124
        obtain rfl := Option.some.inj H
        go_enter Try.func43, Try.ntmps43
        go_wp2_with (first | ((with_reducible refine gate_dst (N := 5) rfl ?_); refine box_event ?hg (N := 5) ?hd (cs := #[.int .i64 a2_0, .bool a2_1, .int .i64 a2_2]) (t := 78) ?hr ?_; (case hd => rfl); (case hg => rfl); (case hr => first | (go_simp; done) | (go_simp; rfl)); intro gb119 hg w7 hbox hb; have n0_ := Aside0.mk (below_step (by repeat (first | (with_reducible first | exact HB.out | apply below_alloc | apply pw_below_drewN | apply below_drew1) | exact HB.out)) hb); have n1_ := Aside0.mk (hbox); have n2_ := Aside0.mk ((by rw [hg]; exact (below_size (by repeat (first | (with_reducible first | exact HB.out | apply below_alloc | apply pw_below_drewN | apply below_drew1) | exact HB.out))) : w.heap.size ≤ gb119)); have n3_ := Aside0.mk ((by rw [hg]; exact (below_size (by repeat (first | (with_reducible first | exact HB.out | apply below_alloc | apply pw_below_drewN | apply below_drew1) | exact HB.out))) : w.heap.size ≤ gb119)); clear HB; have HB := n0_; have BK119 := n1_; have GW119 := n2_; have GE119 := n3_; clear n0_ n1_ n2_ n3_; clear hb hbox hg; have hcz8_0 : w7.cell? ⟨gb119, 0, none⟩ = some (.int .i64 a2_0) := (blk_cell BK119.out 0).trans rfl; have hcz8_1 : w7.cell? ⟨gb119, 1, none⟩ = some (.bool a2_1) := (blk_cell BK119.out 1).trans rfl; have hcz8_2 : w7.cell? ⟨gb119, 2, none⟩ = some (.int .i64 a2_2) := (blk_cell BK119.out 2).trans rfl; have hfz8_0 := blk_frozen BK119.out 0; have hfz8_1 := blk_frozen BK119.out 1; have hfz8_2 := blk_frozen BK119.out 2; have p120 : 0 ≤ (a2_0 : Int) := of_decide_eq_true (by first | (with_reducible assumption) | assumption); have q120 : a2_0 < (l0.length : Int) := of_decide_eq_true (by first | (with_reducible assumption) | assumption); obtain ⟨ad120, e120, hx120_0, hx120_1, hx120_2, hx120_3, hx120_4, hx120_5, hx120_6⟩ := at_T42 HR0.out a2_0 p120 q120; cases e120; (try simp only [Int.toNat_natCast] at hx120_0); replace hx120_0 := (HB.out.cell (World.block_lt_of_cell? w _ hx120_0)).trans hx120_0; replace hx120_1 := (HB.out.cell (World.block_lt_of_cell? w _ hx120_1)).trans hx120_1; replace hx120_2 := (HB.out.cell (World.block_lt_of_cell? w _ hx120_2)).trans hx120_2; replace hx120_3 := (HB.out.cell (World.block_lt_of_cell? w _ hx120_3)).trans hx120_3; replace hx120_4 := (HB.out.cell (World.block_lt_of_cell? w _ hx120_4)).trans hx120_4; replace hx120_5 := (HB.out.cell (World.block_lt_of_cell? w _ hx120_5)).trans hx120_5; replace hx120_6 := (HB.out.cell (World.block_lt_of_cell? w _ hx120_6)).trans hx120_6; replace p120 := eq_true p120; replace q120 := eq_true q120) | ((with_reducible refine gate_dst (N := 7) rfl ?_); refine box_event ?hg (N := 7) ?hd (cs := #[.int .i64 0, .int .u64 0, .int .u64 0, .int .u64 0, .int .u64 0, .int .i64 0, .int .i64 0]) (t := 42) ?hr ?_; (case hd => rfl); (case hg => rfl); (case hr => first | (go_simp; done) | (go_simp; rfl)); intro gb121 hg w9 hbox hb; have n0_ := Aside0.mk (blk_below (g := gb119) (o := .cells #[.int .i64 a2_0, .bool a2_1, .int .i64 a2_2] 78 (0, 0)) (by (with_reducible repeat (first | refine blk_drewN ?_ _ | refine blk_drew ?_ | refine blk_alloc ?_ _)); exact BK119.out) hb); have n1_ := Aside0.mk (below_step (by repeat (first | (with_reducible first | exact HB.out | apply below_alloc | apply pw_below_drewN | apply below_drew1 | refine below_set ?_ GE119.out) | exact HB.out)) hb); have n2_ := Aside0.mk (hbox); have n3_ := Aside0.mk ((by rw [hg]; exact (below_size (by repeat (first | (with_reducible first | exact HB.out | apply below_alloc | apply pw_below_drewN | apply below_drew1 | refine below_set ?_ GE119.out) | exact HB.out))) : w.heap.size ≤ gb121)); have n4_ := Aside0.mk ((by rw [hg]; exact (below_size (by repeat (first | (with_reducible first | exact HB.out | apply below_alloc | apply pw_below_drewN | apply below_drew1 | refine below_set ?_ GE119.out) | exact HB.out))) : w.heap.size ≤ gb121)); have n5_ := Aside0.mk ((by rw [hg]; exact Nat.ne_of_lt (blk_lt (g := gb119) (o := .cells #[.int .i64 a2_0, .bool a2_1, .int .i64 a2_2] 78 (0, 0)) (by (with_reducible repeat (first | refine blk_drewN ?_ _ | refine blk_drew ?_ | refine blk_alloc ?_ _)); exact BK119.out)) : gb119 ≠ gb121)); have n6_ := Aside0.mk ((by rw [hg]; exact Nat.ne_of_gt (blk_lt (g := gb119) (o := .cells #[.int .i64 a2_0, .bool a2_1, .int .i64 a2_2] 78 (0, 0)) (by (with_reducible repeat (first | refine blk_drewN ?_ _ | refine blk_drew ?_ | refine blk_alloc ?_ _)); exact BK119.out)) : gb121 ≠ gb119)); clear BK119; clear HB; have BK119 := n0_; have HB := n1_; have BK121 := n2_; have GW121 := n3_; have GE121 := n4_; have NB119_121 := n5_; have NB121_119 := n6_; clear n0_ n1_ n2_ n3_ n4_ n5_ n6_; clear hb hbox hg; have hnb10 := NB121_119.out; have hnc10 := NB119_121.out; have hcz11_0 : w9.cell? ⟨gb121, 0, none⟩ = some (.int .i64 0) := (blk_cell BK121.out 0).trans rfl; have hcz11_1 : w9.cell? ⟨gb121, 1, none⟩ = some (.int .u64 0) := (blk_cell BK121.out 1).trans rfl; have hcz11_2 : w9.cell? ⟨gb121, 2, none⟩ = some (.int .u64 0) := (blk_cell BK121.out 2).trans rfl; have hcz11_3 : w9.cell? ⟨gb121, 3, none⟩ = some (.int .u64 0) := (blk_cell BK121.out 3).trans rfl; have hcz11_4 : w9.cell? ⟨gb121, 4, none⟩ = some (.int .u64 0) := (blk_cell BK121.out 4).trans rfl; have hcz11_5 : w9.cell? ⟨gb121, 5, none⟩ = some (.int .i64 0) := (blk_cell BK121.out 5).trans rfl; have hcz11_6 : w9.cell? ⟨gb121, 6, none⟩ = some (.int .i64 0) := (blk_cell BK121.out 6).trans rfl; have hfz11_0 := blk_frozen BK121.out 0; have hfz11_1 := blk_frozen BK121.out 1; have hfz11_2 := blk_frozen BK121.out 2; have hfz11_3 := blk_frozen BK121.out 3; have hfz11_4 := blk_frozen BK121.out 4; have hfz11_5 := blk_frozen BK121.out 5; have hfz11_6 := blk_frozen BK121.out 6; have hcz12_0 : w9.cell? ⟨gb119, 0, none⟩ = some (.int .i64 a2_0) := (blk_cell BK119.out 0).trans rfl; have hcz12_1 : w9.cell? ⟨gb119, 1, none⟩ = some (.bool a2_1) := (blk_cell BK119.out 1).trans rfl; have hcz12_2 : w9.cell? ⟨gb119, 2, none⟩ = some (.int .i64 a2_2) := (blk_cell BK119.out 2).trans rfl; have hfz12_0 := blk_frozen BK119.out 0; have hfz12_1 := blk_frozen BK119.out 1; have hfz12_2 := blk_frozen BK119.out 2) | ((with_reducible refine gate_dst (N := 8) rfl ?_); refine box_event ?hg (N := 8) ?hd (cs := #[.int .i64 0, .bool false, .int .i64 0]) (t := 78) ?hr ?_; (case hd => rfl); (case hg => rfl); (case hr => first | (go_simp; done) | (go_simp; rfl)); intro gb122 hg w13 hbox hb; have n0_ := Aside0.mk (blk_below (g := gb119) (o := .cells #[.int .i64 a2_0, .bool a2_1, .int .i64 a2_2] 78 (0, 0)) (by (with_reducible repeat (first | refine blk_drewN ?_ _ | refine blk_drew ?_ | refine blk_alloc ?_ _)); refine blk_far ?_ NB119_121.out _; (with_reducible repeat (first | refine blk_drewN ?_ _ | refine blk_drew ?_ | refine blk_alloc ?_ _)); refine blk_far ?_ NB119_121.out _; (with_reducible repeat (first | refine blk_drewN ?_ _ | refine blk_drew ?_ | refine blk_alloc ?_ _)); refine blk_far ?_ NB119_121.out _; (with_reducible repeat (first | refine blk_drewN ?_ _ | refine blk_drew ?_ | refine blk_alloc ?_ _)); refine blk_far ?_ NB119_121.out _; (with_reducible repeat (first | refine blk_drewN ?_ _ | refine blk_drew ?_ | refine blk_alloc ?_ _)); refine blk_far ?_ NB119_121.out _; (with_reducible repeat (first | refine blk_drewN ?_ _ | refine blk_drew ?_ | refine blk_alloc ?_ _)); refine blk_far ?_ NB119_121.out _; (with_reducible repeat (first | refine blk_drewN ?_ _ | refine blk_drew ?_ | refine blk_alloc ?_ _)); refine blk_far ?_ NB119_121.out _; (with_reducible repeat (first | refine blk_drewN ?_ _ | refine blk_drew ?_ | refine blk_alloc ?_ _)); exact BK119.out) hb); have n1_ := Aside0.mk (blk_below (g := gb121) (o := .cells #[.int .i64 ((rd_T42 l0 a2_0).f0), .int .u64 ((rd_T42 l0 a2_0).f1.f0), .int .u64 ((rd_T42 l0 a2_0).f1.f1), .int .u64 ((rd_T42 l0 a2_0).f1.f2), .int .u64 ((rd_T42 l0 a2_0).f1.f3), .int .i64 ((rd_T42 l0 a2_0).f2.f0), .int .i64 ((rd_T42 l0 a2_0).f2.f1)] 42 (0, 0)) (by (with_reducible repeat (first | refine blk_drewN ?_ _ | refine blk_drew ?_ | refine blk_alloc ?_ _)); refine blk_put (cs := #[.int .i64 ((rd_T42 l0 a2_0).f0), .int .u64 ((rd_T42 l0 a2_0).f1.f0), .int .u64 ((rd_T42 l0 a2_0).f1.f1), .int .u64 ((rd_T42 l0 a2_0).f1.f2), .int .u64 ((rd_T42 l0 a2_0).f1.f3), .int .i64 ((rd_T42 l0 a2_0).f2.f0), .int .i64 0]) ?_ 6 _ rfl; (with_reducible repeat (first | refine blk_drewN ?_ _ | refine blk_drew ?_ | refine blk_alloc ?_ _)); refine blk_put (cs := #[.int .i64 ((rd_T42 l0 a2_0).f0), .int .u64 ((rd_T42 l0 a2_0).f1.f0), .int .u64 ((rd_T42 l0 a2_0).f1.f1), .int .u64 ((rd_T42 l0 a2_0).f1.f2), .int .u64 ((rd_T42 l0 a2_0).f1.f3), .int .i64 0, .int .i64 0]) ?_ 5 _ rfl; (with_reducible repeat (first | refine blk_drewN ?_ _ | refine blk_drew ?_ | refine blk_alloc ?_ _)); refine blk_put (cs := #[.int .i64 ((rd_T42 l0 a2_0).f0), .int .u64 ((rd_T42 l0 a2_0).f1.f0), .int .u64 ((rd_T42 l0 a2_0).f1.f1), .int .u64 ((rd_T42 l0 a2_0).f1.f2), .int .u64 0, .int .i64 0, .int .i64 0]) ?_ 4 _ rfl; (with_reducible repeat (first | refine blk_drewN ?_ _ | refine blk_drew ?_ | refine blk_alloc ?_ _)); refine blk_put (cs := #[.int .i64 ((rd_T42 l0 a2_0).f0), .int .u64 ((rd_T42 l0 a2_0).f1.f0), .int .u64 ((rd_T42 l0 a2_0).f1.f1), .int .u64 0, .int .u64 0, .int .i64 0, .int .i64 0]) ?_ 3 _ rfl; (with_reducible repeat (first | refine blk_drewN ?_ _ | refine blk_drew ?_ | refine blk_alloc ?_ _)); refine blk_put (cs := #[.int .i64 ((rd_T42 l0 a2_0).f0), .int .u64 ((rd_T42 l0 a2_0).f1.f0), .int .u64 0, .int .u64 0, .int .u64 0, .int .i64 0, .int .i64 0]) ?_ 2 _ rfl; (with_reducible repeat (first | refine blk_drewN ?_ _ | refine blk_drew ?_ | refine blk_alloc ?_ _)); refine blk_put (cs := #[.int .i64 ((rd_T42 l0 a2_0).f0), .int .u64 0, .int .u64 0, .int .u64 0, .int .u64 0, .int .i64 0, .int .i64 0]) ?_ 1 _ rfl; (with_reducible repeat (first | refine blk_drewN ?_ _ | refine blk_drew ?_ | refine blk_alloc ?_ _)); refine blk_put (cs := #[.int .i64 0, .int .u64 0, .int .u64 0, .int .u64 0, .int .u64 0, .int .i64 0, .int .i64 0]) ?_ 0 _ rfl; (with_reducible repeat (first | refine blk_drewN ?_ _ | refine blk_drew ?_ | refine blk_alloc ?_ _)); exact BK121.out) hb); have n2_ := Aside0.mk (below_step (by repeat (first | (with_reducible first | exact HB.out | apply below_alloc | apply pw_below_drewN | apply below_drew1 | refine below_set ?_ GE119.out | refine below_set ?_ GE121.out) | exact HB.out)) hb); have n3_ := Aside0.mk (hbox); have n4_ := Aside0.mk ((by rw [hg]; exact (below_size (by repeat (first | (with_reducible first | exact HB.out | apply below_alloc | apply pw_below_drewN | apply below_drew1 | refine below_set ?_ GE119.out | refine below_set ?_ GE121.out) | exact HB.out))) : w.heap.size ≤ gb122)); have n5_ := Aside0.mk ((by rw [hg]; exact (below_size (by repeat (first | (with_reducible first | exact HB.out | apply below_alloc | apply pw_below_drewN | apply below_drew1 | refine below_set ?_ GE119.out | refine below_set ?_ GE121.out) | exact HB.out))) : w.heap.size ≤ gb122)); have n6_ := Aside0.mk ((by rw [hg]; exact Nat.ne_of_lt (blk_lt (g := gb119) (o := .cells #[.int .i64 a2_0, .bool a2_1, .int .i64 a2_2] 78 (0, 0)) (by (with_reducible repeat (first | refine blk_drewN ?_ _ | refine blk_drew ?_ | refine blk_alloc ?_ _)); refine blk_far ?_ NB119_121.out _; (with_reducible repeat (first | refine blk_drewN ?_ _ | refine blk_drew ?_ | refine blk_alloc ?_ _)); refine blk_far ?_ NB119_121.out _; (with_reducible repeat (first | refine blk_drewN ?_ _ | refine blk_drew ?_ | refine blk_alloc ?_ _)); refine blk_far ?_ NB119_121.out _; (with_reducible repeat (first | refine blk_drewN ?_ _ | refine blk_drew ?_ | refine blk_alloc ?_ _)); refine blk_far ?_ NB119_121.out _; (with_reducible repeat (first | refine blk_drewN ?_ _ | refine blk_drew ?_ | refine blk_alloc ?_ _)); refine blk_far ?_ NB119_121.out _; (with_reducible repeat (first | refine blk_drewN ?_ _ | refine blk_drew ?_ | refine blk_alloc ?_ _)); refine blk_far ?_ NB119_121.out _; (with_reducible repeat (first | refine blk_drewN ?_ _ | refine blk_drew ?_ | refine blk_alloc ?_ _)); refine blk_far ?_ NB119_121.out _; (with_reducible repeat (first | refine blk_drewN ?_ _ | refine blk_drew ?_ | refine blk_alloc ?_ _)); exact BK119.out)) : gb119 ≠ gb122)); have n7_ := Aside0.mk ((by rw [hg]; exact Nat.ne_of_gt (blk_lt (g := gb119) (o := .cells #[.int .i64 a2_0, .bool a2_1, .int .i64 a2_2] 78 (0, 0)) (by (with_reducible repeat (first | refine blk_drewN ?_ _ | refine blk_drew ?_ | refine blk_alloc ?_ _)); refine blk_far ?_ NB119_121.out _; (with_reducible repeat (first | refine blk_drewN ?_ _ | refine blk_drew ?_ | refine blk_alloc ?_ _)); refine blk_far ?_ NB119_121.out _; (with_reducible repeat (first | refine blk_drewN ?_ _ | refine blk_drew ?_ | refine blk_alloc ?_ _)); refine blk_far ?_ NB119_121.out _; (with_reducible repeat (first | refine blk_drewN ?_ _ | refine blk_drew ?_ | refine blk_alloc ?_ _)); refine blk_far ?_ NB119_121.out _; (with_reducible repeat (first | refine blk_drewN ?_ _ | refine blk_drew ?_ | refine blk_alloc ?_ _)); refine blk_far ?_ NB119_121.out _; (with_reducible repeat (first | refine blk_drewN ?_ _ | refine blk_drew ?_ | refine blk_alloc ?_ _)); refine blk_far ?_ NB119_121.out _; (with_reducible repeat (first | refine blk_drewN ?_ _ | refine blk_drew ?_ | refine blk_alloc ?_ _)); refine blk_far ?_ NB119_121.out _; (with_reducible repeat (first | refine blk_drewN ?_ _ | refine blk_drew ?_ | refine blk_alloc ?_ _)); exact BK119.out)) : gb122 ≠ gb119)); have n8_ := Aside0.mk ((by rw [hg]; exact Nat.ne_of_lt (blk_lt (g := gb121) (o := .cells #[.int .i64 ((rd_T42 l0 a2_0).f0), .int .u64 ((rd_T42 l0 a2_0).f1.f0), .int .u64 ((rd_T42 l0 a2_0).f1.f1), .int .u64 ((rd_T42 l0 a2_0).f1.f2), .int .u64 ((rd_T42 l0 a2_0).f1.f3), .int .i64 ((rd_T42 l0 a2_0).f2.f0), .int .i64 ((rd_T42 l0 a2_0).f2.f1)] 42 (0, 0)) (by (with_reducible repeat (first | refine blk_drewN ?_ _ | refine blk_drew ?_ | refine blk_alloc ?_ _)); refine blk_put (cs := #[.int .i64 ((rd_T42 l0 a2_0).f0), .int .u64 ((rd_T42 l0 a2_0).f1.f0), .int .u64 ((rd_T42 l0 a2_0).f1.f1), .int .u64 ((rd_T42 l0 a2_0).f1.f2), .int .u64 ((rd_T42 l0 a2_0).f1.f3), .int .i64 ((rd_T42 l0 a2_0).f2.f0), .int .i64 0]) ?_ 6 _ rfl; (with_reducible repeat (first | refine blk_drewN ?_ _ | refine blk_drew ?_ | refine blk_alloc ?_ _)); refine blk_put (cs := #[.int .i64 ((rd_T42 l0 a2_0).f0), .int .u64 ((rd_T42 l0 a2_0).f1.f0), .int .u64 ((rd_T42 l0 a2_0).f1.f1), .int .u64 ((rd_T42 l0 a2_0).f1.f2), .int .u64 ((rd_T42 l0 a2_0).f1.f3), .int .i64 0, .int .i64 0]) ?_ 5 _ rfl; (with_reducible repeat (first | refine blk_drewN ?_ _ | refine blk_drew ?_ | refine blk_alloc ?_ _)); refine blk_put (cs := #[.int .i64 ((rd_T42 l0 a2_0).f0), .int .u64 ((rd_T42 l0 a2_0).f1.f0), .int .u64 ((rd_T42 l0 a2_0).f1.f1), .int .u64 ((rd_T42 l0 a2_0).f1.f2), .int .u64 0, .int .i64 0, .int .i64 0]) ?_ 4 _ rfl; (with_reducible repeat (first | refine blk_drewN ?_ _ | refine blk_drew ?_ | refine blk_alloc ?_ _)); refine blk_put (cs := #[.int .i64 ((rd_T42 l0 a2_0).f0), .int .u64 ((rd_T42 l0 a2_0).f1.f0), .int .u64 ((rd_T42 l0 a2_0).f1.f1), .int .u64 0, .int .u64 0, .int .i64 0, .int .i64 0]) ?_ 3 _ rfl; (with_reducible repeat (first | refine blk_drewN ?_ _ | refine blk_drew ?_ | refine blk_alloc ?_ _)); refine blk_put (cs := #[.int .i64 ((rd_T42 l0 a2_0).f0), .int .u64 ((rd_T42 l0 a2_0).f1.f0), .int .u64 0, .int .u64 0, .int .u64 0, .int .i64 0, .int .i64 0]) ?_ 2 _ rfl; (with_reducible repeat (first | refine blk_drewN ?_ _ | refine blk_drew ?_ | refine blk_alloc ?_ _)); refine blk_put (cs := #[.int .i64 ((rd_T42 l0 a2_0).f0), .int .u64 0, .int .u64 0, .int .u64 0, .int .u64 0, .int .i64 0, .int .i64 0]) ?_ 1 _ rfl; (with_reducible repeat (first | refine blk_drewN ?_ _ | refine blk_drew ?_ | refine blk_alloc ?_ _)); refine blk_put (cs := #[.int .i64 0, .int .u64 0, .int .u64 0, .int .u64 0, .int .u64 0, .int .i64 0, .int .i64 0]) ?_ 0 _ rfl; (with_reducible repeat (first | refine blk_drewN ?_ _ | refine blk_drew ?_ | refine blk_alloc ?_ _)); exact BK121.out)) : gb121 ≠ gb122)); have n9_ := Aside0.mk ((by rw [hg]; exact Nat.ne_of_gt (blk_lt (g := gb121) (o := .cells #[.int .i64 ((rd_T42 l0 a2_0).f0), .int .u64 ((rd_T42 l0 a2_0).f1.f0), .int .u64 ((rd_T42 l0 a2_0).f1.f1), .int .u64 ((rd_T42 l0 a2_0).f1.f2), .int .u64 ((rd_T42 l0 a2_0).f1.f3), .int .i64 ((rd_T42 l0 a2_0).f2.f0), .int .i64 ((rd_T42 l0 a2_0).f2.f1)] 42 (0, 0)) (by (with_reducible repeat (first | refine blk_drewN ?_ _ | refine blk_drew ?_ | refine blk_alloc ?_ _)); refine blk_put (cs := #[.int .i64 ((rd_T42 l0 a2_0).f0), .int .u64 ((rd_T42 l0 a2_0).f1.f0), .int .u64 ((rd_T42 l0 a2_0).f1.f1), .int .u64 ((rd_T42 l0 a2_0).f1.f2), .int .u64 ((rd_T42 l0 a2_0).f1.f3), .int .i64 ((rd_T42 l0 a2_0).f2.f0), .int .i64 0]) ?_ 6 _ rfl; (with_reducible repeat (first | refine blk_drewN ?_ _ | refine blk_drew ?_ | refine blk_alloc ?_ _)); refine blk_put (cs := #[.int .i64 ((rd_T42 l0 a2_0).f0), .int .u64 ((rd_T42 l0 a2_0).f1.f0), .int .u64 ((rd_T42 l0 a2_0).f1.f1), .int .u64 ((rd_T42 l0 a2_0).f1.f2), .int .u64 ((rd_T42 l0 a2_0).f1.f3), .int .i64 0, .int .i64 0]) ?_ 5 _ rfl; (with_reducible repeat (first | refine blk_drewN ?_ _ | refine blk_drew ?_ | refine blk_alloc ?_ _)); refine blk_put (cs := #[.int .i64 ((rd_T42 l0 a2_0).f0), .int .u64 ((rd_T42 l0 a2_0).f1.f0), .int .u64 ((rd_T42 l0 a2_0).f1.f1), .int .u64 ((rd_T42 l0 a2_0).f1.f2), .int .u64 0, .int .i64 0, .int .i64 0]) ?_ 4 _ rfl; (with_reducible repeat (first | refine blk_drewN ?_ _ | refine blk_drew ?_ | refine blk_alloc ?_ _)); refine blk_put (cs := #[.int .i64 ((rd_T42 l0 a2_0).f0), .int .u64 ((rd_T42 l0 a2_0).f1.f0), .int .u64 ((rd_T42 l0 a2_0).f1.f1), .int .u64 0, .int .u64 0, .int .i64 0, .int .i64 0]) ?_ 3 _ rfl; (with_reducible repeat (first | refine blk_drewN ?_ _ | refine blk_drew ?_ | refine blk_alloc ?_ _)); refine blk_put (cs := #[.int .i64 ((rd_T42 l0 a2_0).f0), .int .u64 ((rd_T42 l0 a2_0).f1.f0), .int .u64 0, .int .u64 0, .int .u64 0, .int .i64 0, .int .i64 0]) ?_ 2 _ rfl; (with_reducible repeat (first | refine blk_drewN ?_ _ | refine blk_drew ?_ | refine blk_alloc ?_ _)); refine blk_put (cs := #[.int .i64 ((rd_T42 l0 a2_0).f0), .int .u64 0, .int .u64 0, .int .u64 0, .int .u64 0, .int .i64 0, .int .i64 0]) ?_ 1 _ rfl; (with_reducible repeat (first | refine blk_drewN ?_ _ | refine blk_drew ?_ | refine blk_alloc ?_ _)); refine blk_put (cs := #[.int .i64 0, .int .u64 0, .int .u64 0, .int .u64 0, .int .u64 0, .int .i64 0, .int .i64 0]) ?_ 0 _ rfl; (with_reducible repeat (first | refine blk_drewN ?_ _ | refine blk_drew ?_ | refine blk_alloc ?_ _)); exact BK121.out)) : gb122 ≠ gb121)); clear BK119; clear BK121; clear HB; have BK119 := n0_; have BK121 := n1_; have HB := n2_; have BK122 := n3_; have GW122 := n4_; have GE122 := n5_; have NB119_122 := n6_; have NB122_119 := n7_; have NB121_122 := n8_; have NB122_121 := n9_; clear n0_ n1_ n2_ n3_ n4_ n5_ n6_ n7_ n8_ n9_; clear hb hbox hg; have hnb14 := NB122_119.out; have hnc14 := NB119_122.out; have hnb15 := NB122_121.out; have hnc15 := NB121_122.out; have hcz16_0 : w13.cell? ⟨gb122, 0, none⟩ = some (.int .i64 0) := (blk_cell BK122.out 0).trans rfl; have hcz16_1 : w13.cell? ⟨gb122, 1, none⟩ = some (.bool false) := (blk_cell BK122.out 1).trans rfl; have hcz16_2 : w13.cell? ⟨gb122, 2, none⟩ = some (.int .i64 0) := (blk_cell BK122.out 2).trans rfl; have hfz16_0 := blk_frozen BK122.out 0; have hfz16_1 := blk_frozen BK122.out 1; have hfz16_2 := blk_frozen BK122.out 2; have hcz17_0 : w13.cell? ⟨gb121, 0, none⟩ = some (.int .i64 ((rd_T42 l0 a2_0).f0)) := (blk_cell BK121.out 0).trans rfl; have hcz17_1 : w13.cell? ⟨gb121, 1, none⟩ = some (.int .u64 ((rd_T42 l0 a2_0).f1.f0)) := (blk_cell BK121.out 1).trans rfl; have hcz17_2 : w13.cell? ⟨gb121, 2, none⟩ = some (.int .u64 ((rd_T42 l0 a2_0).f1.f1)) := (blk_cell BK121.out 2).trans rfl; have hcz17_3 : w13.cell? ⟨gb121, 3, none⟩ = some (.int .u64 ((rd_T42 l0 a2_0).f1.f2)) := (blk_cell BK121.out 3).trans rfl; have hcz17_4 : w13.cell? ⟨gb121, 4, none⟩ = some (.int .u64 ((rd_T42 l0 a2_0).f1.f3)) := (blk_cell BK121.out 4).trans rfl; have hcz17_5 : w13.cell? ⟨gb121, 5, none⟩ = some (.int .i64 ((rd_T42 l0 a2_0).f2.f0)) := (blk_cell BK121.out 5).trans rfl; have hcz17_6 : w13.cell? ⟨gb121, 6, none⟩ = some (.int .i64 ((rd_T42 l0 a2_0).f2.f1)) := (blk_cell BK121.out 6).trans rfl; have hfz17_0 := blk_frozen BK121.out 0; have hfz17_1 := blk_frozen BK121.out 1; have hfz17_2 := blk_frozen BK121.out 2; have hfz17_3 := blk_frozen BK121.out 3; have hfz17_4 := blk_frozen BK121.out 4; have hfz17_5 := blk_frozen BK121.out 5; have hfz17_6 := blk_frozen BK121.out 6; have hcz18_0 : w13.cell? ⟨gb119, 0, none⟩ = some (.int .i64 a2_0) := (blk_cell BK119.out 0).trans rfl; have hcz18_1 : w13.cell? ⟨gb119, 1, none⟩ = some (.bool a2_1) := (blk_cell BK119.out 1).trans rfl; have hcz18_2 : w13.cell? ⟨gb119, 2, none⟩ = some (.int .i64 a2_2) := (blk_cell BK119.out 2).trans rfl; have hfz18_0 := blk_frozen BK119.out 0; have hfz18_1 := blk_frozen BK119.out 1; have hfz18_2 := blk_frozen BK119.out 2) | ((with_reducible refine gate_dst (N := 9) rfl ?_); refine box_event ?hg (N := 9) ?hd (cs := #[.int .i64 0, .bool false, .int .i64 0]) (t := 78) ?hr ?_; (case hd => rfl); (case hg => rfl); (case hr => first | (go_simp; done) | (go_simp; rfl)); intro gb123 hg w19 hbox hb; have n0_ := Aside0.mk (blk_below (g := gb119) (o := .cells #[.int .i64 a2_0, .bool a2_1, .int .i64 a2_2] 78 (0, 0)) (by (with_reducible repeat (first | refine blk_drewN ?_ _ | refine blk_drew ?_ | refine blk_alloc ?_ _)); refine blk_far ?_ NB119_122.out _; (with_reducible repeat (first | refine blk_drewN ?_ _ | refine blk_drew ?_ | refine blk_alloc ?_ _)); refine blk_far ?_ NB119_122.out _; (with_reducible repeat (first | refine blk_drewN ?_ _ | refine blk_drew ?_ | refine blk_alloc ?_ _)); refine blk_far ?_ NB119_122.out _; (with_reducible repeat (first | refine blk_drewN ?_ _ | refine blk_drew ?_ | refine blk_alloc ?_ _)); exact BK119.out) hb); have n1_ := Aside0.mk (blk_below (g := gb121) (o := .cells #[.int .i64 ((rd_T42 l0 a2_0).f0), .int .u64 ((rd_T42 l0 a2_0).f1.f0), .int .u64 ((rd_T42 l0 a2_0).f1.f1), .int .u64 ((rd_T42 l0 a2_0).f1.f2), .int .u64 ((rd_T42 l0 a2_0).f1.f3), .int .i64 ((rd_T42 l0 a2_0).f2.f0), .int .i64 ((rd_T42 l0 a2_0).f2.f1)] 42 (0, 0)) (by (with_reducible repeat (first | refine blk_drewN ?_ _ | refine blk_drew ?_ | refine blk_alloc ?_ _)); refine blk_far ?_ NB121_122.out _; (with_reducible repeat (first | refine blk_drewN ?_ _ | refine blk_drew ?_ | refine blk_alloc ?_ _)); refine blk_far ?_ NB121_122.out _; (with_reducible repeat (first | refine blk_drewN ?_ _ | refine blk_drew ?_ | refine blk_alloc ?_ _)); refine blk_far ?_ NB121_122.out _; (with_reducible repeat (first | refine blk_drewN ?_ _ | refine blk_drew ?_ | refine blk_alloc ?_ _)); exact BK121.out) hb); have n2_ := Aside0.mk (blk_below (g := gb122) (o := .cells #[.int .i64 a2_0, .bool true, .int .i64 a2_2] 78 (0, 0)) (by (with_reducible repeat (first | refine blk_drewN ?_ _ | refine blk_drew ?_ | refine blk_alloc ?_ _)); refine blk_put (cs := #[.int .i64 a2_0, .bool true, .int .i64 0]) ?_ 2 _ rfl; (with_reducible repeat (first | refine blk_drewN ?_ _ | refine blk_drew ?_ | refine blk_alloc ?_ _)); refine blk_put (cs := #[.int .i64 a2_0, .bool false, .int .i64 0]) ?_ 1 _ rfl; (with_reducible repeat (first | refine blk_drewN ?_ _ | refine blk_drew ?_ | refine blk_alloc ?_ _)); refine blk_put (cs := #[.int .i64 0, .bool false, .int .i64 0]) ?_ 0 _ rfl; (with_reducible repeat (first | refine blk_drewN ?_ _ | refine blk_drew ?_ | refine blk_alloc ?_ _)); exact BK122.out) hb); have n3_ := Aside0.mk (below_step (by repeat (first | (with_reducible first | exact HB.out | apply below_alloc | apply pw_below_drewN | apply below_drew1 | refine below_set ?_ GE119.out | refine below_set ?_ GE121.out | refine below_set ?_ GE122.out) | exact HB.out)) hb); have n4_ := Aside0.mk (hbox); have n5_ := Aside0.mk ((by rw [hg]; exact (below_size (by repeat (first | (with_reducible first | exact HB.out | apply below_alloc | apply pw_below_drewN | apply below_drew1 | refine below_set ?_ GE119.out | refine below_set ?_ GE121.out | refine below_set ?_ GE122.out) | exact HB.out))) : w.heap.size ≤ gb123)); have n6_ := Aside0.mk ((by rw [hg]; exact (below_size (by repeat (first | (with_reducible first | exact HB.out | apply below_alloc | apply pw_below_drewN | apply below_drew1 | refine below_set ?_ GE119.out | refine below_set ?_ GE121.out | refine below_set ?_ GE122.out) | exact HB.out))) : w.heap.size ≤ gb123)); have n7_ := Aside0.mk ((by rw [hg]; exact Nat.ne_of_lt (blk_lt (g := gb119) (o := .cells #[.int .i64 a2_0, .bool a2_1, .int .i64 a2_2] 78 (0, 0)) (by (with_reducible repeat (first | refine blk_drewN ?_ _ | refine blk_drew ?_ | refine blk_alloc ?_ _)); refine blk_far ?_ NB119_122.out _; (with_reducible repeat (first | refine blk_drewN ?_ _ | refine blk_drew ?_ | refine blk_alloc ?_ _)); refine blk_far ?_ NB119_122.out _; (with_reducible repeat (first | refine blk_drewN ?_ _ | refine blk_drew ?_ | refine blk_alloc ?_ _)); refine blk_far ?_ NB119_122.out _; (with_reducible repeat (first | refine blk_drewN ?_ _ | refine blk_drew ?_ | refine blk_alloc ?_ _)); exact BK119.out)) : gb119 ≠ gb123)); have n8_ := Aside0.mk ((by rw [hg]; exact Nat.ne_of_gt (blk_lt (g := gb119) (o := .cells #[.int .i64 a2_0, .bool a2_1, .int .i64 a2_2] 78 (0, 0)) (by (with_reducible repeat (first | refine blk_drewN ?_ _ | refine blk_drew ?_ | refine blk_alloc ?_ _)); refine blk_far ?_ NB119_122.out _; (with_reducible repeat (first | refine blk_drewN ?_ _ | refine blk_drew ?_ | refine blk_alloc ?_ _)); refine blk_far ?_ NB119_122.out _; (with_reducible repeat (first | refine blk_drewN ?_ _ | refine blk_drew ?_ | refine blk_alloc ?_ _)); refine blk_far ?_ NB119_122.out _; (with_reducible repeat (first | refine blk_drewN ?_ _ | refine blk_drew ?_ | refine blk_alloc ?_ _)); exact BK119.out)) : gb123 ≠ gb119)); have n9_ := Aside0.mk ((by rw [hg]; exact Nat.ne_of_lt (blk_lt (g := gb121) (o := .cells #[.int .i64 ((rd_T42 l0 a2_0).f0), .int .u64 ((rd_T42 l0 a2_0).f1.f0), .int .u64 ((rd_T42 l0 a2_0).f1.f1), .int .u64 ((rd_T42 l0 a2_0).f1.f2), .int .u64 ((rd_T42 l0 a2_0).f1.f3), .int .i64 ((rd_T42 l0 a2_0).f2.f0), .int .i64 ((rd_T42 l0 a2_0).f2.f1)] 42 (0, 0)) (by (with_reducible repeat (first | refine blk_drewN ?_ _ | refine blk_drew ?_ | refine blk_alloc ?_ _)); refine blk_far ?_ NB121_122.out _; (with_reducible repeat (first | refine blk_drewN ?_ _ | refine blk_drew ?_ | refine blk_alloc ?_ _)); refine blk_far ?_ NB121_122.out _; (with_reducible repeat (first | refine blk_drewN ?_ _ | refine blk_drew ?_ | refine blk_alloc ?_ _)); refine blk_far ?_ NB121_122.out _; (with_reducible repeat (first | refine blk_drewN ?_ _ | refine blk_drew ?_ | refine blk_alloc ?_ _)); exact BK121.out)) : gb121 ≠ gb123)); have n10_ := Aside0.mk ((by rw [hg]; exact Nat.ne_of_gt (blk_lt (g := gb121) (o := .cells #[.int .i64 ((rd_T42 l0 a2_0).f0), .int .u64 ((rd_T42 l0 a2_0).f1.f0), .int .u64 ((rd_T42 l0 a2_0).f1.f1), .int .u64 ((rd_T42 l0 a2_0).f1.f2), .int .u64 ((rd_T42 l0 a2_0).f1.f3), .int .i64 ((rd_T42 l0 a2_0).f2.f0), .int .i64 ((rd_T42 l0 a2_0).f2.f1)] 42 (0, 0)) (by (with_reducible repeat (first | refine blk_drewN ?_ _ | refine blk_drew ?_ | refine blk_alloc ?_ _)); refine blk_far ?_ NB121_122.out _; (with_reducible repeat (first | refine blk_drewN ?_ _ | refine blk_drew ?_ | refine blk_alloc ?_ _)); refine blk_far ?_ NB121_122.out _; (with_reducible repeat (first | refine blk_drewN ?_ _ | refine blk_drew ?_ | refine blk_alloc ?_ _)); refine blk_far ?_ NB121_122.out _; (with_reducible repeat (first | refine blk_drewN ?_ _ | refine blk_drew ?_ | refine blk_alloc ?_ _)); exact BK121.out)) : gb123 ≠ gb121)); have n11_ := Aside0.mk ((by rw [hg]; exact Nat.ne_of_lt (blk_lt (g := gb122) (o := .cells #[.int .i64 a2_0, .bool true, .int .i64 a2_2] 78 (0, 0)) (by (with_reducible repeat (first | refine blk_drewN ?_ _ | refine blk_drew ?_ | refine blk_alloc ?_ _)); refine blk_put (cs := #[.int .i64 a2_0, .bool true, .int .i64 0]) ?_ 2 _ rfl; (with_reducible repeat (first | refine blk_drewN ?_ _ | refine blk_drew ?_ | refine blk_alloc ?_ _)); refine blk_put (cs := #[.int .i64 a2_0, .bool false, .int .i64 0]) ?_ 1 _ rfl; (with_reducible repeat (first | refine blk_drewN ?_ _ | refine blk_drew ?_ | refine blk_alloc ?_ _)); refine blk_put (cs := #[.int .i64 0, .bool false, .int .i64 0]) ?_ 0 _ rfl; (with_reducible repeat (first | refine blk_drewN ?_ _ | refine blk_drew ?_ | refine blk_alloc ?_ _)); exact BK122.out)) : gb122 ≠ gb123)); have n12_ := Aside0.mk ((by rw [hg]; exact Nat.ne_of_gt (blk_lt (g := gb122) (o := .cells #[.int .i64 a2_0, .bool true, .int .i64 a2_2] 78 (0, 0)) (by (with_reducible repeat (first | refine blk_drewN ?_ _ | refine blk_drew ?_ | refine blk_alloc ?_ _)); refine blk_put (cs := #[.int .i64 a2_0, .bool true, .int .i64 0]) ?_ 2 _ rfl; (with_reducible repeat (first | refine blk_drewN ?_ _ | refine blk_drew ?_ | refine blk_alloc ?_ _)); refine blk_put (cs := #[.int .i64 a2_0, .bool false, .int .i64 0]) ?_ 1 _ rfl; (with_reducible repeat (first | refine blk_drewN ?_ _ | refine blk_drew ?_ | refine blk_alloc ?_ _)); refine blk_put (cs := #[.int .i64 0, .bool false, .int .i64 0]) ?_ 0 _ rfl; (with_reducible repeat (first | refine blk_drewN ?_ _ | refine blk_drew ?_ | refine blk_alloc ?_ _)); exact BK122.out)) : gb123 ≠ gb122)); clear BK119; clear BK121; clear BK122; clear HB; have BK119 := n0_; have BK121 := n1_; have BK122 := n2_; have HB := n3_; have BK123 := n4_; have GW123 := n5_; have GE123 := n6_; have NB119_123 := n7_; have NB123_119 := n8_; have NB121_123 := n9_; have NB123_121 := n10_; have NB122_123 := n11_; have NB123_122 := n12_; clear n0_ n1_ n2_ n3_ n4_ n5_ n6_ n7_ n8_ n9_ n10_ n11_ n12_; clear hb hbox hg; have hnb20 := NB123_119.out; have hnc20 := NB119_123.out; have hnb21 := NB123_121.out; have hnc21 := NB121_123.out; have hnb22 := NB123_122.out; have hnc22 := NB122_123.out; have hcz23_0 : w19.cell? ⟨gb123, 0, none⟩ = some (.int .i64 0) := (blk_cell BK123.out 0).trans rfl; have hcz23_1 : w19.cell? ⟨gb123, 1, none⟩ = some (.bool false) := (blk_cell BK123.out 1).trans rfl; have hcz23_2 : w19.cell? ⟨gb123, 2, none⟩ = some (.int .i64 0) := (blk_cell BK123.out 2).trans rfl; have hfz23_0 := blk_frozen BK123.out 0; have hfz23_1 := blk_frozen BK123.out 1; have hfz23_2 := blk_frozen BK123.out 2; have hcz24_0 : w19.cell? ⟨gb121, 0, none⟩ = some (.int .i64 ((rd_T42 l0 a2_0).f0)) := (blk_cell BK121.out 0).trans rfl; have hcz24_1 : w19.cell? ⟨gb121, 1, none⟩ = some (.int .u64 ((rd_T42 l0 a2_0).f1.f0)) := (blk_cell BK121.out 1).trans rfl; have hcz24_2 : w19.cell? ⟨gb121, 2, none⟩ = some (.int .u64 ((rd_T42 l0 a2_0).f1.f1)) := (blk_cell BK121.out 2).trans rfl; have hcz24_3 : w19.cell? ⟨gb121, 3, none⟩ = some (.int .u64 ((rd_T42 l0 a2_0).f1.f2)) := (blk_cell BK121.out 3).trans rfl; have hcz24_4 : w19.cell? ⟨gb121, 4, none⟩ = some (.int .u64 ((rd_T42 l0 a2_0).f1.f3)) := (blk_cell BK121.out 4).trans rfl; have hcz24_5 : w19.cell? ⟨gb121, 5, none⟩ = some (.int .i64 ((rd_T42 l0 a2_0).f2.f0)) := (blk_cell BK121.out 5).trans rfl; have hcz24_6 : w19.cell? ⟨gb121, 6, none⟩ = some (.int .i64 ((rd_T42 l0 a2_0).f2.f1)) := (blk_cell BK121.out 6).trans rfl; have hfz24_0 := blk_frozen BK121.out 0; have hfz24_1 := blk_frozen BK121.out 1; have hfz24_2 := blk_frozen BK121.out 2; have hfz24_3 := blk_frozen BK121.out 3; have hfz24_4 := blk_frozen BK121.out 4; have hfz24_5 := blk_frozen BK121.out 5; have hfz24_6 := blk_frozen BK121.out 6; have hcz25_0 : w19.cell? ⟨gb122, 0, none⟩ = some (.int .i64 a2_0) := (blk_cell BK122.out 0).trans rfl; have hcz25_1 : w19.cell? ⟨gb122, 1, none⟩ = some (.bool true) := (blk_cell BK122.out 1).trans rfl; have hcz25_2 : w19.cell? ⟨gb122, 2, none⟩ = some (.int .i64 a2_2) := (blk_cell BK122.out 2).trans rfl; have hfz25_0 := blk_frozen BK122.out 0; have hfz25_1 := blk_frozen BK122.out 1; have hfz25_2 := blk_frozen BK122.out 2) | ((with_reducible refine gate_dst (N := 31) rfl ?_); refine Kd.R_lit k78 _ 78 ?hg (N := 31) ?hd (xs := ([(⟨a2_0, true, a2_2⟩ : S78)] : List (S78))) (inner := [.int .i64 a2_0, .bool true, .int .i64 a2_2]) (ok := fun _ => True) (okp := fun _ => True) ?hr ?hp (fun _ hk => hk) trivial (Below.refl _ _) (Nat.le_refl _) (by simp) ?_; (case hd => rfl); (case hg => rfl); (case hr => first | (go_simp; done) | (go_simp; rfl)); (case hp => exact (Reps.c3 (show Kd.M k78 _ _ _ (⟨a2_0, true, a2_2⟩ : S78) [.int .i64 a2_0, .bool true, .int .i64 a2_2] from (k78_mkM _ _ _ (⟨a2_0, true, a2_2⟩ : S78) )) (Reps.none _ _))); intro v125 w26 ho27 hb hg_ hnew_; clear hg_ hnew_; (first | rw [← Ny124.out] at ho27 | (simp only [Int.reduceToNat] at ho27; rw [← Ny124.out] at ho27)); have n0_ := Aside0.mk (Kd.R_lower (Kd.R_newB (Kd.R_newB (Kd.R_newB ho27 (g := gb119) (o := .cells #[.int .i64 a2_0, .bool a2_1, .int .i64 a2_2] 78 (0, 0)) (by (with_reducible repeat (first | refine blk_drewN ?_ _ | refine blk_drew ?_ | refine blk_alloc ?_ _)); refine blk_far ?_ NB119_123.out _; (with_reducible repeat (first | refine blk_drewN ?_ _ | refine blk_drew ?_ | refine blk_alloc ?_ _)); refine blk_far ?_ NB119_123.out _; (with_reducible repeat (first | refine blk_drewN ?_ _ | refine blk_drew ?_ | refine blk_alloc ?_ _)); refine blk_far ?_ NB119_123.out _; (with_reducible repeat (first | refine blk_drewN ?_ _ | refine blk_drew ?_ | refine blk_alloc ?_ _)); exact BK119.out)) (g := gb122) (o := .cells #[.int .i64 a2_0, .bool true, .int .i64 a2_2] 78 (0, 0)) (by (with_reducible repeat (first | refine blk_drewN ?_ _ | refine blk_drew ?_ | refine blk_alloc ?_ _)); refine blk_far ?_ NB122_123.out _; (with_reducible repeat (first | refine blk_drewN ?_ _ | refine blk_drew ?_ | refine blk_alloc ?_ _)); refine blk_far ?_ NB122_123.out _; (with_reducible repeat (first | refine blk_drewN ?_ _ | refine blk_drew ?_ | refine blk_alloc ?_ _)); refine blk_far ?_ NB122_123.out _; (with_reducible repeat (first | refine blk_drewN ?_ _ | refine blk_drew ?_ | refine blk_alloc ?_ _)); exact BK122.out)) (g := gb123) (o := .cells #[.int .i64 ((rd_T42 l0 a2_0).f2.f0), .bool false, .int .i64 a2_2] 78 (0, 0)) (by (with_reducible repeat (first | refine blk_drewN ?_ _ | refine blk_drew ?_ | refine blk_alloc ?_ _)); refine blk_put (cs := #[.int .i64 ((rd_T42 l0 a2_0).f2.f0), .bool false, .int .i64 0]) ?_ 2 _ rfl; (with_reducible repeat (first | refine blk_drewN ?_ _ | refine blk_drew ?_ | refine blk_alloc ?_ _)); refine blk_put (cs := #[.int .i64 ((rd_T42 l0 a2_0).f2.f0), .bool false, .int .i64 0]) ?_ 1 _ rfl; (with_reducible repeat (first | refine blk_drewN ?_ _ | refine blk_drew ?_ | refine blk_alloc ?_ _)); refine blk_put (cs := #[.int .i64 0, .bool false, .int .i64 0]) ?_ 0 _ rfl; (with_reducible repeat (first | refine blk_drewN ?_ _ | refine blk_drew ?_ | refine blk_alloc ?_ _)); exact BK123.out)) (below_size (by repeat (first | (with_reducible first | exact HB.out | apply below_alloc | apply pw_below_drewN | apply below_drew1 | refine below_set ?_ GE119.out | refine below_set ?_ GE121.out | refine below_set ?_ GE122.out | refine below_set ?_ GE123.out) | exact HB.out)))); have n1_ := Aside0.mk (blk_below (g := gb119) (o := .cells #[.int .i64 a2_0, .bool a2_1, .int .i64 a2_2] 78 (0, 0)) (by (with_reducible repeat (first | refine blk_drewN ?_ _ | refine blk_drew ?_ | refine blk_alloc ?_ _)); refine blk_far ?_ NB119_123.out _; (with_reducible repeat (first | refine blk_drewN ?_ _ | refine blk_drew ?_ | refine blk_alloc ?_ _)); refine blk_far ?_ NB119_123.out _; (with_reducible repeat (first | refine blk_drewN ?_ _ | refine blk_drew ?_ | refine blk_alloc ?_ _)); refine blk_far ?_ NB119_123.out _; (with_reducible repeat (first | refine blk_drewN ?_ _ | refine blk_drew ?_ | refine blk_alloc ?_ _)); exact BK119.out) hb); have n2_ := Aside0.mk (blk_below (g := gb121) (o := .cells #[.int .i64 ((rd_T42 l0 a2_0).f0), .int .u64 ((rd_T42 l0 a2_0).f1.f0), .int .u64 ((rd_T42 l0 a2_0).f1.f1), .int .u64 ((rd_T42 l0 a2_0).f1.f2), .int .u64 ((rd_T42 l0 a2_0).f1.f3), .int .i64 ((rd_T42 l0 a2_0).f2.f0), .int .i64 ((rd_T42 l0 a2_0).f2.f1)] 42 (0, 0)) (by (with_reducible repeat (first | refine blk_drewN ?_ _ | refine blk_drew ?_ | refine blk_alloc ?_ _)); refine blk_far ?_ NB121_123.out _; (with_reducible repeat (first | refine blk_drewN ?_ _ | refine blk_drew ?_ | refine blk_alloc ?_ _)); refine blk_far ?_ NB121_123.out _; (with_reducible repeat (first | refine blk_drewN ?_ _ | refine blk_drew ?_ | refine blk_alloc ?_ _)); refine blk_far ?_ NB121_123.out _; (with_reducible repeat (first | refine blk_drewN ?_ _ | refine blk_drew ?_ | refine blk_alloc ?_ _)); exact BK121.out) hb); have n3_ := Aside0.mk (blk_below (g := gb122) (o := .cells #[.int .i64 a2_0, .bool true, .int .i64 a2_2] 78 (0, 0)) (by (with_reducible repeat (first | refine blk_drewN ?_ _ | refine blk_drew ?_ | refine blk_alloc ?_ _)); refine blk_far ?_ NB122_123.out _; (with_reducible repeat (first | refine blk_drewN ?_ _ | refine blk_drew ?_ | refine blk_alloc ?_ _)); refine blk_far ?_ NB122_123.out _; (with_reducible repeat (first | refine blk_drewN ?_ _ | refine blk_drew ?_ | refine blk_alloc ?_ _)); refine blk_far ?_ NB122_123.out _; (with_reducible repeat (first | refine blk_drewN ?_ _ | refine blk_drew ?_ | refine blk_alloc ?_ _)); exact BK122.out) hb); have n4_ := Aside0.mk (blk_below (g := gb123) (o := .cells #[.int .i64 ((rd_T42 l0 a2_0).f2.f0), .bool false, .int .i64 a2_2] 78 (0, 0)) (by (with_reducible repeat (first | refine blk_drewN ?_ _ | refine blk_drew ?_ | refine blk_alloc ?_ _)); refine blk_put (cs := #[.int .i64 ((rd_T42 l0 a2_0).f2.f0), .bool false, .int .i64 0]) ?_ 2 _ rfl; (with_reducible repeat (first | refine blk_drewN ?_ _ | refine blk_drew ?_ | refine blk_alloc ?_ _)); refine blk_put (cs := #[.int .i64 ((rd_T42 l0 a2_0).f2.f0), .bool false, .int .i64 0]) ?_ 1 _ rfl; (with_reducible repeat (first | refine blk_drewN ?_ _ | refine blk_drew ?_ | refine blk_alloc ?_ _)); refine blk_put (cs := #[.int .i64 0, .bool false, .int .i64 0]) ?_ 0 _ rfl; (with_reducible repeat (first | refine blk_drewN ?_ _ | refine blk_drew ?_ | refine blk_alloc ?_ _)); exact BK123.out) hb); have n5_ := Aside0.mk (below_step (by repeat (first | (with_reducible first | exact HB.out | apply below_alloc | apply pw_below_drewN | apply below_drew1 | refine below_set ?_ GE119.out | refine below_set ?_ GE121.out | refine below_set ?_ GE122.out | refine below_set ?_ GE123.out) | exact HB.out)) hb); clear BK119; clear BK121; clear BK122; clear BK123; clear HB; have HO126 := n0_; have BK119 := n1_; have BK121 := n2_; have BK122 := n3_; have BK123 := n4_; have HB := n5_; clear n0_ n1_ n2_ n3_ n4_ n5_; clear hb ho27))
        go_ret
        exact ⟨_, by first | rfl | (simp [errW_none, errW_some] <;> rfl) | (simp [*, errW_none, errW_some] <;> rfl), by (with_reducible repeat (first | apply Kd.R_alloc | apply Kd.R_drewN | apply Kd.R_drew)); exact Kd.R_mono HO126.out (fun _ hk => trivial), by repeat (first | (with_reducible first | exact HB.out | apply below_alloc | apply pw_below_drewN | apply below_drew1 | refine below_set ?_ GE119.out | refine below_set ?_ GE121.out | refine below_set ?_ GE122.out | refine below_set ?_ GE123.out) | exact HB.out)⟩
      · rw [if_neg c6] at H
        have c6b0 : (((rd_T42 l0 a2_0).f0) == 0) = false := beq_eq_false_iff_ne.mpr c6
        have c6b1 : (((rd_T42 l0 a2_0).f0) != 0) = true := bne_iff_ne.mpr c6
        by_cases c28 : ((rd_T42 l0 a2_0).f0) = 1
        · rw [if_pos c28] at H
          have c28b0 : (((rd_T42 l0 a2_0).f0) == 1) = true := beq_iff_eq.mpr c28
          have c28b1 : (((rd_T42 l0 a2_0).f0) != 1) = false := bne_eq_false_iff_eq.mpr c28
          clear c28
          have HC29 := Aside0.mk H
          clear H
          go_enter Try.func43, Try.ntmps43
          go_upto_region 8 with (first | ((with_reducible refine gate_dst (N := 5) rfl ?_); refine box_event ?hg (N := 5) ?hd (cs := #[.int .i64 a2_0, .bool a2_1, .int .i64 a2_2]) (t := 78) ?hr ?_; (case hd => rfl); (case hg => rfl); (case hr => first | (go_simp; done) | (go_simp; rfl)); intro gb119 hg w30 hbox hb; have n0_ := Aside0.mk (below_step (by repeat (first | (with_reducible first | exact HB.out | apply below_alloc | apply pw_below_drewN | apply below_drew1) | exact HB.out)) hb); have n1_ := Aside0.mk (hbox); have n2_ := Aside0.mk ((by rw [hg]; exact (below_size (by repeat (first | (with_reducible first | exact HB.out | apply below_alloc | apply pw_below_drewN | apply below_drew1) | exact HB.out))) : w.heap.size ≤ gb119)); have n3_ := Aside0.mk ((by rw [hg]; exact (below_size (by repeat (first | (with_reducible first | exact HB.out | apply below_alloc | apply pw_below_drewN | apply below_drew1) | exact HB.out))) : w.heap.size ≤ gb119)); clear HB; have HB := n0_; have BK119 := n1_; have GW119 := n2_; have GE119 := n3_; clear n0_ n1_ n2_ n3_; clear hb hbox hg; have hcz31_0 : w30.cell? ⟨gb119, 0, none⟩ = some (.int .i64 a2_0) := (blk_cell BK119.out 0).trans rfl; have hcz31_1 : w30.cell? ⟨gb119, 1, none⟩ = some (.bool a2_1) := (blk_cell BK119.out 1).trans rfl; have hcz31_2 : w30.cell? ⟨gb119, 2, none⟩ = some (.int .i64 a2_2) := (blk_cell BK119.out 2).trans rfl; have hfz31_0 := blk_frozen BK119.out 0; have hfz31_1 := blk_frozen BK119.out 1; have hfz31_2 := blk_frozen BK119.out 2; have p120 : 0 ≤ (a2_0 : Int) := of_decide_eq_true (by first | (with_reducible assumption) | assumption); have q120 : a2_0 < (l0.length : Int) := of_decide_eq_true (by first | (with_reducible assumption) | assumption); obtain ⟨ad120, e120, hx120_0, hx120_1, hx120_2, hx120_3, hx120_4, hx120_5, hx120_6⟩ := at_T42 HR0.out a2_0 p120 q120; cases e120; (try simp only [Int.toNat_natCast] at hx120_0); replace hx120_0 := (HB.out.cell (World.block_lt_of_cell? w _ hx120_0)).trans hx120_0; replace hx120_1 := (HB.out.cell (World.block_lt_of_cell? w _ hx120_1)).trans hx120_1; replace hx120_2 := (HB.out.cell (World.block_lt_of_cell? w _ hx120_2)).trans hx120_2; replace hx120_3 := (HB.out.cell (World.block_lt_of_cell? w _ hx120_3)).trans hx120_3; replace hx120_4 := (HB.out.cell (World.block_lt_of_cell? w _ hx120_4)).trans hx120_4; replace hx120_5 := (HB.out.cell (World.block_lt_of_cell? w _ hx120_5)).trans hx120_5; replace hx120_6 := (HB.out.cell (World.block_lt_of_cell? w _ hx120_6)).trans hx120_6; replace p120 := eq_true p120; replace q120 := eq_true q120) | ((with_reducible refine gate_dst (N := 7) rfl ?_); refine box_event ?hg (N := 7) ?hd (cs := #[.int .i64 0, .int .u64 0, .int .u64 0, .int .u64 0, .int .u64 0, .int .i64 0, .int .i64 0]) (t := 42) ?hr ?_; (case hd => rfl); (case hg => rfl); (case hr => first | (go_simp; done) | (go_simp; rfl)); intro gb121 hg w32 hbox hb; have n0_ := Aside0.mk (blk_below (g := gb119) (o := .cells #[.int .i64 a2_0, .bool a2_1, .int .i64 a2_2] 78 (0, 0)) (by (with_reducible repeat (first | refine blk_drewN ?_ _ | refine blk_drew ?_ | refine blk_alloc ?_ _)); exact BK119.out) hb); have n1_ := Aside0.mk (below_step (by repeat (first | (with_reducible first | exact HB.out | apply below_alloc | apply pw_below_drewN | apply below_drew1 | refine below_set ?_ GE119.out) | exact HB.out)) hb); have n2_ := Aside0.mk (hbox); have n3_ := Aside0.mk ((by rw [hg]; exact (below_size (by repeat (first | (with_reducible first | exact HB.out | apply below_alloc | apply pw_below_drewN | apply below_drew1 | refine below_set ?_ GE119.out) | exact HB.out))) : w.heap.size ≤ gb121)); have n4_ := Aside0.mk ((by rw [hg]; exact (below_size (by repeat (first | (with_reducible first | exact HB.out | apply below_alloc | apply pw_below_drewN | apply below_drew1 | refine below_set ?_ GE119.out) | exact HB.out))) : w.heap.size ≤ gb121)); have n5_ := Aside0.mk ((by rw [hg]; exact Nat.ne_of_lt (blk_lt (g := gb119) (o := .cells #[.int .i64 a2_0, .bool a2_1, .int .i64 a2_2] 78 (0, 0)) (by (with_reducible repeat (first | refine blk_drewN ?_ _ | refine blk_drew ?_ | refine blk_alloc ?_ _)); exact BK119.out)) : gb119 ≠ gb121)); have n6_ := Aside0.mk ((by rw [hg]; exact Nat.ne_of_gt (blk_lt (g := gb119) (o := .cells #[.int .i64 a2_0, .bool a2_1, .int .i64 a2_2] 78 (0, 0)) (by (with_reducible repeat (first | refine blk_drewN ?_ _ | refine blk_drew ?_ | refine blk_alloc ?_ _)); exact BK119.out)) : gb121 ≠ gb119)); clear BK119; clear HB; have BK119 := n0_; have HB := n1_; have BK121 := n2_; have GW121 := n3_; have GE121 := n4_; have NB119_121 := n5_; have NB121_119 := n6_; clear n0_ n1_ n2_ n3_ n4_ n5_ n6_; clear hb hbox hg; have hnb33 := NB121_119.out; have hnc33 := NB119_121.out; have hcz34_0 : w32.cell? ⟨gb121, 0, none⟩ = some (.int .i64 0) := (blk_cell BK121.out 0).trans rfl; have hcz34_1 : w32.cell? ⟨gb121, 1, none⟩ = some (.int .u64 0) := (blk_cell BK121.out 1).trans rfl; have hcz34_2 : w32.cell? ⟨gb121, 2, none⟩ = some (.int .u64 0) := (blk_cell BK121.out 2).trans rfl; have hcz34_3 : w32.cell? ⟨gb121, 3, none⟩ = some (.int .u64 0) := (blk_cell BK121.out 3).trans rfl; have hcz34_4 : w32.cell? ⟨gb121, 4, none⟩ = some (.int .u64 0) := (blk_cell BK121.out 4).trans rfl; have hcz34_5 : w32.cell? ⟨gb121, 5, none⟩ = some (.int .i64 0) := (blk_cell BK121.out 5).trans rfl; have hcz34_6 : w32.cell? ⟨gb121, 6, none⟩ = some (.int .i64 0) := (blk_cell BK121.out 6).trans rfl; have hfz34_0 := blk_frozen BK121.out 0; have hfz34_1 := blk_frozen BK121.out 1; have hfz34_2 := blk_frozen BK121.out 2; have hfz34_3 := blk_frozen BK121.out 3; have hfz34_4 := blk_frozen BK121.out 4; have hfz34_5 := blk_frozen BK121.out 5; have hfz34_6 := blk_frozen BK121.out 6; have hcz35_0 : w32.cell? ⟨gb119, 0, none⟩ = some (.int .i64 a2_0) := (blk_cell BK119.out 0).trans rfl; have hcz35_1 : w32.cell? ⟨gb119, 1, none⟩ = some (.bool a2_1) := (blk_cell BK119.out 1).trans rfl; have hcz35_2 : w32.cell? ⟨gb119, 2, none⟩ = some (.int .i64 a2_2) := (blk_cell BK119.out 2).trans rfl; have hfz35_0 := blk_frozen BK119.out 0; have hfz35_1 := blk_frozen BK119.out 1; have hfz35_2 := blk_frozen BK119.out 2) | ((with_reducible refine gate_dst (N := 8) rfl ?_); refine box_event ?hg (N := 8) ?hd (cs := #[.int .i64 0, .bool false, .int .i64 0]) (t := 78) ?hr ?_; (case hd => rfl); (case hg => rfl); (case hr => first | (go_simp; done) | (go_simp; rfl)); intro gb122 hg w36 hbox hb; have n0_ := Aside0.mk (blk_below (g := gb119) (o := .cells #[.int .i64 a2_0, .bool a2_1, .int .i64 a2_2] 78 (0, 0)) (by (with_reducible repeat (first | refine blk_drewN ?_ _ | refine blk_drew ?_ | refine blk_alloc ?_ _)); refine blk_far ?_ NB119_121.out _; (with_reducible repeat (first | refine blk_drewN ?_ _ | refine blk_drew ?_ | refine blk_alloc ?_ _)); refine blk_far ?_ NB119_121.out _; (with_reducible repeat (first | refine blk_drewN ?_ _ | refine blk_drew ?_ | refine blk_alloc ?_ _)); refine blk_far ?_ NB119_121.out _; (with_reducible repeat (first | refine blk_drewN ?_ _ | refine blk_drew ?_ | refine blk_alloc ?_ _)); refine blk_far ?_ NB119_121.out _; (with_reducible repeat (first | refine blk_drewN ?_ _ | refine blk_drew ?_ | refine blk_alloc ?_ _)); refine blk_far ?_ NB119_121.out _; (with_reducible repeat (first | refine blk_drewN ?_ _ | refine blk_drew ?_ | refine blk_alloc ?_ _)); refine blk_far ?_ NB119_121.out _; (with_reducible repeat (first | refine blk_drewN ?_ _ | refine blk_drew ?_ | refine blk_alloc ?_ _)); refine blk_far ?_ NB119_121.out _; (with_reducible repeat (first | refine blk_drewN ?_ _ | refine blk_drew ?_ | refine blk_alloc ?_ _)); exact BK119.out) hb); have n1_ := Aside0.mk (blk_below (g := gb121) (o := .cells #[.int .i64 ((rd_T42 l0 a2_0).f0), .int .u64 ((rd_T42 l0 a2_0).f1.f0), .int .u64 ((rd_T42 l0 a2_0).f1.f1), .int .u64 ((rd_T42 l0 a2_0).f1.f2), .int .u64 ((rd_T42 l0 a2_0).f1.f3), .int .i64 ((rd_T42 l0 a2_0).f2.f0), .int .i64 ((rd_T42 l0 a2_0).f2.f1)] 42 (0, 0)) (by (with_reducible repeat (first | refine blk_drewN ?_ _ | refine blk_drew ?_ | refine blk_alloc ?_ _)); refine blk_put (cs := #[.int .i64 ((rd_T42 l0 a2_0).f0), .int .u64 ((rd_T42 l0 a2_0).f1.f0), .int .u64 ((rd_T42 l0 a2_0).f1.f1), .int .u64 ((rd_T42 l0 a2_0).f1.f2), .int .u64 ((rd_T42 l0 a2_0).f1.f3), .int .i64 ((rd_T42 l0 a2_0).f2.f0), .int .i64 0]) ?_ 6 _ rfl; (with_reducible repeat (first | refine blk_drewN ?_ _ | refine blk_drew ?_ | refine blk_alloc ?_ _)); refine blk_put (cs := #[.int .i64 ((rd_T42 l0 a2_0).f0), .int .u64 ((rd_T42 l0 a2_0).f1.f0), .int .u64 ((rd_T42 l0 a2_0).f1.f1), .int .u64 ((rd_T42 l0 a2_0).f1.f2), .int .u64 ((rd_T42 l0 a2_0).f1.f3), .int .i64 0, .int .i64 0]) ?_ 5 _ rfl; (with_reducible repeat (first | refine blk_drewN ?_ _ | refine blk_drew ?_ | refine blk_alloc ?_ _)); refine blk_put (cs := #[.int .i64 ((rd_T42 l0 a2_0).f0), .int .u64 ((rd_T42 l0 a2_0).f1.f0), .int .u64 ((rd_T42 l0 a2_0).f1.f1), .int .u64 ((rd_T42 l0 a2_0).f1.f2), .int .u64 0, .int .i64 0, .int .i64 0]) ?_ 4 _ rfl; (with_reducible repeat (first | refine blk_drewN ?_ _ | refine blk_drew ?_ | refine blk_alloc ?_ _)); refine blk_put (cs := #[.int .i64 ((rd_T42 l0 a2_0).f0), .int .u64 ((rd_T42 l0 a2_0).f1.f0), .int .u64 ((rd_T42 l0 a2_0).f1.f1), .int .u64 0, .int .u64 0, .int .i64 0, .int .i64 0]) ?_ 3 _ rfl; (with_reducible repeat (first | refine blk_drewN ?_ _ | refine blk_drew ?_ | refine blk_alloc ?_ _)); refine blk_put (cs := #[.int .i64 ((rd_T42 l0 a2_0).f0), .int .u64 ((rd_T42 l0 a2_0).f1.f0), .int .u64 0, .int .u64 0, .int .u64 0, .int .i64 0, .int .i64 0]) ?_ 2 _ rfl; (with_reducible repeat (first | refine blk_drewN ?_ _ | refine blk_drew ?_ | refine blk_alloc ?_ _)); refine blk_put (cs := #[.int .i64 ((rd_T42 l0 a2_0).f0), .int .u64 0, .int .u64 0, .int .u64 0, .int .u64 0, .int .i64 0, .int .i64 0]) ?_ 1 _ rfl; (with_reducible repeat (first | refine blk_drewN ?_ _ | refine blk_drew ?_ | refine blk_alloc ?_ _)); refine blk_put (cs := #[.int .i64 0, .int .u64 0, .int .u64 0, .int .u64 0, .int .u64 0, .int .i64 0, .int .i64 0]) ?_ 0 _ rfl; (with_reducible repeat (first | refine blk_drewN ?_ _ | refine blk_drew ?_ | refine blk_alloc ?_ _)); exact BK121.out) hb); have n2_ := Aside0.mk (below_step (by repeat (first | (with_reducible first | exact HB.out | apply below_alloc | apply pw_below_drewN | apply below_drew1 | refine below_set ?_ GE119.out | refine below_set ?_ GE121.out) | exact HB.out)) hb); have n3_ := Aside0.mk (hbox); have n4_ := Aside0.mk ((by rw [hg]; exact (below_size (by repeat (first | (with_reducible first | exact HB.out | apply below_alloc | apply pw_below_drewN | apply below_drew1 | refine below_set ?_ GE119.out | refine below_set ?_ GE121.out) | exact HB.out))) : w.heap.size ≤ gb122)); have n5_ := Aside0.mk ((by rw [hg]; exact (below_size (by repeat (first | (with_reducible first | exact HB.out | apply below_alloc | apply pw_below_drewN | apply below_drew1 | refine below_set ?_ GE119.out | refine below_set ?_ GE121.out) | exact HB.out))) : w.heap.size ≤ gb122)); have n6_ := Aside0.mk ((by rw [hg]; exact Nat.ne_of_lt (blk_lt (g := gb119) (o := .cells #[.int .i64 a2_0, .bool a2_1, .int .i64 a2_2] 78 (0, 0)) (by (with_reducible repeat (first | refine blk_drewN ?_ _ | refine blk_drew ?_ | refine blk_alloc ?_ _)); refine blk_far ?_ NB119_121.out _; (with_reducible repeat (first | refine blk_drewN ?_ _ | refine blk_drew ?_ | refine blk_alloc ?_ _)); refine blk_far ?_ NB119_121.out _; (with_reducible repeat (first | refine blk_drewN ?_ _ | refine blk_drew ?_ | refine blk_alloc ?_ _)); refine blk_far ?_ NB119_121.out _; (with_reducible repeat (first | refine blk_drewN ?_ _ | refine blk_drew ?_ | refine blk_alloc ?_ _)); refine blk_far ?_ NB119_121.out _; (with_reducible repeat (first | refine blk_drewN ?_ _ | refine blk_drew ?_ | refine blk_alloc ?_ _)); refine blk_far ?_ NB119_121.out _; (with_reducible repeat (first | refine blk_drewN ?_ _ | refine blk_drew ?_ | refine blk_alloc ?_ _)); refine blk_far ?_ NB119_121.out _; (with_reducible repeat (first | refine blk_drewN ?_ _ | refine blk_drew ?_ | refine blk_alloc ?_ _)); refine blk_far ?_ NB119_121.out _; (with_reducible repeat (first | refine blk_drewN ?_ _ | refine blk_drew ?_ | refine blk_alloc ?_ _)); exact BK119.out)) : gb119 ≠ gb122)); have n7_ := Aside0.mk ((by rw [hg]; exact Nat.ne_of_gt (blk_lt (g := gb119) (o := .cells #[.int .i64 a2_0, .bool a2_1, .int .i64 a2_2] 78 (0, 0)) (by (with_reducible repeat (first | refine blk_drewN ?_ _ | refine blk_drew ?_ | refine blk_alloc ?_ _)); refine blk_far ?_ NB119_121.out _; (with_reducible repeat (first | refine blk_drewN ?_ _ | refine blk_drew ?_ | refine blk_alloc ?_ _)); refine blk_far ?_ NB119_121.out _; (with_reducible repeat (first | refine blk_drewN ?_ _ | refine blk_drew ?_ | refine blk_alloc ?_ _)); refine blk_far ?_ NB119_121.out _; (with_reducible repeat (first | refine blk_drewN ?_ _ | refine blk_drew ?_ | refine blk_alloc ?_ _)); refine blk_far ?_ NB119_121.out _; (with_reducible repeat (first | refine blk_drewN ?_ _ | refine blk_drew ?_ | refine blk_alloc ?_ _)); refine blk_far ?_ NB119_121.out _; (with_reducible repeat (first | refine blk_drewN ?_ _ | refine blk_drew ?_ | refine blk_alloc ?_ _)); refine blk_far ?_ NB119_121.out _; (with_reducible repeat (first | refine blk_drewN ?_ _ | refine blk_drew ?_ | refine blk_alloc ?_ _)); refine blk_far ?_ NB119_121.out _; (with_reducible repeat (first | refine blk_drewN ?_ _ | refine blk_drew ?_ | refine blk_alloc ?_ _)); exact BK119.out)) : gb122 ≠ gb119)); have n8_ := Aside0.mk ((by rw [hg]; exact Nat.ne_of_lt (blk_lt (g := gb121) (o := .cells #[.int .i64 ((rd_T42 l0 a2_0).f0), .int .u64 ((rd_T42 l0 a2_0).f1.f0), .int .u64 ((rd_T42 l0 a2_0).f1.f1), .int .u64 ((rd_T42 l0 a2_0).f1.f2), .int .u64 ((rd_T42 l0 a2_0).f1.f3), .int .i64 ((rd_T42 l0 a2_0).f2.f0), .int .i64 ((rd_T42 l0 a2_0).f2.f1)] 42 (0, 0)) (by (with_reducible repeat (first | refine blk_drewN ?_ _ | refine blk_drew ?_ | refine blk_alloc ?_ _)); refine blk_put (cs := #[.int .i64 ((rd_T42 l0 a2_0).f0), .int .u64 ((rd_T42 l0 a2_0).f1.f0), .int .u64 ((rd_T42 l0 a2_0).f1.f1), .int .u64 ((rd_T42 l0 a2_0).f1.f2), .int .u64 ((rd_T42 l0 a2_0).f1.f3), .int .i64 ((rd_T42 l0 a2_0).f2.f0), .int .i64 0]) ?_ 6 _ rfl; (with_reducible repeat (first | refine blk_drewN ?_ _ | refine blk_drew ?_ | refine blk_alloc ?_ _)); refine blk_put (cs := #[.int .i64 ((rd_T42 l0 a2_0).f0), .int .u64 ((rd_T42 l0 a2_0).f1.f0), .int .u64 ((rd_T42 l0 a2_0).f1.f1), .int .u64 ((rd_T42 l0 a2_0).f1.f2), .int .u64 ((rd_T42 l0 a2_0).f1.f3), .int .i64 0, .int .i64 0]) ?_ 5 _ rfl; (with_reducible repeat (first | refine blk_drewN ?_ _ | refine blk_drew ?_ | refine blk_alloc ?_ _)); refine blk_put (cs := #[.int .i64 ((rd_T42 l0 a2_0).f0), .int .u64 ((rd_T42 l0 a2_0).f1.f0), .int .u64 ((rd_T42 l0 a2_0).f1.f1), .int .u64 ((rd_T42 l0 a2_0).f1.f2), .int .u64 0, .int .i64 0, .int .i64 0]) ?_ 4 _ rfl; (with_reducible repeat (first | refine blk_drewN ?_ _ | refine blk_drew ?_ | refine blk_alloc ?_ _)); refine blk_put (cs := #[.int .i64 ((rd_T42 l0 a2_0).f0), .int .u64 ((rd_T42 l0 a2_0).f1.f0), .int .u64 ((rd_T42 l0 a2_0).f1.f1), .int .u64 0, .int .u64 0, .int .i64 0, .int .i64 0]) ?_ 3 _ rfl; (with_reducible repeat (first | refine blk_drewN ?_ _ | refine blk_drew ?_ | refine blk_alloc ?_ _)); refine blk_put (cs := #[.int .i64 ((rd_T42 l0 a2_0).f0), .int .u64 ((rd_T42 l0 a2_0).f1.f0), .int .u64 0, .int .u64 0, .int .u64 0, .int .i64 0, .int .i64 0]) ?_ 2 _ rfl; (with_reducible repeat (first | refine blk_drewN ?_ _ | refine blk_drew ?_ | refine blk_alloc ?_ _)); refine blk_put (cs := #[.int .i64 ((rd_T42 l0 a2_0).f0), .int .u64 0, .int .u64 0, .int .u64 0, .int .u64 0, .int .i64 0, .int .i64 0]) ?_ 1 _ rfl; (with_reducible repeat (first | refine blk_drewN ?_ _ | refine blk_drew ?_ | refine blk_alloc ?_ _)); refine blk_put (cs := #[.int .i64 0, .int .u64 0, .int .u64 0, .int .u64 0, .int .u64 0, .int .i64 0, .int .i64 0]) ?_ 0 _ rfl; (with_reducible repeat (first | refine blk_drewN ?_ _ | refine blk_drew ?_ | refine blk_alloc ?_ _)); exact BK121.out)) : gb121 ≠ gb122)); have n9_ := Aside0.mk ((by rw [hg]; exact Nat.ne_of_gt (blk_lt (g := gb121) (o := .cells #[.int .i64 ((rd_T42 l0 a2_0).f0), .int .u64 ((rd_T42 l0 a2_0).f1.f0), .int .u64 ((rd_T42 l0 a2_0).f1.f1), .int .u64 ((rd_T42 l0 a2_0).f1.f2), .int .u64 ((rd_T42 l0 a2_0).f1.f3), .int .i64 ((rd_T42 l0 a2_0).f2.f0), .int .i64 ((rd_T42 l0 a2_0).f2.f1)] 42 (0, 0)) (by (with_reducible repeat (first | refine blk_drewN ?_ _ | refine blk_drew ?_ | refine blk_alloc ?_ _)); refine blk_put (cs := #[.int .i64 ((rd_T42 l0 a2_0).f0), .int .u64 ((rd_T42 l0 a2_0).f1.f0), .int .u64 ((rd_T42 l0 a2_0).f1.f1), .int .u64 ((rd_T42 l0 a2_0).f1.f2), .int .u64 ((rd_T42 l0 a2_0).f1.f3), .int .i64 ((rd_T42 l0 a2_0).f2.f0), .int .i64 0]) ?_ 6 _ rfl; (with_reducible repeat (first | refine blk_drewN ?_ _ | refine blk_drew ?_ | refine blk_alloc ?_ _)); refine blk_put (cs := #[.int .i64 ((rd_T42 l0 a2_0).f0), .int .u64 ((rd_T42 l0 a2_0).f1.f0), .int .u64 ((rd_T42 l0 a2_0).f1.f1), .int .u64 ((rd_T42 l0 a2_0).f1.f2), .int .u64 ((rd_T42 l0 a2_0).f1.f3), .int .i64 0, .int .i64 0]) ?_ 5 _ rfl; (with_reducible repeat (first | refine blk_drewN ?_ _ | refine blk_drew ?_ | refine blk_alloc ?_ _)); refine blk_put (cs := #[.int .i64 ((rd_T42 l0 a2_0).f0), .int .u64 ((rd_T42 l0 a2_0).f1.f0), .int .u64 ((rd_T42 l0 a2_0).f1.f1), .int .u64 ((rd_T42 l0 a2_0).f1.f2), .int .u64 0, .int .i64 0, .int .i64 0]) ?_ 4 _ rfl; (with_reducible repeat (first | refine blk_drewN ?_ _ | refine blk_drew ?_ | refine blk_alloc ?_ _)); refine blk_put (cs := #[.int .i64 ((rd_T42 l0 a2_0).f0), .int .u64 ((rd_T42 l0 a2_0).f1.f0), .int .u64 ((rd_T42 l0 a2_0).f1.f1), .int .u64 0, .int .u64 0, .int .i64 0, .int .i64 0]) ?_ 3 _ rfl; (with_reducible repeat (first | refine blk_drewN ?_ _ | refine blk_drew ?_ | refine blk_alloc ?_ _)); refine blk_put (cs := #[.int .i64 ((rd_T42 l0 a2_0).f0), .int .u64 ((rd_T42 l0 a2_0).f1.f0), .int .u64 0, .int .u64 0, .int .u64 0, .int .i64 0, .int .i64 0]) ?_ 2 _ rfl; (with_reducible repeat (first | refine blk_drewN ?_ _ | refine blk_drew ?_ | refine blk_alloc ?_ _)); refine blk_put (cs := #[.int .i64 ((rd_T42 l0 a2_0).f0), .int .u64 0, .int .u64 0, .int .u64 0, .int .u64 0, .int .i64 0, .int .i64 0]) ?_ 1 _ rfl; (with_reducible repeat (first | refine blk_drewN ?_ _ | refine blk_drew ?_ | refine blk_alloc ?_ _)); refine blk_put (cs := #[.int .i64 0, .int .u64 0, .int .u64 0, .int .u64 0, .int .u64 0, .int .i64 0, .int .i64 0]) ?_ 0 _ rfl; (with_reducible repeat (first | refine blk_drewN ?_ _ | refine blk_drew ?_ | refine blk_alloc ?_ _)); exact BK121.out)) : gb122 ≠ gb121)); clear BK119; clear BK121; clear HB; have BK119 := n0_; have BK121 := n1_; have HB := n2_; have BK122 := n3_; have GW122 := n4_; have GE122 := n5_; have NB119_122 := n6_; have NB122_119 := n7_; have NB121_122 := n8_; have NB122_121 := n9_; clear n0_ n1_ n2_ n3_ n4_ n5_ n6_ n7_ n8_ n9_; clear hb hbox hg; have hnb37 := NB122_119.out; have hnc37 := NB119_122.out; have hnb38 := NB122_121.out; have hnc38 := NB121_122.out; have hcz39_0 : w36.cell? ⟨gb122, 0, none⟩ = some (.int .i64 0) := (blk_cell BK122.out 0).trans rfl; have hcz39_1 : w36.cell? ⟨gb122, 1, none⟩ = some (.bool false) := (blk_cell BK122.out 1).trans rfl; have hcz39_2 : w36.cell? ⟨gb122, 2, none⟩ = some (.int .i64 0) := (blk_cell BK122.out 2).trans rfl; have hfz39_0 := blk_frozen BK122.out 0; have hfz39_1 := blk_frozen BK122.out 1; have hfz39_2 := blk_frozen BK122.out 2; have hcz40_0 : w36.cell? ⟨gb121, 0, none⟩ = some (.int .i64 ((rd_T42 l0 a2_0).f0)) := (blk_cell BK121.out 0).trans rfl; have hcz40_1 : w36.cell? ⟨gb121, 1, none⟩ = some (.int .u64 ((rd_T42 l0 a2_0).f1.f0)) := (blk_cell BK121.out 1).trans rfl; have hcz40_2 : w36.cell? ⟨gb121, 2, none⟩ = some (.int .u64 ((rd_T42 l0 a2_0).f1.f1)) := (blk_cell BK121.out 2).trans rfl; have hcz40_3 : w36.cell? ⟨gb121, 3, none⟩ = some (.int .u64 ((rd_T42 l0 a2_0).f1.f2)) := (blk_cell BK121.out 3).trans rfl; have hcz40_4 : w36.cell? ⟨gb121, 4, none⟩ = some (.int .u64 ((rd_T42 l0 a2_0).f1.f3)) := (blk_cell BK121.out 4).trans rfl; have hcz40_5 : w36.cell? ⟨gb121, 5, none⟩ = some (.int .i64 ((rd_T42 l0 a2_0).f2.f0)) := (blk_cell BK121.out 5).trans rfl; have hcz40_6 : w36.cell? ⟨gb121, 6, none⟩ = some (.int .i64 ((rd_T42 l0 a2_0).f2.f1)) := (blk_cell BK121.out 6).trans rfl; have hfz40_0 := blk_frozen BK121.out 0; have hfz40_1 := blk_frozen BK121.out 1; have hfz40_2 := blk_frozen BK121.out 2; have hfz40_3 := blk_frozen BK121.out 3; have hfz40_4 := blk_frozen BK121.out 4; have hfz40_5 := blk_frozen BK121.out 5; have hfz40_6 := blk_frozen BK121.out 6; have hcz41_0 : w36.cell? ⟨gb119, 0, none⟩ = some (.int .i64 a2_0) := (blk_cell BK119.out 0).trans rfl; have hcz41_1 : w36.cell? ⟨gb119, 1, none⟩ = some (.bool a2_1) := (blk_cell BK119.out 1).trans rfl; have hcz41_2 : w36.cell? ⟨gb119, 2, none⟩ = some (.int .i64 a2_2) := (blk_cell BK119.out 2).trans rfl; have hfz41_0 := blk_frozen BK119.out 0; have hfz41_1 := blk_frozen BK119.out 1; have hfz41_2 := blk_frozen BK119.out 2) | ((with_reducible refine gate_dst (N := 9) rfl ?_); refine box_event ?hg (N := 9) ?hd (cs := #[.int .i64 0, .bool false, .int .i64 0]) (t := 78) ?hr ?_; (case hd => rfl); (case hg => rfl); (case hr => first | (go_simp; done) | (go_simp; rfl)); intro gb123 hg w42 hbox hb; have n0_ := Aside0.mk (blk_below (g := gb119) (o := .cells #[.int .i64 a2_0, .bool a2_1, .int .i64 a2_2] 78 (0, 0)) (by (with_reducible repeat (first | refine blk_drewN ?_ _ | refine blk_drew ?_ | refine blk_alloc ?_ _)); refine blk_far ?_ NB119_122.out _; (with_reducible repeat (first | refine blk_drewN ?_ _ | refine blk_drew ?_ | refine blk_alloc ?_ _)); refine blk_far ?_ NB119_122.out _; (with_reducible repeat (first | refine blk_drewN ?_ _ | refine blk_drew ?_ | refine blk_alloc ?_ _)); refine blk_far ?_ NB119_122.out _; (with_reducible repeat (first | refine blk_drewN ?_ _ | refine blk_drew ?_ | refine blk_alloc ?_ _)); exact BK119.out) hb); have n1_ := Aside0.mk (blk_below (g := gb121) (o := .cells #[.int .i64 ((rd_T42 l0 a2_0).f0), .int .u64 ((rd_T42 l0 a2_0).f1.f0), .int .u64 ((rd_T42 l0 a2_0).f1.f1), .int .u64 ((rd_T42 l0 a2_0).f1.f2), .int .u64 ((rd_T42 l0 a2_0).f1.f3), .int .i64 ((rd_T42 l0 a2_0).f2.f0), .int .i64 ((rd_T42 l0 a2_0).f2.f1)] 42 (0, 0)) (by (with_reducible repeat (first | refine blk_drewN ?_ _ | refine blk_drew ?_ | refine blk_alloc ?_ _)); refine blk_far ?_ NB121_122.out _; (with_reducible repeat (first | refine blk_drewN ?_ _ | refine blk_drew ?_ | refine blk_alloc ?_ _)); refine blk_far ?_ NB121_122.out _; (with_reducible repeat (first | refine blk_drewN ?_ _ | refine blk_drew ?_ | refine blk_alloc ?_ _)); refine blk_far ?_ NB121_122.out _; (with_reducible repeat (first | refine blk_drewN ?_ _ | refine blk_drew ?_ | refine blk_alloc ?_ _)); exact BK121.out) hb); have n2_ := Aside0.mk (blk_below (g := gb122) (o := .cells #[.int .i64 a2_0, .bool true, .int .i64 a2_2] 78 (0, 0)) (by (with_reducible repeat (first | refine blk_drewN ?_ _ | refine blk_drew ?_ | refine blk_alloc ?_ _)); refine blk_put (cs := #[.int .i64 a2_0, .bool true, .int .i64 0]) ?_ 2 _ rfl; (with_reducible repeat (first | refine blk_drewN ?_ _ | refine blk_drew ?_ | refine blk_alloc ?_ _)); refine blk_put (cs := #[.int .i64 a2_0, .bool false, .int .i64 0]) ?_ 1 _ rfl; (with_reducible repeat (first | refine blk_drewN ?_ _ | refine blk_drew ?_ | refine blk_alloc ?_ _)); refine blk_put (cs := #[.int .i64 0, .bool false, .int .i64 0]) ?_ 0 _ rfl; (with_reducible repeat (first | refine blk_drewN ?_ _ | refine blk_drew ?_ | refine blk_alloc ?_ _)); exact BK122.out) hb); have n3_ := Aside0.mk (below_step (by repeat (first | (with_reducible first | exact HB.out | apply below_alloc | apply pw_below_drewN | apply below_drew1 | refine below_set ?_ GE119.out | refine below_set ?_ GE121.out | refine below_set ?_ GE122.out) | exact HB.out)) hb); have n4_ := Aside0.mk (hbox); have n5_ := Aside0.mk ((by rw [hg]; exact (below_size (by repeat (first | (with_reducible first | exact HB.out | apply below_alloc | apply pw_below_drewN | apply below_drew1 | refine below_set ?_ GE119.out | refine below_set ?_ GE121.out | refine below_set ?_ GE122.out) | exact HB.out))) : w.heap.size ≤ gb123)); have n6_ := Aside0.mk ((by rw [hg]; exact (below_size (by repeat (first | (with_reducible first | exact HB.out | apply below_alloc | apply pw_below_drewN | apply below_drew1 | refine below_set ?_ GE119.out | refine below_set ?_ GE121.out | refine below_set ?_ GE122.out) | exact HB.out))) : w.heap.size ≤ gb123)); have n7_ := Aside0.mk ((by rw [hg]; exact Nat.ne_of_lt (blk_lt (g := gb119) (o := .cells #[.int .i64 a2_0, .bool a2_1, .int .i64 a2_2] 78 (0, 0)) (by (with_reducible repeat (first | refine blk_drewN ?_ _ | refine blk_drew ?_ | refine blk_alloc ?_ _)); refine blk_far ?_ NB119_122.out _; (with_reducible repeat (first | refine blk_drewN ?_ _ | refine blk_drew ?_ | refine blk_alloc ?_ _)); refine blk_far ?_ NB119_122.out _; (with_reducible repeat (first | refine blk_drewN ?_ _ | refine blk_drew ?_ | refine blk_alloc ?_ _)); refine blk_far ?_ NB119_122.out _; (with_reducible repeat (first | refine blk_drewN ?_ _ | refine blk_drew ?_ | refine blk_alloc ?_ _)); exact BK119.out)) : gb119 ≠ gb123)); have n8_ := Aside0.mk ((by rw [hg]; exact Nat.ne_of_gt (blk_lt (g := gb119) (o := .cells #[.int .i64 a2_0, .bool a2_1, .int .i64 a2_2] 78 (0, 0)) (by (with_reducible repeat (first | refine blk_drewN ?_ _ | refine blk_drew ?_ | refine blk_alloc ?_ _)); refine blk_far ?_ NB119_122.out _; (with_reducible repeat (first | refine blk_drewN ?_ _ | refine blk_drew ?_ | refine blk_alloc ?_ _)); refine blk_far ?_ NB119_122.out _; (with_reducible repeat (first | refine blk_drewN ?_ _ | refine blk_drew ?_ | refine blk_alloc ?_ _)); refine blk_far ?_ NB119_122.out _; (with_reducible repeat (first | refine blk_drewN ?_ _ | refine blk_drew ?_ | refine blk_alloc ?_ _)); exact BK119.out)) : gb123 ≠ gb119)); have n9_ := Aside0.mk ((by rw [hg]; exact Nat.ne_of_lt (blk_lt (g := gb121) (o := .cells #[.int .i64 ((rd_T42 l0 a2_0).f0), .int .u64 ((rd_T42 l0 a2_0).f1.f0), .int .u64 ((rd_T42 l0 a2_0).f1.f1), .int .u64 ((rd_T42 l0 a2_0).f1.f2), .int .u64 ((rd_T42 l0 a2_0).f1.f3), .int .i64 ((rd_T42 l0 a2_0).f2.f0), .int .i64 ((rd_T42 l0 a2_0).f2.f1)] 42 (0, 0)) (by (with_reducible repeat (first | refine blk_drewN ?_ _ | refine blk_drew ?_ | refine blk_alloc ?_ _)); refine blk_far ?_ NB121_122.out _; (with_reducible repeat (first | refine blk_drewN ?_ _ | refine blk_drew ?_ | refine blk_alloc ?_ _)); refine blk_far ?_ NB121_122.out _; (with_reducible repeat (first | refine blk_drewN ?_ _ | refine blk_drew ?_ | refine blk_alloc ?_ _)); refine blk_far ?_ NB121_122.out _; (with_reducible repeat (first | refine blk_drewN ?_ _ | refine blk_drew ?_ | refine blk_alloc ?_ _)); exact BK121.out)) : gb121 ≠ gb123)); have n10_ := Aside0.mk ((by rw [hg]; exact Nat.ne_of_gt (blk_lt (g := gb121) (o := .cells #[.int .i64 ((rd_T42 l0 a2_0).f0), .int .u64 ((rd_T42 l0 a2_0).f1.f0), .int .u64 ((rd_T42 l0 a2_0).f1.f1), .int .u64 ((rd_T42 l0 a2_0).f1.f2), .int .u64 ((rd_T42 l0 a2_0).f1.f3), .int .i64 ((rd_T42 l0 a2_0).f2.f0), .int .i64 ((rd_T42 l0 a2_0).f2.f1)] 42 (0, 0)) (by (with_reducible repeat (first | refine blk_drewN ?_ _ | refine blk_drew ?_ | refine blk_alloc ?_ _)); refine blk_far ?_ NB121_122.out _; (with_reducible repeat (first | refine blk_drewN ?_ _ | refine blk_drew ?_ | refine blk_alloc ?_ _)); refine blk_far ?_ NB121_122.out _; (with_reducible repeat (first | refine blk_drewN ?_ _ | refine blk_drew ?_ | refine blk_alloc ?_ _)); refine blk_far ?_ NB121_122.out _; (with_reducible repeat (first | refine blk_drewN ?_ _ | refine blk_drew ?_ | refine blk_alloc ?_ _)); exact BK121.out)) : gb123 ≠ gb121)); have n11_ := Aside0.mk ((by rw [hg]; exact Nat.ne_of_lt (blk_lt (g := gb122) (o := .cells #[.int .i64 a2_0, .bool true, .int .i64 a2_2] 78 (0, 0)) (by (with_reducible repeat (first | refine blk_drewN ?_ _ | refine blk_drew ?_ | refine blk_alloc ?_ _)); refine blk_put (cs := #[.int .i64 a2_0, .bool true, .int .i64 0]) ?_ 2 _ rfl; (with_reducible repeat (first | refine blk_drewN ?_ _ | refine blk_drew ?_ | refine blk_alloc ?_ _)); refine blk_put (cs := #[.int .i64 a2_0, .bool false, .int .i64 0]) ?_ 1 _ rfl; (with_reducible repeat (first | refine blk_drewN ?_ _ | refine blk_drew ?_ | refine blk_alloc ?_ _)); refine blk_put (cs := #[.int .i64 0, .bool false, .int .i64 0]) ?_ 0 _ rfl; (with_reducible repeat (first | refine blk_drewN ?_ _ | refine blk_drew ?_ | refine blk_alloc ?_ _)); exact BK122.out)) : gb122 ≠ gb123)); have n12_ := Aside0.mk ((by rw [hg]; exact Nat.ne_of_gt (blk_lt (g := gb122) (o := .cells #[.int .i64 a2_0, .bool true, .int .i64 a2_2] 78 (0, 0)) (by (with_reducible repeat (first | refine blk_drewN ?_ _ | refine blk_drew ?_ | refine blk_alloc ?_ _)); refine blk_put (cs := #[.int .i64 a2_0, .bool true, .int .i64 0]) ?_ 2 _ rfl; (with_reducible repeat (first | refine blk_drewN ?_ _ | refine blk_drew ?_ | refine blk_alloc ?_ _)); refine blk_put (cs := #[.int .i64 a2_0, .bool false, .int .i64 0]) ?_ 1 _ rfl; (with_reducible repeat (first | refine blk_drewN ?_ _ | refine blk_drew ?_ | refine blk_alloc ?_ _)); refine blk_put (cs := #[.int .i64 0, .bool false, .int .i64 0]) ?_ 0 _ rfl; (with_reducible repeat (first | refine blk_drewN ?_ _ | refine blk_drew ?_ | refine blk_alloc ?_ _)); exact BK122.out)) : gb123 ≠ gb122)); clear BK119; clear BK121; clear BK122; clear HB; have BK119 := n0_; have BK121 := n1_; have BK122 := n2_; have HB := n3_; have BK123 := n4_; have GW123 := n5_; have GE123 := n6_; have NB119_123 := n7_; have NB123_119 := n8_; have NB121_123 := n9_; have NB123_121 := n10_; have NB122_123 := n11_; have NB123_122 := n12_; clear n0_ n1_ n2_ n3_ n4_ n5_ n6_ n7_ n8_ n9_ n10_ n11_ n12_; clear hb hbox hg; have hnb43 := NB123_119.out; have hnc43 := NB119_123.out; have hnb44 := NB123_121.out; have hnc44 := NB121_123.out; have hnb45 := NB123_122.out; have hnc45 := NB122_123.out; have hcz46_0 : w42.cell? ⟨gb123, 0, none⟩ = some (.int .i64 0) := (blk_cell BK123.out 0).trans rfl; have hcz46_1 : w42.cell? ⟨gb123, 1, none⟩ = some (.bool false) := (blk_cell BK123.out 1).trans rfl; have hcz46_2 : w42.cell? ⟨gb123, 2, none⟩ = some (.int .i64 0) := (blk_cell BK123.out 2).trans rfl; have hfz46_0 := blk_frozen BK123.out 0; have hfz46_1 := blk_frozen BK123.out 1; have hfz46_2 := blk_frozen BK123.out 2; have hcz47_0 : w42.cell? ⟨gb121, 0, none⟩ = some (.int .i64 ((rd_T42 l0 a2_0).f0)) := (blk_cell BK121.out 0).trans rfl; have hcz47_1 : w42.cell? ⟨gb121, 1, none⟩ = some (.int .u64 ((rd_T42 l0 a2_0).f1.f0)) := (blk_cell BK121.out 1).trans rfl; have hcz47_2 : w42.cell? ⟨gb121, 2, none⟩ = some (.int .u64 ((rd_T42 l0 a2_0).f1.f1)) := (blk_cell BK121.out 2).trans rfl; have hcz47_3 : w42.cell? ⟨gb121, 3, none⟩ = some (.int .u64 ((rd_T42 l0 a2_0).f1.f2)) := (blk_cell BK121.out 3).trans rfl; have hcz47_4 : w42.cell? ⟨gb121, 4, none⟩ = some (.int .u64 ((rd_T42 l0 a2_0).f1.f3)) := (blk_cell BK121.out 4).trans rfl; have hcz47_5 : w42.cell? ⟨gb121, 5, none⟩ = some (.int .i64 ((rd_T42 l0 a2_0).f2.f0)) := (blk_cell BK121.out 5).trans rfl; have hcz47_6 : w42.cell? ⟨gb121, 6, none⟩ = some (.int .i64 ((rd_T42 l0 a2_0).f2.f1)) := (blk_cell BK121.out 6).trans rfl; have hfz47_0 := blk_frozen BK121.out 0; have hfz47_1 := blk_frozen BK121.out 1; have hfz47_2 := blk_frozen BK121.out 2; have hfz47_3 := blk_frozen BK121.out 3; have hfz47_4 := blk_frozen BK121.out 4; have hfz47_5 := blk_frozen BK121.out 5; have hfz47_6 := blk_frozen BK121.out 6))
          (try simp only [Act.put, List.setIfInBounds_toArray, List.set_cons_zero, List.set_cons_succ])
          go_cut [47] (fun v47 wc => ∃ (kq : Nat) (x47_28 : Bool), v47 = .bool x47_28 ∧ Aside0 (dragomanref06_within.j0 kq x47_28 a2_0 a2_1 a2_2 = some r) ∧ Aside0 (kq ≤ k) ∧ Aside0 (wc.heap[gb119]? = some (.cells #[.int .i64 a2_0, .bool a2_1, .int .i64 a2_2] 78 (0, 0))) ∧ Aside0 (wc.heap[gb121]? = some (.cells #[.int .i64 ((rd_T42 l0 a2_0).f0), .int .u64 ((rd_T42 l0 a2_0).f1.f0), .int .u64 ((rd_T42 l0 a2_0).f1.f1), .int .u64 ((rd_T42 l0 a2_0).f1.f2), .int .u64 ((rd_T42 l0 a2_0).f1.f3), .int .i64 ((rd_T42 l0 a2_0).f2.f0), .int .i64 ((rd_T42 l0 a2_0).f2.f1)] 42 (0, 0))) ∧ Aside0 (wc.heap[gb122]? = some (.cells #[.int .i64 a2_0, .bool true, .int .i64 a2_2] 78 (0, 0))) ∧ Aside0 (wc.heap[gb123]? = some (.cells #[.int .i64 ((rd_T42 l0 a2_0).f2.f0), .bool false, .int .i64 a2_2] 78 (0, 0))) ∧ Aside0 (Below w.heap.size w wc))
          case first =>
            have H := HC29.out
            clear HC29
            by_cases c48 : a2_2 < (a1.size : Int)
            · rw [if_pos c48] at H
              have c48b0 : decide (a2_2 < (a1.size : Int)) = true := decide_eq_true c48
              clear c48
              (first | rw [c48b0] | (simp only [i64_w, i32_w]; rw [c48b0]) | skip)
              by_cases c49 : 0 ≤ a2_2
              · rw [if_pos c49] at H
                have c49b0 : decide (0 ≤ a2_2) = true := decide_eq_true c49
                clear c49
                replace H := Option.bind_eq_some_iff.mp H
                obtain ⟨t127, A510, H⟩ := H
                replace H : (dragomanref06_within.j0 k t127 a2_0 a2_1 a2_2) = some r := H
                have A51 := Aside0.mk A510
                clear A510
                have H' := Aside0.mk H
                clear H
                try go_wp2
                have n0_ : Aside0 ((((w42.setCell ⟨gb123, 0, none⟩ (.int .i64 ((rd_T42 l0 a2_0).f2.f0))).setCell ⟨gb123, 1, none⟩ (.bool false)).setCell ⟨gb123, 2, none⟩ (.int .i64 a2_2)).heap[gb119]? = some (.cells #[.int .i64 a2_0, .bool a2_1, .int .i64 a2_2] 78 (0, 0))) := ⟨by (with_reducible repeat (first | refine blk_drewN ?_ _ | refine blk_drew ?_ | refine blk_alloc ?_ _)); refine blk_far ?_ NB119_123.out _; (with_reducible repeat (first | refine blk_drewN ?_ _ | refine blk_drew ?_ | refine blk_alloc ?_ _)); refine blk_far ?_ NB119_123.out _; (with_reducible repeat (first | refine blk_drewN ?_ _ | refine blk_drew ?_ | refine blk_alloc ?_ _)); refine blk_far ?_ NB119_123.out _; (with_reducible repeat (first | refine blk_drewN ?_ _ | refine blk_drew ?_ | refine blk_alloc ?_ _)); exact BK119.out⟩
                have n1_ : Aside0 ((((w42.setCell ⟨gb123, 0, none⟩ (.int .i64 ((rd_T42 l0 a2_0).f2.f0))).setCell ⟨gb123, 1, none⟩ (.bool false)).setCell ⟨gb123, 2, none⟩ (.int .i64 a2_2)).heap[gb121]? = some (.cells #[.int .i64 ((rd_T42 l0 a2_0).f0), .int .u64 ((rd_T42 l0 a2_0).f1.f0), .int .u64 ((rd_T42 l0 a2_0).f1.f1), .int .u64 ((rd_T42 l0 a2_0).f1.f2), .int .u64 ((rd_T42 l0 a2_0).f1.f3), .int .i64 ((rd_T42 l0 a2_0).f2.f0), .int .i64 ((rd_T42 l0 a2_0).f2.f1)] 42 (0, 0))) := ⟨by (with_reducible repeat (first | refine blk_drewN ?_ _ | refine blk_drew ?_ | refine blk_alloc ?_ _)); refine blk_far ?_ NB121_123.out _; (with_reducible repeat (first | refine blk_drewN ?_ _ | refine blk_drew ?_ | refine blk_alloc ?_ _)); refine blk_far ?_ NB121_123.out _; (with_reducible repeat (first | refine blk_drewN ?_ _ | refine blk_drew ?_ | refine blk_alloc ?_ _)); refine blk_far ?_ NB121_123.out _; (with_reducible repeat (first | refine blk_drewN ?_ _ | refine blk_drew ?_ | refine blk_alloc ?_ _)); exact BK121.out⟩
                have n2_ : Aside0 ((((w42.setCell ⟨gb123, 0, none⟩ (.int .i64 ((rd_T42 l0 a2_0).f2.f0))).setCell ⟨gb123, 1, none⟩ (.bool false)).setCell ⟨gb123, 2, none⟩ (.int .i64 a2_2)).heap[gb122]? = some (.cells #[.int .i64 a2_0, .bool true, .int .i64 a2_2] 78 (0, 0))) := ⟨by (with_reducible repeat (first | refine blk_drewN ?_ _ | refine blk_drew ?_ | refine blk_alloc ?_ _)); refine blk_far ?_ NB122_123.out _; (with_reducible repeat (first | refine blk_drewN ?_ _ | refine blk_drew ?_ | refine blk_alloc ?_ _)); refine blk_far ?_ NB122_123.out _; (with_reducible repeat (first | refine blk_drewN ?_ _ | refine blk_drew ?_ | refine blk_alloc ?_ _)); refine blk_far ?_ NB122_123.out _; (with_reducible repeat (first | refine blk_drewN ?_ _ | refine blk_drew ?_ | refine blk_alloc ?_ _)); exact BK122.out⟩
                have n3_ : Aside0 ((((w42.setCell ⟨gb123, 0, none⟩ (.int .i64 ((rd_T42 l0 a2_0).f2.f0))).setCell ⟨gb123, 1, none⟩ (.bool false)).setCell ⟨gb123, 2, none⟩ (.int .i64 a2_2)).heap[gb123]? = some (.cells #[.int .i64 ((rd_T42 l0 a2_0).f2.f0), .bool false, .int .i64 a2_2] 78 (0, 0))) := ⟨by (with_reducible repeat (first | refine blk_drewN ?_ _ | refine blk_drew ?_ | refine blk_alloc ?_ _)); refine blk_put (cs := #[.int .i64 ((rd_T42 l0 a2_0).f2.f0), .bool false, .int .i64 0]) ?_ 2 _ rfl; (with_reducible repeat (first | refine blk_drewN ?_ _ | refine blk_drew ?_ | refine blk_alloc ?_ _)); refine blk_put (cs := #[.int .i64 ((rd_T42 l0 a2_0).f2.f0), .bool false, .int .i64 0]) ?_ 1 _ rfl; (with_reducible repeat (first | refine blk_drewN ?_ _ | refine blk_drew ?_ | refine blk_alloc ?_ _)); refine blk_put (cs := #[.int .i64 0, .bool false, .int .i64 0]) ?_ 0 _ rfl; (with_reducible repeat (first | refine blk_drewN ?_ _ | refine blk_drew ?_ | refine blk_alloc ?_ _)); exact BK123.out⟩
                have n4_ : Aside0 (Below w.heap.size w (((w42.setCell ⟨gb123, 0, none⟩ (.int .i64 ((rd_T42 l0 a2_0).f2.f0))).setCell ⟨gb123, 1, none⟩ (.bool false)).setCell ⟨gb123, 2, none⟩ (.int .i64 a2_2))) := ⟨by repeat (first | (with_reducible first | exact HB.out | apply below_alloc | apply pw_below_drewN | apply below_drew1 | refine below_set ?_ GE119.out | refine below_set ?_ GE121.out | refine below_set ?_ GE122.out | refine below_set ?_ GE123.out) | exact HB.out)⟩
                (try clear BK119)
                (try clear BK121)
                (try clear BK122)
                (try clear BK123)
                (try clear HB)
                generalize (((w42.setCell ⟨gb123, 0, none⟩ (.int .i64 ((rd_T42 l0 a2_0).f2.f0))).setCell ⟨gb123, 1, none⟩ (.bool false)).setCell ⟨gb123, 2, none⟩ (.int .i64 a2_2)) = w52 at n0_ n1_ n2_ n3_ n4_ ⊢
                have BK119 := n0_
                have BK121 := n1_
                have BK122 := n2_
                have BK123 := n3_
                have HB := n4_
                clear n0_ n1_ n2_ n3_ n4_
                have n0_ := Aside0.mk (blk_drew BK119.out)
                have n1_ := Aside0.mk (blk_drew BK121.out)
                have n2_ := Aside0.mk (blk_drew BK122.out)
                have n3_ := Aside0.mk (blk_drew BK123.out)
                have n4_ := Aside0.mk (below_drew1 HB.out)
                clear BK119
                clear BK121
                clear BK122
                clear BK123
                clear HB
                have BK119 := n0_
                have BK121 := n1_
                have BK122 := n2_
                have BK123 := n3_
                have HB := n4_
                clear n0_ n1_ n2_ n3_ n4_
                have p50 : 0 ≤ (a2_2 : Int) := of_decide_eq_true (by first | (with_reducible assumption) | assumption)
                have q50 : a2_2 < (a1.size : Int) := of_decide_eq_true (by first | (with_reducible assumption) | assumption)
                have hx50 := bt_at a1 a2_2
                replace p50 := eq_true p50
                replace q50 := eq_true q50
                refine start_ (n := 14) (S := fun w' => w'.cell? ⟨gb119, 0, none⟩ = some (.int .i64 a2_0) ∧ w'.cell? ⟨gb119, 1, none⟩ = some (.bool a2_1) ∧ w'.cell? ⟨gb119, 2, none⟩ = some (.int .i64 a2_2) ∧ w'.cell? ⟨gb121, 0, none⟩ = some (.int .i64 ((rd_T42 l0 a2_0).f0)) ∧ w'.cell? ⟨gb121, 1, none⟩ = some (.int .u64 ((rd_T42 l0 a2_0).f1.f0)) ∧ w'.cell? ⟨gb121, 2, none⟩ = some (.int .u64 ((rd_T42 l0 a2_0).f1.f1)) ∧ w'.cell? ⟨gb121, 3, none⟩ = some (.int .u64 ((rd_T42 l0 a2_0).f1.f2)) ∧ w'.cell? ⟨gb121, 4, none⟩ = some (.int .u64 ((rd_T42 l0 a2_0).f1.f3)) ∧ w'.cell? ⟨gb121, 5, none⟩ = some (.int .i64 ((rd_T42 l0 a2_0).f2.f0)) ∧ w'.cell? ⟨gb121, 6, none⟩ = some (.int .i64 ((rd_T42 l0 a2_0).f2.f1))) (ds := []) #[false, false, false, false, false, false, false, false, false, false, false, false, false, false] (by kernel_rfl) rfl rfl ⟨(blk_cell BK119.out 0).trans rfl, (blk_cell BK119.out 1).trans rfl, (blk_cell BK119.out 2).trans rfl, (blk_cell BK121.out 0).trans rfl, (blk_cell BK121.out 1).trans rfl, (blk_cell BK121.out 2).trans rfl, (blk_cell BK121.out 3).trans rfl, (blk_cell BK121.out 4).trans rfl, (blk_cell BK121.out 5).trans rfl, (blk_cell BK121.out 6).trans rfl⟩ (fun hHeld => ?_); refine with_tabW dragomanref06_within.tab8 dragomanref06_within.bits8 (fun HT_ HW_ => ?_)
                generalize w52.drew = w53 at BK119 BK121 BK122 BK123 HB hHeld ⊢
                refine pure_ (i := 0) (N := some 34) (v := ?_) (a' := ?_) #[true, false, false, false, false, false, false, false, false, false, false, false, false, false] rfl rfl (any_of HT_.out (by kernel_rfl)) (fun _ _ _ h => h) (Or.inl ⟨by rfl, ?_⟩) ?_ ?_
                rotate_left
                · intro w'
                  go_simp
                  with_reducible rfl
                rotate_left
                · simp only [Act.put, List.setIfInBounds_toArray, List.set_cons_zero, List.set_cons_succ, i64_w, i32_w]
                  rfl
                refine pure_ (i := 2) (N := some 36) (v := ?_) (a' := ?_) #[true, false, true, false, false, false, false, false, false, false, false, false, false, false] rfl rfl (any_of HT_.out (by kernel_rfl)) (fun _ _ _ h => h) (Or.inl ⟨by rfl, ?_⟩) ?_ ?_
                rotate_left
                · intro w'
                  go_simp
                  with_reducible rfl
                rotate_left
                · simp only [Act.put, List.setIfInBounds_toArray, List.set_cons_zero, List.set_cons_succ, i64_w, i32_w]
                  rfl
                refine pure_ (i := 3) (N := some 37) (v := ?_) (a' := ?_) #[true, false, true, true, false, false, false, false, false, false, false, false, false, false] rfl rfl (any_of HT_.out (by kernel_rfl)) (fun _ _ _ h => h) (Or.inl ⟨by rfl, ?_⟩) ?_ ?_
                rotate_left
                · intro w'
                  go_simp
                  with_reducible rfl
                rotate_left
                · simp only [Act.put, List.setIfInBounds_toArray, List.set_cons_zero, List.set_cons_succ, i64_w, i32_w]
                  rfl
                refine take_ (i := 1) (N := some 35) (v := ?_) (a' := ?_) #[true, true, true, true, false, false, false, false, false, false, false, false, false, false] rfl rfl (take_ofW HT_.out HW_.out (by kernel_rfl)) (fun _ _ _ h => h) (Or.inl ⟨by rfl, ?_⟩) hHeld ?_ ?_
                rotate_left
                · rintro w' ⟨s0, s1, s2, s3, s4, s5, s6, s7, s8, s9⟩
                  go_simp
                  with_reducible rfl
                rotate_left
                · simp only [Act.put, List.setIfInBounds_toArray, List.set_cons_zero, List.set_cons_succ, i64_w, i32_w]
                  rfl
                refine pure_ (i := 4) (N := some 38) (v := ?_) (a' := ?_) #[true, true, true, true, true, false, false, false, false, false, false, false, false, false] rfl rfl (any_of HT_.out (by kernel_rfl)) (fun _ _ _ h => h) (Or.inl ⟨by rfl, ?_⟩) ?_ ?_
                rotate_left
                · intro w'
                  go_simp
                  with_reducible rfl
                rotate_left
                · simp only [Act.put, List.setIfInBounds_toArray, List.set_cons_zero, List.set_cons_succ, i64_w, i32_w]
                  rfl
                refine pure_ (i := 5) (N := some 39) (v := ?_) (a' := ?_) #[true, true, true, true, true, true, false, false, false, false, false, false, false, false] rfl rfl (any_of HT_.out (by kernel_rfl)) (fun _ _ _ h => h) (Or.inl ⟨by rfl, ?_⟩) ?_ ?_
                rotate_left
                · intro w'
                  go_simp
                  with_reducible rfl
                rotate_left
                · simp only [Act.put, List.setIfInBounds_toArray, List.set_cons_zero, List.set_cons_succ, i64_w, i32_w]
                  rfl
                refine pure_ (i := 6) (N := some 40) (v := ?_) (a' := ?_) #[true, true, true, true, true, true, true, false, false, false, false, false, false, false] rfl rfl (any_of HT_.out (by kernel_rfl)) (fun _ _ _ h => h) (Or.inl ⟨by rfl, ?_⟩) ?_ ?_
                rotate_left
                · intro w'
                  go_simp
                  with_reducible rfl
                rotate_left
                · simp only [Act.put, List.setIfInBounds_toArray, List.set_cons_zero, List.set_cons_succ, i64_w, i32_w]
                  rfl
                refine pure_ (i := 8) (N := some 42) (v := ?_) (a' := ?_) #[true, true, true, true, true, true, true, false, true, false, false, false, false, false] rfl rfl (any_of HT_.out (by kernel_rfl)) (fun _ _ _ h => h) (Or.inl ⟨by rfl, ?_⟩) ?_ ?_
                rotate_left
                · intro w'
                  go_simp
                  with_reducible rfl
                rotate_left
                · simp only [Act.put, List.setIfInBounds_toArray, List.set_cons_zero, List.set_cons_succ, i64_w, i32_w]
                  rfl
                refine pure_ (i := 9) (N := some 43) (v := ?_) (a' := ?_) #[true, true, true, true, true, true, true, false, true, true, false, false, false, false] rfl rfl (any_of HT_.out (by kernel_rfl)) (fun _ _ _ h => h) (Or.inl ⟨by rfl, ?_⟩) ?_ ?_
                rotate_left
                · intro w'
                  go_simp
                  with_reducible rfl
                rotate_left
                · simp only [Act.put, List.setIfInBounds_toArray, List.set_cons_zero, List.set_cons_succ, i64_w, i32_w]
                  rfl
                refine take_ (i := 7) (N := some 41) (v := ?_) (a' := ?_) #[true, true, true, true, true, true, true, true, true, true, false, false, false, false] rfl rfl (take_ofW HT_.out HW_.out (by kernel_rfl)) (fun _ _ _ h => h) (Or.inl ⟨by rfl, ?_⟩) hHeld ?_ ?_
                rotate_left
                · rintro w' ⟨s0, s1, s2, s3, s4, s5, s6, s7, s8, s9⟩
                  go_simp
                  with_reducible rfl
                rotate_left
                · simp only [Act.put, List.setIfInBounds_toArray, List.set_cons_zero, List.set_cons_succ, i64_w, i32_w]
                  rfl
                refine take_ (i := 10) (N := some 44) (v := ?_) (a' := ?_) #[true, true, true, true, true, true, true, true, true, true, true, false, false, false] rfl rfl (take_ofW HT_.out HW_.out (by kernel_rfl)) (fun _ _ _ h => h) (Or.inl ⟨by rfl, ?_⟩) hHeld ?_ ?_
                rotate_left
                · rintro w' ⟨s0, s1, s2, s3, s4, s5, s6, s7, s8, s9⟩
                  go_simp
                  with_reducible rfl
                rotate_left
                · simp only [Act.put, List.setIfInBounds_toArray, List.set_cons_zero, List.set_cons_succ, i64_w, i32_w]
                  rfl
                refine take_ (i := 11) (N := some 45) (v := ?_) (a' := ?_) #[true, true, true, true, true, true, true, true, true, true, true, true, false, false] rfl rfl (take_ofW HT_.out HW_.out (by kernel_rfl)) (fun _ _ _ h => h) (Or.inl ⟨by rfl, ?_⟩) hHeld ?_ ?_
                rotate_left
                · rintro w' ⟨s0, s1, s2, s3, s4, s5, s6, s7, s8, s9⟩
                  go_simp
                  with_reducible rfl
                rotate_left
                · simp only [Act.put, List.setIfInBounds_toArray, List.set_cons_zero, List.set_cons_succ, i64_w, i32_w]
                  rfl
                refine one_ (i := 12) (N := some 46) #[true, true, true, true, true, true, true, true, true, true, true, true, true, false] rfl rfl (one_of HT_.out (by kernel_rfl)) (by decide) (fun K hK => ?_)
                refine goes_ Try.func17 (by kernel_rfl) rfl #[.agg #[.int .u64 ((rd_T42 l0 a2_0).f1.f0), .int .u64 ((rd_T42 l0 a2_0).f1.f1), .int .u64 ((rd_T42 l0 a2_0).f1.f2), .int .u64 ((rd_T42 l0 a2_0).f1.f3)], .int .u8 (bt a1 a2_2)] (by rfl) rfl rfl (by (try simp only [List.map_toArray, List.map_cons, List.map_nil]); first | done | rfl | (simp only [List.length_drop, List.length_take]; rfl)) ?_
                with_reducible refine (ref04_Has.calls ((rd_T42 l0 a2_0).f1.f0) ((rd_T42 l0 a2_0).f1.f1) ((rd_T42 l0 a2_0).f1.f2) ((rd_T42 l0 a2_0).f1.f3) (bt a1 a2_2) t127 _ A51.out).mono ?_
                rintro e w54 ⟨rfl, hb⟩
                refine ⟨_, rfl, ?_⟩
                have n0_ := Aside0.mk (blk_below (g := gb119) (o := .cells #[.int .i64 a2_0, .bool a2_1, .int .i64 a2_2] 78 (0, 0)) (by (with_reducible repeat (first | refine blk_drewN ?_ _ | refine blk_drew ?_ | refine blk_alloc ?_ _)); exact BK119.out) hb)
                have n1_ := Aside0.mk (blk_below (g := gb121) (o := .cells #[.int .i64 ((rd_T42 l0 a2_0).f0), .int .u64 ((rd_T42 l0 a2_0).f1.f0), .int .u64 ((rd_T42 l0 a2_0).f1.f1), .int .u64 ((rd_T42 l0 a2_0).f1.f2), .int .u64 ((rd_T42 l0 a2_0).f1.f3), .int .i64 ((rd_T42 l0 a2_0).f2.f0), .int .i64 ((rd_T42 l0 a2_0).f2.f1)] 42 (0, 0)) (by (with_reducible repeat (first | refine blk_drewN ?_ _ | refine blk_drew ?_ | refine blk_alloc ?_ _)); exact BK121.out) hb)
                have n2_ := Aside0.mk (blk_below (g := gb122) (o := .cells #[.int .i64 a2_0, .bool true, .int .i64 a2_2] 78 (0, 0)) (by (with_reducible repeat (first | refine blk_drewN ?_ _ | refine blk_drew ?_ | refine blk_alloc ?_ _)); exact BK122.out) hb)
                have n3_ := Aside0.mk (blk_below (g := gb123) (o := .cells #[.int .i64 ((rd_T42 l0 a2_0).f2.f0), .bool false, .int .i64 a2_2] 78 (0, 0)) (by (with_reducible repeat (first | refine blk_drewN ?_ _ | refine blk_drew ?_ | refine blk_alloc ?_ _)); exact BK123.out) hb)
                have n4_ := Aside0.mk (below_step (by repeat (first | (with_reducible first | exact HB.out | apply below_alloc | apply pw_below_drewN | apply below_drew1 | refine below_set ?_ GE119.out | refine below_set ?_ GE121.out | refine below_set ?_ GE122.out | refine below_set ?_ GE123.out) | exact HB.out)) hb)
                clear BK119
                clear BK121
                clear BK122
                clear BK123
                clear HB
                have BK119 := n0_
                have BK121 := n1_
                have BK122 := n2_
                have BK123 := n3_
                have HB := n4_
                clear n0_ n1_ n2_ n3_ n4_
                (try clear hb)
                (try clear hb2)
                (try clear hk)
                (try clear hi)
                refine hK.out _ _ ⟨(blk_cell BK119.out 0).trans rfl, (blk_cell BK119.out 1).trans rfl, (blk_cell BK119.out 2).trans rfl, (blk_cell BK121.out 0).trans rfl, (blk_cell BK121.out 1).trans rfl, (blk_cell BK121.out 2).trans rfl, (blk_cell BK121.out 3).trans rfl, (blk_cell BK121.out 4).trans rfl, (blk_cell BK121.out 5).trans rfl, (blk_cell BK121.out 6).trans rfl⟩ (fun hHeld => ?_)
                clear hK K
                refine norm_ (a' := ?_) ?_ ?_
                rotate_left
                · show Act.put _ (some 46) _ = _
                  simp only [Act.put, List.setIfInBounds_toArray, List.set_cons_zero, List.set_cons_succ, i64_w, i32_w]
                  rfl
                refine pure_ (i := 13) (N := some 47) (v := ?_) (a' := ?_) #[true, true, true, true, true, true, true, true, true, true, true, true, true, true] rfl rfl (any_of HT_.out (by kernel_rfl)) (fun _ _ _ h => h) (Or.inl ⟨by rfl, ?_⟩) ?_ ?_
                rotate_left
                · intro w'
                  go_simp
                  with_reducible rfl
                rotate_left
                · simp only [Act.put, List.setIfInBounds_toArray, List.set_cons_zero, List.set_cons_succ, i64_w, i32_w]
                  rfl
                refine done_ (done_of HT_.out (by kernel_rfl)) ?_
                try go_wp2
                go_meet
                case rel => exact ⟨_, (t127), (by first | rfl | (simp; done) | (simp [*]; done)), H', ⟨by first | omega | exact Nat.le_refl _⟩, ⟨by (with_reducible repeat (first | refine blk_drewN ?_ _ | refine blk_drew ?_ | refine blk_alloc ?_ _)); exact BK119.out⟩, ⟨by (with_reducible repeat (first | refine blk_drewN ?_ _ | refine blk_drew ?_ | refine blk_alloc ?_ _)); exact BK121.out⟩, ⟨by (with_reducible repeat (first | refine blk_drewN ?_ _ | refine blk_drew ?_ | refine blk_alloc ?_ _)); exact BK122.out⟩, ⟨by (with_reducible repeat (first | refine blk_drewN ?_ _ | refine blk_drew ?_ | refine blk_alloc ?_ _)); exact BK123.out⟩, ⟨by repeat (first | (with_reducible first | exact HB.out | apply below_alloc | apply pw_below_drewN | apply below_drew1 | refine below_set ?_ GE119.out | refine below_set ?_ GE121.out | refine below_set ?_ GE122.out | refine below_set ?_ GE123.out) | exact HB.out)⟩⟩
              · rw [if_neg c49] at H
                exact absurd H (by simp)
            · rw [if_neg c48] at H
              have c48b0 : decide (a2_2 < (a1.size : Int)) = false := decide_eq_false c48
              clear c48
              (first | rw [c48b0] | (simp only [i64_w, i32_w]; rw [c48b0]) | skip)
              have H' := Aside0.mk H
              clear H
              try go_wp2
              have n0_ : Aside0 ((((w42.setCell ⟨gb123, 0, none⟩ (.int .i64 ((rd_T42 l0 a2_0).f2.f0))).setCell ⟨gb123, 1, none⟩ (.bool false)).setCell ⟨gb123, 2, none⟩ (.int .i64 a2_2)).heap[gb119]? = some (.cells #[.int .i64 a2_0, .bool a2_1, .int .i64 a2_2] 78 (0, 0))) := ⟨by (with_reducible repeat (first | refine blk_drewN ?_ _ | refine blk_drew ?_ | refine blk_alloc ?_ _)); refine blk_far ?_ NB119_123.out _; (with_reducible repeat (first | refine blk_drewN ?_ _ | refine blk_drew ?_ | refine blk_alloc ?_ _)); refine blk_far ?_ NB119_123.out _; (with_reducible repeat (first | refine blk_drewN ?_ _ | refine blk_drew ?_ | refine blk_alloc ?_ _)); refine blk_far ?_ NB119_123.out _; (with_reducible repeat (first | refine blk_drewN ?_ _ | refine blk_drew ?_ | refine blk_alloc ?_ _)); exact BK119.out⟩
              have n1_ : Aside0 ((((w42.setCell ⟨gb123, 0, none⟩ (.int .i64 ((rd_T42 l0 a2_0).f2.f0))).setCell ⟨gb123, 1, none⟩ (.bool false)).setCell ⟨gb123, 2, none⟩ (.int .i64 a2_2)).heap[gb121]? = some (.cells #[.int .i64 ((rd_T42 l0 a2_0).f0), .int .u64 ((rd_T42 l0 a2_0).f1.f0), .int .u64 ((rd_T42 l0 a2_0).f1.f1), .int .u64 ((rd_T42 l0 a2_0).f1.f2), .int .u64 ((rd_T42 l0 a2_0).f1.f3), .int .i64 ((rd_T42 l0 a2_0).f2.f0), .int .i64 ((rd_T42 l0 a2_0).f2.f1)] 42 (0, 0))) := ⟨by (with_reducible repeat (first | refine blk_drewN ?_ _ | refine blk_drew ?_ | refine blk_alloc ?_ _)); refine blk_far ?_ NB121_123.out _; (with_reducible repeat (first | refine blk_drewN ?_ _ | refine blk_drew ?_ | refine blk_alloc ?_ _)); refine blk_far ?_ NB121_123.out _; (with_reducible repeat (first | refine blk_drewN ?_ _ | refine blk_drew ?_ | refine blk_alloc ?_ _)); refine blk_far ?_ NB121_123.out _; (with_reducible repeat (first | refine blk_drewN ?_ _ | refine blk_drew ?_ | refine blk_alloc ?_ _)); exact BK121.out⟩
              have n2_ : Aside0 ((((w42.setCell ⟨gb123, 0, none⟩ (.int .i64 ((rd_T42 l0 a2_0).f2.f0))).setCell ⟨gb123, 1, none⟩ (.bool false)).setCell ⟨gb123, 2, none⟩ (.int .i64 a2_2)).heap[gb122]? = some (.cells #[.int .i64 a2_0, .bool true, .int .i64 a2_2] 78 (0, 0))) := ⟨by (with_reducible repeat (first | refine blk_drewN ?_ _ | refine blk_drew ?_ | refine blk_alloc ?_ _)); refine blk_far ?_ NB122_123.out _; (with_reducible repeat (first | refine blk_drewN ?_ _ | refine blk_drew ?_ | refine blk_alloc ?_ _)); refine blk_far ?_ NB122_123.out _; (with_reducible repeat (first | refine blk_drewN ?_ _ | refine blk_drew ?_ | refine blk_alloc ?_ _)); refine blk_far ?_ NB122_123.out _; (with_reducible repeat (first | refine blk_drewN ?_ _ | refine blk_drew ?_ | refine blk_alloc ?_ _)); exact BK122.out⟩
              have n3_ : Aside0 ((((w42.setCell ⟨gb123, 0, none⟩ (.int .i64 ((rd_T42 l0 a2_0).f2.f0))).setCell ⟨gb123, 1, none⟩ (.bool false)).setCell ⟨gb123, 2, none⟩ (.int .i64 a2_2)).heap[gb123]? = some (.cells #[.int .i64 ((rd_T42 l0 a2_0).f2.f0), .bool false, .int .i64 a2_2] 78 (0, 0))) := ⟨by (with_reducible repeat (first | refine blk_drewN ?_ _ | refine blk_drew ?_ | refine blk_alloc ?_ _)); refine blk_put (cs := #[.int .i64 ((rd_T42 l0 a2_0).f2.f0), .bool false, .int .i64 0]) ?_ 2 _ rfl; (with_reducible repeat (first | refine blk_drewN ?_ _ | refine blk_drew ?_ | refine blk_alloc ?_ _)); refine blk_put (cs := #[.int .i64 ((rd_T42 l0 a2_0).f2.f0), .bool false, .int .i64 0]) ?_ 1 _ rfl; (with_reducible repeat (first | refine blk_drewN ?_ _ | refine blk_drew ?_ | refine blk_alloc ?_ _)); refine blk_put (cs := #[.int .i64 0, .bool false, .int .i64 0]) ?_ 0 _ rfl; (with_reducible repeat (first | refine blk_drewN ?_ _ | refine blk_drew ?_ | refine blk_alloc ?_ _)); exact BK123.out⟩
              have n4_ : Aside0 (Below w.heap.size w (((w42.setCell ⟨gb123, 0, none⟩ (.int .i64 ((rd_T42 l0 a2_0).f2.f0))).setCell ⟨gb123, 1, none⟩ (.bool false)).setCell ⟨gb123, 2, none⟩ (.int .i64 a2_2))) := ⟨by repeat (first | (with_reducible first | exact HB.out | apply below_alloc | apply pw_below_drewN | apply below_drew1 | refine below_set ?_ GE119.out | refine below_set ?_ GE121.out | refine below_set ?_ GE122.out | refine below_set ?_ GE123.out) | exact HB.out)⟩
              (try clear BK119)
              (try clear BK121)
              (try clear BK122)
              (try clear BK123)
              (try clear HB)
              generalize (((w42.setCell ⟨gb123, 0, none⟩ (.int .i64 ((rd_T42 l0 a2_0).f2.f0))).setCell ⟨gb123, 1, none⟩ (.bool false)).setCell ⟨gb123, 2, none⟩ (.int .i64 a2_2)) = w55 at n0_ n1_ n2_ n3_ n4_ ⊢
              have BK119 := n0_
              have BK121 := n1_
              have BK122 := n2_
              have BK123 := n3_
              have HB := n4_
              clear n0_ n1_ n2_ n3_ n4_
              have n0_ := Aside0.mk (blk_drew BK119.out)
              have n1_ := Aside0.mk (blk_drew BK121.out)
              have n2_ := Aside0.mk (blk_drew BK122.out)
              have n3_ := Aside0.mk (blk_drew BK123.out)
              have n4_ := Aside0.mk (below_drew1 HB.out)
              clear BK119
              clear BK121
              clear BK122
              clear BK123
              clear HB
              have BK119 := n0_
              have BK121 := n1_
              have BK122 := n2_
              have BK123 := n3_
              have HB := n4_
              clear n0_ n1_ n2_ n3_ n4_
              refine start_ (n := 14) (S := fun w' => w'.cell? ⟨gb119, 0, none⟩ = some (.int .i64 a2_0) ∧ w'.cell? ⟨gb119, 1, none⟩ = some (.bool a2_1) ∧ w'.cell? ⟨gb119, 2, none⟩ = some (.int .i64 a2_2)) (ds := []) #[false, false, false, false, false, false, false, false, false, false, false, false, false, false] (by kernel_rfl) rfl rfl ⟨(blk_cell BK119.out 0).trans rfl, (blk_cell BK119.out 1).trans rfl, (blk_cell BK119.out 2).trans rfl⟩ (fun hHeld => ?_); refine with_tabW dragomanref06_within.tab8 dragomanref06_within.bits8 (fun HT_ HW_ => ?_)
              generalize w55.drew = w56 at BK119 BK121 BK122 BK123 HB hHeld ⊢
              refine pure_ (i := 0) (N := some 34) (v := ?_) (a' := ?_) #[true, false, false, false, false, false, false, false, false, false, false, false, false, false] rfl rfl (any_of HT_.out (by kernel_rfl)) (fun _ _ _ h => h) (Or.inl ⟨by rfl, ?_⟩) ?_ ?_
              rotate_left
              · intro w'
                go_simp
                with_reducible rfl
              rotate_left
              · simp only [Act.put, List.setIfInBounds_toArray, List.set_cons_zero, List.set_cons_succ, i64_w, i32_w]
                rfl
              refine pure_ (i := 2) (N := some 36) (v := ?_) (a' := ?_) #[true, false, true, false, false, false, false, false, false, false, false, false, false, false] rfl rfl (any_of HT_.out (by kernel_rfl)) (fun _ _ _ h => h) (Or.inl ⟨by rfl, ?_⟩) ?_ ?_
              rotate_left
              · intro w'
                go_simp
                with_reducible rfl
              rotate_left
              · simp only [Act.put, List.setIfInBounds_toArray, List.set_cons_zero, List.set_cons_succ, i64_w, i32_w]
                rfl
              refine pure_ (i := 3) (N := some 37) (v := ?_) (a' := ?_) #[true, false, true, true, false, false, false, false, false, false, false, false, false, false] rfl rfl (any_of HT_.out (by kernel_rfl)) (fun _ _ _ h => h) (Or.inl ⟨by rfl, ?_⟩) ?_ ?_
              rotate_left
              · intro w'
                go_simp
                with_reducible rfl
              rotate_left
              · simp only [Act.put, List.setIfInBounds_toArray, List.set_cons_zero, List.set_cons_succ, i64_w, i32_w]
                rfl
              refine take_ (i := 1) (N := some 35) (v := ?_) (a' := ?_) #[true, true, true, true, false, false, false, false, false, false, false, false, false, false] rfl rfl (take_ofW HT_.out HW_.out (by kernel_rfl)) (fun _ _ _ h => h) (Or.inl ⟨by rfl, ?_⟩) hHeld ?_ ?_
              rotate_left
              · rintro w' ⟨s0, s1, s2⟩
                go_simp
                with_reducible rfl
              rotate_left
              · simp only [Act.put, List.setIfInBounds_toArray, List.set_cons_zero, List.set_cons_succ, i64_w, i32_w]
                rfl
              refine pure_ (i := 4) (N := some 38) (v := ?_) (a' := ?_) #[true, true, true, true, true, false, false, false, false, false, false, false, false, false] rfl rfl (any_of HT_.out (by kernel_rfl)) (fun _ _ _ h => h) (Or.inl ⟨by rfl, ?_⟩) ?_ ?_
              rotate_left
              · intro w'
                go_simp
                with_reducible rfl
              rotate_left
              · simp only [Act.put, List.setIfInBounds_toArray, List.set_cons_zero, List.set_cons_succ, i64_w, i32_w]
                rfl
              refine pure_ (i := 5) (N := some 39) (v := ?_) (a' := ?_) #[true, true, true, true, true, true, false, false, false, false, false, false, false, false] rfl rfl (any_of HT_.out (by kernel_rfl)) (fun _ _ _ h => h) (Or.inl ⟨by rfl, ?_⟩) ?_ ?_
              rotate_left
              · intro w'
                go_simp
                with_reducible rfl
              rotate_left
              · simp only [Act.put, List.setIfInBounds_toArray, List.set_cons_zero, List.set_cons_succ, i64_w, i32_w]
                rfl
              refine pure_ (i := 6) (N := some 40) (v := undef) (a' := ?_) #[true, true, true, true, true, true, true, false, false, false, false, false, false, false] rfl rfl (any_of HT_.out (by kernel_rfl)) (fun _ _ _ h => h) (Or.inr ⟨by rfl, rfl⟩) ?_ ?_
              rotate_left
              · simp only [Act.put, List.setIfInBounds_toArray, List.set_cons_zero, List.set_cons_succ, i64_w, i32_w]
                rfl
              refine pure_ (i := 7) (N := some 41) (v := undef) (a' := ?_) #[true, true, true, true, true, true, true, true, false, false, false, false, false, false] rfl rfl (any_of HT_.out (by kernel_rfl)) (fun _ _ _ h => h) (Or.inr ⟨by rfl, rfl⟩) ?_ ?_
              rotate_left
              · simp only [Act.put, List.setIfInBounds_toArray, List.set_cons_zero, List.set_cons_succ, i64_w, i32_w]
                rfl
              refine pure_ (i := 8) (N := some 42) (v := undef) (a' := ?_) #[true, true, true, true, true, true, true, true, true, false, false, false, false, false] rfl rfl (any_of HT_.out (by kernel_rfl)) (fun _ _ _ h => h) (Or.inr ⟨by rfl, rfl⟩) ?_ ?_
              rotate_left
              · simp only [Act.put, List.setIfInBounds_toArray, List.set_cons_zero, List.set_cons_succ, i64_w, i32_w]
                rfl
              refine pure_ (i := 9) (N := some 43) (v := undef) (a' := ?_) #[true, true, true, true, true, true, true, true, true, true, false, false, false, false] rfl rfl (any_of HT_.out (by kernel_rfl)) (fun _ _ _ h => h) (Or.inr ⟨by rfl, rfl⟩) ?_ ?_
              rotate_left
              · simp only [Act.put, List.setIfInBounds_toArray, List.set_cons_zero, List.set_cons_succ, i64_w, i32_w]
                rfl
              refine pure_ (i := 10) (N := some 44) (v := undef) (a' := ?_) #[true, true, true, true, true, true, true, true, true, true, true, false, false, false] rfl rfl (any_of HT_.out (by kernel_rfl)) (fun _ _ _ h => h) (Or.inr ⟨by rfl, rfl⟩) ?_ ?_
              rotate_left
              · simp only [Act.put, List.setIfInBounds_toArray, List.set_cons_zero, List.set_cons_succ, i64_w, i32_w]
                rfl
              refine pure_ (i := 11) (N := some 45) (v := undef) (a' := ?_) #[true, true, true, true, true, true, true, true, true, true, true, true, false, false] rfl rfl (any_of HT_.out (by kernel_rfl)) (fun _ _ _ h => h) (Or.inr ⟨by rfl, rfl⟩) ?_ ?_
              rotate_left
              · simp only [Act.put, List.setIfInBounds_toArray, List.set_cons_zero, List.set_cons_succ, i64_w, i32_w]
                rfl
              refine pure_ (i := 12) (N := some 46) (v := undef) (a' := ?_) #[true, true, true, true, true, true, true, true, true, true, true, true, true, false] rfl rfl (any_of HT_.out (by kernel_rfl)) (fun _ _ _ h => h) (Or.inr ⟨by rfl, rfl⟩) ?_ ?_
              rotate_left
              · simp only [Act.put, List.setIfInBounds_toArray, List.set_cons_zero, List.set_cons_succ, i64_w, i32_w]
                rfl
              refine pure_ (i := 13) (N := some 47) (v := ?_) (a' := ?_) #[true, true, true, true, true, true, true, true, true, true, true, true, true, true] rfl rfl (any_of HT_.out (by kernel_rfl)) (fun _ _ _ h => h) (Or.inl ⟨by rfl, ?_⟩) ?_ ?_
              rotate_left
              · intro w'
                go_simp
                with_reducible rfl
              rotate_left
              · simp only [Act.put, List.setIfInBounds_toArray, List.set_cons_zero, List.set_cons_succ, i64_w, i32_w]
                rfl
              refine done_ (done_of HT_.out (by kernel_rfl)) ?_
              try go_wp2
              go_meet
              case rel => exact ⟨_, (false), (by first | rfl | (simp; done) | (simp [*]; done)), H', ⟨by first | omega | exact Nat.le_refl _⟩, ⟨by (with_reducible repeat (first | refine blk_drewN ?_ _ | refine blk_drew ?_ | refine blk_alloc ?_ _)); exact BK119.out⟩, ⟨by (with_reducible repeat (first | refine blk_drewN ?_ _ | refine blk_drew ?_ | refine blk_alloc ?_ _)); exact BK121.out⟩, ⟨by (with_reducible repeat (first | refine blk_drewN ?_ _ | refine blk_drew ?_ | refine blk_alloc ?_ _)); exact BK122.out⟩, ⟨by (with_reducible repeat (first | refine blk_drewN ?_ _ | refine blk_drew ?_ | refine blk_alloc ?_ _)); exact BK123.out⟩, ⟨by repeat (first | (with_reducible first | exact HB.out | apply below_alloc | apply pw_below_drewN | apply below_drew1 | refine below_set ?_ GE119.out | refine below_set ?_ GE121.out | refine below_set ?_ GE122.out | refine below_set ?_ GE123.out) | exact HB.out)⟩⟩
          case rest =>
            clear HC29
            try clear c1
            try clear p1
            try clear q1
            try clear hx1
            try clear c2
            try clear p2
            try clear c3
            try clear c4
            try clear c4b0
            try clear c5
            try clear c5b0
            try clear p5
            try clear q5
            try clear hx5
            try clear c6
            try clear c6b0
            try clear c6b1
            try clear c10
            try clear p12
            try clear q12
            try clear hx12
            try clear c14
            try clear c15
            try clear c17
            try clear c20
            try clear c21
            try clear c22
            try clear c28
            try clear c28b0
            try clear c28b1
            try clear c33
            try clear c37
            try clear c38
            try clear c43
            try clear c44
            try clear c45
            try clear c48
            try clear c48b0
            try clear c49
            try clear c49b0
            try clear p50
            try clear q50
            try clear hx50
            try clear hcz11_0
            try clear hcz11_1
            try clear hcz11_2
            try clear hcz11_3
            try clear hcz11_4
            try clear hcz11_5
            try clear hcz11_6
            try clear hcz12_0
            try clear hcz12_1
            try clear hcz12_2
            try clear hcz16_0
            try clear hcz16_1
            try clear hcz16_2
            try clear hcz17_0
            try clear hcz17_1
            try clear hcz17_2
            try clear hcz17_3
            try clear hcz17_4
            try clear hcz17_5
            try clear hcz17_6
            try clear hcz18_0
            try clear hcz18_1
            try clear hcz18_2
            try clear hcz23_0
            try clear hcz23_1
            try clear hcz23_2
            try clear hcz24_0
            try clear hcz24_1
            try clear hcz24_2
            try clear hcz24_3
            try clear hcz24_4
            try clear hcz24_5
            try clear hcz24_6
            try clear hcz25_0
            try clear hcz25_1
            try clear hcz25_2
            try clear hcz31_0
            try clear hcz31_1
            try clear hcz31_2
            try clear hcz34_0
            try clear hcz34_1
            try clear hcz34_2
            try clear hcz34_3
            try clear hcz34_4
            try clear hcz34_5
            try clear hcz34_6
            try clear hcz35_0
            try clear hcz35_1
            try clear hcz35_2
            try clear hcz39_0
            try clear hcz39_1
            try clear hcz39_2
            try clear hcz40_0
            try clear hcz40_1
            try clear hcz40_2
            try clear hcz40_3
            try clear hcz40_4
            try clear hcz40_5
            try clear hcz40_6
            try clear hcz41_0
            try clear hcz41_1
            try clear hcz41_2
            try clear hcz46_0
            try clear hcz46_1
            try clear hcz46_2
            try clear hcz47_0
            try clear hcz47_1
            try clear hcz47_2
            try clear hcz47_3
            try clear hcz47_4
            try clear hcz47_5
            try clear hcz47_6
            try clear hcz8_0
            try clear hcz8_1
            try clear hcz8_2
            try clear hfz11_0
            try clear hfz11_1
            try clear hfz11_2
            try clear hfz11_3
            try clear hfz11_4
            try clear hfz11_5
            try clear hfz11_6
            try clear hfz12_0
            try clear hfz12_1
            try clear hfz12_2
            try clear hfz16_0
            try clear hfz16_1
            try clear hfz16_2
            try clear hfz17_0
            try clear hfz17_1
            try clear hfz17_2
            try clear hfz17_3
            try clear hfz17_4
            try clear hfz17_5
            try clear hfz17_6
            try clear hfz18_0
            try clear hfz18_1
            try clear hfz18_2
            try clear hfz23_0
            try clear hfz23_1
            try clear hfz23_2
            try clear hfz24_0
            try clear hfz24_1
            try clear hfz24_2
            try clear hfz24_3
            try clear hfz24_4
            try clear hfz24_5
            try clear hfz24_6
            try clear hfz25_0
            try clear hfz25_1
            try clear hfz25_2
            try clear hfz31_0
            try clear hfz31_1
            try clear hfz31_2
            try clear hfz34_0
            try clear hfz34_1
            try clear hfz34_2
            try clear hfz34_3
            try clear hfz34_4
            try clear hfz34_5
            try clear hfz34_6
            try clear hfz35_0
            try clear hfz35_1
            try clear hfz35_2
            try clear hfz39_0
            try clear hfz39_1
            try clear hfz39_2
            try clear hfz40_0
            try clear hfz40_1
            try clear hfz40_2
            try clear hfz40_3
            try clear hfz40_4
            try clear hfz40_5
            try clear hfz40_6
            try clear hfz41_0
            try clear hfz41_1
            try clear hfz41_2
            try clear hfz46_0
            try clear hfz46_1
            try clear hfz46_2
            try clear hfz47_0
            try clear hfz47_1
            try clear hfz47_2
            try clear hfz47_3
            try clear hfz47_4
            try clear hfz47_5
            try clear hfz47_6
            try clear hfz8_0
            try clear hfz8_1
            try clear hfz8_2
            try clear hx120_0
            try clear hx120_1
            try clear hx120_2
            try clear hx120_3
            try clear hx120_4
            try clear hx120_5
            try clear hx120_6
            try clear p120
            try clear p50
            try clear q120
            try clear q50
            obtain ⟨kq, x47_28, rfl, HA, HJ28, BK119, BK121, BK122, BK123, HB⟩ := hcut
            cases kq with
            | zero => exact absurd HA.out (by simp [dragomanref06_within.j0])
            | succ kj28 =>
              have H := HA.out
              clear HA
              simp only [dragomanref06_within.j0] at H
              by_cases c57 : x47_28 = true
              · subst c57
                have H1 : (some (([(⟨a2_0, true, wrap64 (a2_2 + 1)⟩ : S78)] : List (S78)))) = some r := by rw [if_pos rfl] at H; exact H
                clear H
                have H := H1
                clear H1
                obtain ⟨y128, hy128⟩ : ∃ y_ : List (S78), y_ = (([(⟨a2_0, true, wrap64 (a2_2 + 1)⟩ : S78)] : List (S78))) := ⟨_, rfl⟩
                replace H : (some y128) = some r := by first | (rw [hy128]; with_reducible exact H) | (have H2_ := (Option.bind_some _ _).symm.trans H; rw [hy128]; with_reducible exact H2_) | (have H2_ := (Option.bind_some _ _).symm.trans H; with_reducible exact H2_) | with_reducible exact H | (rw [hy128]; exact H) | exact H
                have Ny128 := Aside0.mk hy128
                clear hy128
                obtain rfl := Option.some.inj H
                have hnb58 := NB119_121.out
                have hnc58 := NB121_119.out
                have hnb59 := NB119_122.out
                have hnc59 := NB122_119.out
                have hnb60 := NB119_123.out
                have hnc60 := NB123_119.out
                have hcz61_0 : wc.cell? ⟨gb119, 0, none⟩ = some (.int .i64 a2_0) := (blk_cell BK119.out 0).trans rfl
                have hcz61_1 : wc.cell? ⟨gb119, 1, none⟩ = some (.bool a2_1) := (blk_cell BK119.out 1).trans rfl
                have hcz61_2 : wc.cell? ⟨gb119, 2, none⟩ = some (.int .i64 a2_2) := (blk_cell BK119.out 2).trans rfl
                have hfz61_0 := blk_frozen BK119.out 0
                have hfz61_1 := blk_frozen BK119.out 1
                have hfz61_2 := blk_frozen BK119.out 2
                go_wp2_with (first | ((with_reducible refine gate_dst (N := 54) rfl ?_); refine Kd.R_lit k78 _ 78 ?hg (N := 54) ?hd (xs := ([(⟨a2_0, true, wrap64 (a2_2 + 1)⟩ : S78)] : List (S78))) (inner := [.int .i64 a2_0, .bool true, .int .i64 (wrap64 (a2_2 + 1))]) (ok := fun _ => True) (okp := fun _ => True) ?hr ?hp (fun _ hk => hk) trivial (Below.refl _ _) (Nat.le_refl _) (by simp) ?_; (case hd => rfl); (case hg => rfl); (case hr => first | (go_simp; done) | (go_simp; rfl)); (case hp => exact (Reps.c3 (show Kd.M k78 _ _ _ (⟨a2_0, true, wrap64 (a2_2 + 1)⟩ : S78) [.int .i64 a2_0, .bool true, .int .i64 (wrap64 (a2_2 + 1))] from (k78_mkM _ _ _ (⟨a2_0, true, wrap64 (a2_2 + 1)⟩ : S78) )) (Reps.none _ _))); intro v129 w62 ho63 hb hg_ hnew_; clear hg_ hnew_; (first | rw [← Ny128.out] at ho63 | (simp only [Int.reduceToNat] at ho63; rw [← Ny128.out] at ho63)); have n0_ := Aside0.mk (Kd.R_lower (Kd.R_newB (Kd.R_newB (Kd.R_newB ho63 (g := gb119) (o := .cells #[.int .i64 a2_0, .bool a2_1, .int .i64 a2_2] 78 (0, 0)) (by (with_reducible repeat (first | refine blk_drewN ?_ _ | refine blk_drew ?_ | refine blk_alloc ?_ _)); exact BK119.out)) (g := gb122) (o := .cells #[.int .i64 a2_0, .bool true, .int .i64 a2_2] 78 (0, 0)) (by (with_reducible repeat (first | refine blk_drewN ?_ _ | refine blk_drew ?_ | refine blk_alloc ?_ _)); exact BK122.out)) (g := gb123) (o := .cells #[.int .i64 ((rd_T42 l0 a2_0).f2.f0), .bool false, .int .i64 a2_2] 78 (0, 0)) (by (with_reducible repeat (first | refine blk_drewN ?_ _ | refine blk_drew ?_ | refine blk_alloc ?_ _)); exact BK123.out)) (below_size (by repeat (first | (with_reducible first | exact HB.out | apply below_alloc | apply pw_below_drewN | apply below_drew1 | refine below_set ?_ GE119.out | refine below_set ?_ GE121.out | refine below_set ?_ GE122.out | refine below_set ?_ GE123.out) | exact HB.out)))); have n1_ := Aside0.mk (blk_below (g := gb119) (o := .cells #[.int .i64 a2_0, .bool a2_1, .int .i64 a2_2] 78 (0, 0)) (by (with_reducible repeat (first | refine blk_drewN ?_ _ | refine blk_drew ?_ | refine blk_alloc ?_ _)); exact BK119.out) hb); have n2_ := Aside0.mk (blk_below (g := gb121) (o := .cells #[.int .i64 ((rd_T42 l0 a2_0).f0), .int .u64 ((rd_T42 l0 a2_0).f1.f0), .int .u64 ((rd_T42 l0 a2_0).f1.f1), .int .u64 ((rd_T42 l0 a2_0).f1.f2), .int .u64 ((rd_T42 l0 a2_0).f1.f3), .int .i64 ((rd_T42 l0 a2_0).f2.f0), .int .i64 ((rd_T42 l0 a2_0).f2.f1)] 42 (0, 0)) (by (with_reducible repeat (first | refine blk_drewN ?_ _ | refine blk_drew ?_ | refine blk_alloc ?_ _)); exact BK121.out) hb); have n3_ := Aside0.mk (blk_below (g := gb122) (o := .cells #[.int .i64 a2_0, .bool true, .int .i64 a2_2] 78 (0, 0)) (by (with_reducible repeat (first | refine blk_drewN ?_ _ | refine blk_drew ?_ | refine blk_alloc ?_ _)); exact BK122.out) hb); have n4_ := Aside0.mk (blk_below (g := gb123) (o := .cells #[.int .i64 ((rd_T42 l0 a2_0).f2.f0), .bool false, .int .i64 a2_2] 78 (0, 0)) (by (with_reducible repeat (first | refine blk_drewN ?_ _ | refine blk_drew ?_ | refine blk_alloc ?_ _)); exact BK123.out) hb); have n5_ := Aside0.mk (below_step (by repeat (first | (with_reducible first | exact HB.out | apply below_alloc | apply pw_below_drewN | apply below_drew1 | refine below_set ?_ GE119.out | refine below_set ?_ GE121.out | refine below_set ?_ GE122.out | refine below_set ?_ GE123.out) | exact HB.out)) hb); clear BK119; clear BK121; clear BK122; clear BK123; clear HB; have HO130 := n0_; have BK119 := n1_; have BK121 := n2_; have BK122 := n3_; have BK123 := n4_; have HB := n5_; clear n0_ n1_ n2_ n3_ n4_ n5_; clear hb ho63))
                go_ret
                exact ⟨_, by first | rfl | (simp [errW_none, errW_some] <;> rfl) | (simp [*, errW_none, errW_some] <;> rfl), by (with_reducible repeat (first | apply Kd.R_alloc | apply Kd.R_drewN | apply Kd.R_drew)); exact Kd.R_mono HO130.out (fun _ hk => trivial), by repeat (first | (with_reducible first | exact HB.out | apply below_alloc | apply pw_below_drewN | apply below_drew1 | refine below_set ?_ GE119.out | refine below_set ?_ GE121.out | refine below_set ?_ GE122.out | refine below_set ?_ GE123.out) | exact HB.out)⟩
              · replace c57 := Bool.eq_false_iff.mpr c57
                subst c57
                have H1 : (some ([] : List (S78))) = some r := by rw [if_neg (show ¬ (false = true) by decide)] at H; exact H
                clear H
                have H := H1
                clear H1
                obtain rfl := Option.some.inj H
                go_wp2
                go_ret
                exact ⟨_, by first | rfl | (simp [errW_none, errW_some] <;> rfl) | (simp [*, errW_none, errW_some] <;> rfl), by first | exact Kd.R_nil _ _ _ _ _ | exact Kd.N_nil _ _ _ _ _ | exact Kd.V_nil _ _ _ _ _ | exact Kd.Q_nil _ _ _ _ _ | exact Kd.S_nil _ _ _ _ _, by repeat (first | (with_reducible first | exact HB.out | apply below_alloc | apply pw_below_drewN | apply below_drew1 | refine below_set ?_ GE119.out | refine below_set ?_ GE121.out | refine below_set ?_ GE122.out | refine below_set ?_ GE123.out) | exact HB.out)⟩
        · rw [if_neg c28] at H
          have c28b0 : (((rd_T42 l0 a2_0).f0) == 1) = false := beq_eq_false_iff_ne.mpr c28
          have c28b1 : (((rd_T42 l0 a2_0).f0) != 1) = true := bne_iff_ne.mpr c28
          have HC64 := Aside0.mk H
          clear H
          go_enter Try.func43, Try.ntmps43
          go_upto_if 55 with (first | ((with_reducible refine gate_dst (N := 5) rfl ?_); refine box_event ?hg (N := 5) ?hd (cs := #[.int .i64 a2_0, .bool a2_1, .int .i64 a2_2]) (t := 78) ?hr ?_; (case hd => rfl); (case hg => rfl); (case hr => first | (go_simp; done) | (go_simp; rfl)); intro gb119 hg w65 hbox hb; have n0_ := Aside0.mk (below_step (by repeat (first | (with_reducible first | exact HB.out | apply below_alloc | apply pw_below_drewN | apply below_drew1) | exact HB.out)) hb); have n1_ := Aside0.mk (hbox); have n2_ := Aside0.mk ((by rw [hg]; exact (below_size (by repeat (first | (with_reducible first | exact HB.out | apply below_alloc | apply pw_below_drewN | apply below_drew1) | exact HB.out))) : w.heap.size ≤ gb119)); have n3_ := Aside0.mk ((by rw [hg]; exact (below_size (by repeat (first | (with_reducible first | exact HB.out | apply below_alloc | apply pw_below_drewN | apply below_drew1) | exact HB.out))) : w.heap.size ≤ gb119)); clear HB; have HB := n0_; have BK119 := n1_; have GW119 := n2_; have GE119 := n3_; clear n0_ n1_ n2_ n3_; clear hb hbox hg; have hcz66_0 : w65.cell? ⟨gb119, 0, none⟩ = some (.int .i64 a2_0) := (blk_cell BK119.out 0).trans rfl; have hcz66_1 : w65.cell? ⟨gb119, 1, none⟩ = some (.bool a2_1) := (blk_cell BK119.out 1).trans rfl; have hcz66_2 : w65.cell? ⟨gb119, 2, none⟩ = some (.int .i64 a2_2) := (blk_cell BK119.out 2).trans rfl; have hfz66_0 := blk_frozen BK119.out 0; have hfz66_1 := blk_frozen BK119.out 1; have hfz66_2 := blk_frozen BK119.out 2; have p120 : 0 ≤ (a2_0 : Int) := of_decide_eq_true (by first | (with_reducible assumption) | assumption); have q120 : a2_0 < (l0.length : Int) := of_decide_eq_true (by first | (with_reducible assumption) | assumption); obtain ⟨ad120, e120, hx120_0, hx120_1, hx120_2, hx120_3, hx120_4, hx120_5, hx120_6⟩ := at_T42 HR0.out a2_0 p120 q120; cases e120; (try simp only [Int.toNat_natCast] at hx120_0); replace hx120_0 := (HB.out.cell (World.block_lt_of_cell? w _ hx120_0)).trans hx120_0; replace hx120_1 := (HB.out.cell (World.block_lt_of_cell? w _ hx120_1)).trans hx120_1; replace hx120_2 := (HB.out.cell (World.block_lt_of_cell? w _ hx120_2)).trans hx120_2; replace hx120_3 := (HB.out.cell (World.block_lt_of_cell? w _ hx120_3)).trans hx120_3; replace hx120_4 := (HB.out.cell (World.block_lt_of_cell? w _ hx120_4)).trans hx120_4; replace hx120_5 := (HB.out.cell (World.block_lt_of_cell? w _ hx120_5)).trans hx120_5; replace hx120_6 := (HB.out.cell (World.block_lt_of_cell? w _ hx120_6)).trans hx120_6; replace p120 := eq_true p120; replace q120 := eq_true q120) | ((with_reducible refine gate_dst (N := 7) rfl ?_); refine box_event ?hg (N := 7) ?hd (cs := #[.int .i64 0, .int .u64 0, .int .u64 0, .int .u64 0, .int .u64 0, .int .i64 0, .int .i64 0]) (t := 42) ?hr ?_; (case hd => rfl); (case hg => rfl); (case hr => first | (go_simp; done) | (go_simp; rfl)); intro gb121 hg w67 hbox hb; have n0_ := Aside0.mk (blk_below (g := gb119) (o := .cells #[.int .i64 a2_0, .bool a2_1, .int .i64 a2_2] 78 (0, 0)) (by (with_reducible repeat (first | refine blk_drewN ?_ _ | refine blk_drew ?_ | refine blk_alloc ?_ _)); exact BK119.out) hb); have n1_ := Aside0.mk (below_step (by repeat (first | (with_reducible first | exact HB.out | apply below_alloc | apply pw_below_drewN | apply below_drew1 | refine below_set ?_ GE119.out) | exact HB.out)) hb); have n2_ := Aside0.mk (hbox); have n3_ := Aside0.mk ((by rw [hg]; exact (below_size (by repeat (first | (with_reducible first | exact HB.out | apply below_alloc | apply pw_below_drewN | apply below_drew1 | refine below_set ?_ GE119.out) | exact HB.out))) : w.heap.size ≤ gb121)); have n4_ := Aside0.mk ((by rw [hg]; exact (below_size (by repeat (first | (with_reducible first | exact HB.out | apply below_alloc | apply pw_below_drewN | apply below_drew1 | refine below_set ?_ GE119.out) | exact HB.out))) : w.heap.size ≤ gb121)); have n5_ := Aside0.mk ((by rw [hg]; exact Nat.ne_of_lt (blk_lt (g := gb119) (o := .cells #[.int .i64 a2_0, .bool a2_1, .int .i64 a2_2] 78 (0, 0)) (by (with_reducible repeat (first | refine blk_drewN ?_ _ | refine blk_drew ?_ | refine blk_alloc ?_ _)); exact BK119.out)) : gb119 ≠ gb121)); have n6_ := Aside0.mk ((by rw [hg]; exact Nat.ne_of_gt (blk_lt (g := gb119) (o := .cells #[.int .i64 a2_0, .bool a2_1, .int .i64 a2_2] 78 (0, 0)) (by (with_reducible repeat (first | refine blk_drewN ?_ _ | refine blk_drew ?_ | refine blk_alloc ?_ _)); exact BK119.out)) : gb121 ≠ gb119)); clear BK119; clear HB; have BK119 := n0_; have HB := n1_; have BK121 := n2_; have GW121 := n3_; have GE121 := n4_; have NB119_121 := n5_; have NB121_119 := n6_; clear n0_ n1_ n2_ n3_ n4_ n5_ n6_; clear hb hbox hg; have hnb68 := NB121_119.out; have hnc68 := NB119_121.out; have hcz69_0 : w67.cell? ⟨gb121, 0, none⟩ = some (.int .i64 0) := (blk_cell BK121.out 0).trans rfl; have hcz69_1 : w67.cell? ⟨gb121, 1, none⟩ = some (.int .u64 0) := (blk_cell BK121.out 1).trans rfl; have hcz69_2 : w67.cell? ⟨gb121, 2, none⟩ = some (.int .u64 0) := (blk_cell BK121.out 2).trans rfl; have hcz69_3 : w67.cell? ⟨gb121, 3, none⟩ = some (.int .u64 0) := (blk_cell BK121.out 3).trans rfl; have hcz69_4 : w67.cell? ⟨gb121, 4, none⟩ = some (.int .u64 0) := (blk_cell BK121.out 4).trans rfl; have hcz69_5 : w67.cell? ⟨gb121, 5, none⟩ = some (.int .i64 0) := (blk_cell BK121.out 5).trans rfl; have hcz69_6 : w67.cell? ⟨gb121, 6, none⟩ = some (.int .i64 0) := (blk_cell BK121.out 6).trans rfl; have hfz69_0 := blk_frozen BK121.out 0; have hfz69_1 := blk_frozen BK121.out 1; have hfz69_2 := blk_frozen BK121.out 2; have hfz69_3 := blk_frozen BK121.out 3; have hfz69_4 := blk_frozen BK121.out 4; have hfz69_5 := blk_frozen BK121.out 5; have hfz69_6 := blk_frozen BK121.out 6; have hcz70_0 : w67.cell? ⟨gb119, 0, none⟩ = some (.int .i64 a2_0) := (blk_cell BK119.out 0).trans rfl; have hcz70_1 : w67.cell? ⟨gb119, 1, none⟩ = some (.bool a2_1) := (blk_cell BK119.out 1).trans rfl; have hcz70_2 : w67.cell? ⟨gb119, 2, none⟩ = some (.int .i64 a2_2) := (blk_cell BK119.out 2).trans rfl; have hfz70_0 := blk_frozen BK119.out 0; have hfz70_1 := blk_frozen BK119.out 1; have hfz70_2 := blk_frozen BK119.out 2) | ((with_reducible refine gate_dst (N := 8) rfl ?_); refine box_event ?hg (N := 8) ?hd (cs := #[.int .i64 0, .bool false, .int .i64 0]) (t := 78) ?hr ?_; (case hd => rfl); (case hg => rfl); (case hr => first | (go_simp; done) | (go_simp; rfl)); intro gb122 hg w71 hbox hb; have n0_ := Aside0.mk (blk_below (g := gb119) (o := .cells #[.int .i64 a2_0, .bool a2_1, .int .i64 a2_2] 78 (0, 0)) (by (with_reducible repeat (first | refine blk_drewN ?_ _ | refine blk_drew ?_ | refine blk_alloc ?_ _)); refine blk_far ?_ NB119_121.out _; (with_reducible repeat (first | refine blk_drewN ?_ _ | refine blk_drew ?_ | refine blk_alloc ?_ _)); refine blk_far ?_ NB119_121.out _; (with_reducible repeat (first | refine blk_drewN ?_ _ | refine blk_drew ?_ | refine blk_alloc ?_ _)); refine blk_far ?_ NB119_121.out _; (with_reducible repeat (first | refine blk_drewN ?_ _ | refine blk_drew ?_ | refine blk_alloc ?_ _)); refine blk_far ?_ NB119_121.out _; (with_reducible repeat (first | refine blk_drewN ?_ _ | refine blk_drew ?_ | refine blk_alloc ?_ _)); refine blk_far ?_ NB119_121.out _; (with_reducible repeat (first | refine blk_drewN ?_ _ | refine blk_drew ?_ | refine blk_alloc ?_ _)); refine blk_far ?_ NB119_121.out _; (with_reducible repeat (first | refine blk_drewN ?_ _ | refine blk_drew ?_ | refine blk_alloc ?_ _)); refine blk_far ?_ NB119_121.out _; (with_reducible repeat (first | refine blk_drewN ?_ _ | refine blk_drew ?_ | refine blk_alloc ?_ _)); exact BK119.out) hb); have n1_ := Aside0.mk (blk_below (g := gb121) (o := .cells #[.int .i64 ((rd_T42 l0 a2_0).f0), .int .u64 ((rd_T42 l0 a2_0).f1.f0), .int .u64 ((rd_T42 l0 a2_0).f1.f1), .int .u64 ((rd_T42 l0 a2_0).f1.f2), .int .u64 ((rd_T42 l0 a2_0).f1.f3), .int .i64 ((rd_T42 l0 a2_0).f2.f0), .int .i64 ((rd_T42 l0 a2_0).f2.f1)] 42 (0, 0)) (by (with_reducible repeat (first | refine blk_drewN ?_ _ | refine blk_drew ?_ | refine blk_alloc ?_ _)); refine blk_put (cs := #[.int .i64 ((rd_T42 l0 a2_0).f0), .int .u64 ((rd_T42 l0 a2_0).f1.f0), .int .u64 ((rd_T42 l0 a2_0).f1.f1), .int .u64 ((rd_T42 l0 a2_0).f1.f2), .int .u64 ((rd_T42 l0 a2_0).f1.f3), .int .i64 ((rd_T42 l0 a2_0).f2.f0), .int .i64 0]) ?_ 6 _ rfl; (with_reducible repeat (first | refine blk_drewN ?_ _ | refine blk_drew ?_ | refine blk_alloc ?_ _)); refine blk_put (cs := #[.int .i64 ((rd_T42 l0 a2_0).f0), .int .u64 ((rd_T42 l0 a2_0).f1.f0), .int .u64 ((rd_T42 l0 a2_0).f1.f1), .int .u64 ((rd_T42 l0 a2_0).f1.f2), .int .u64 ((rd_T42 l0 a2_0).f1.f3), .int .i64 0, .int .i64 0]) ?_ 5 _ rfl; (with_reducible repeat (first | refine blk_drewN ?_ _ | refine blk_drew ?_ | refine blk_alloc ?_ _)); refine blk_put (cs := #[.int .i64 ((rd_T42 l0 a2_0).f0), .int .u64 ((rd_T42 l0 a2_0).f1.f0), .int .u64 ((rd_T42 l0 a2_0).f1.f1), .int .u64 ((rd_T42 l0 a2_0).f1.f2), .int .u64 0, .int .i64 0, .int .i64 0]) ?_ 4 _ rfl; (with_reducible repeat (first | refine blk_drewN ?_ _ | refine blk_drew ?_ | refine blk_alloc ?_ _)); refine blk_put (cs := #[.int .i64 ((rd_T42 l0 a2_0).f0), .int .u64 ((rd_T42 l0 a2_0).f1.f0), .int .u64 ((rd_T42 l0 a2_0).f1.f1), .int .u64 0, .int .u64 0, .int .i64 0, .int .i64 0]) ?_ 3 _ rfl; (with_reducible repeat (first | refine blk_drewN ?_ _ | refine blk_drew ?_ | refine blk_alloc ?_ _)); refine blk_put (cs := #[.int .i64 ((rd_T42 l0 a2_0).f0), .int .u64 ((rd_T42 l0 a2_0).f1.f0), .int .u64 0, .int .u64 0, .int .u64 0, .int .i64 0, .int .i64 0]) ?_ 2 _ rfl; (with_reducible repeat (first | refine blk_drewN ?_ _ | refine blk_drew ?_ | refine blk_alloc ?_ _)); refine blk_put (cs := #[.int .i64 ((rd_T42 l0 a2_0).f0), .int .u64 0, .int .u64 0, .int .u64 0, .int .u64 0, .int .i64 0, .int .i64 0]) ?_ 1 _ rfl; (with_reducible repeat (first | refine blk_drewN ?_ _ | refine blk_drew ?_ | refine blk_alloc ?_ _)); refine blk_put (cs := #[.int .i64 0, .int .u64 0, .int .u64 0, .int .u64 0, .int .u64 0, .int .i64 0, .int .i64 0]) ?_ 0 _ rfl; (with_reducible repeat (first | refine blk_drewN ?_ _ | refine blk_drew ?_ | refine blk_alloc ?_ _)); exact BK121.out) hb); have n2_ := Aside0.mk (below_step (by repeat (first | (with_reducible first | exact HB.out | apply below_alloc | apply pw_below_drewN | apply below_drew1 | refine below_set ?_ GE119.out | refine below_set ?_ GE121.out) | exact HB.out)) hb); have n3_ := Aside0.mk (hbox); have n4_ := Aside0.mk ((by rw [hg]; exact (below_size (by repeat (first | (with_reducible first | exact HB.out | apply below_alloc | apply pw_below_drewN | apply below_drew1 | refine below_set ?_ GE119.out | refine below_set ?_ GE121.out) | exact HB.out))) : w.heap.size ≤ gb122)); have n5_ := Aside0.mk ((by rw [hg]; exact (below_size (by repeat (first | (with_reducible first | exact HB.out | apply below_alloc | apply pw_below_drewN | apply below_drew1 | refine below_set ?_ GE119.out | refine below_set ?_ GE121.out) | exact HB.out))) : w.heap.size ≤ gb122)); have n6_ := Aside0.mk ((by rw [hg]; exact Nat.ne_of_lt (blk_lt (g := gb119) (o := .cells #[.int .i64 a2_0, .bool a2_1, .int .i64 a2_2] 78 (0, 0)) (by (with_reducible repeat (first | refine blk_drewN ?_ _ | refine blk_drew ?_ | refine blk_alloc ?_ _)); refine blk_far ?_ NB119_121.out _; (with_reducible repeat (first | refine blk_drewN ?_ _ | refine blk_drew ?_ | refine blk_alloc ?_ _)); refine blk_far ?_ NB119_121.out _; (with_reducible repeat (first | refine blk_drewN ?_ _ | refine blk_drew ?_ | refine blk_alloc ?_ _)); refine blk_far ?_ NB119_121.out _; (with_reducible repeat (first | refine blk_drewN ?_ _ | refine blk_drew ?_ | refine blk_alloc ?_ _)); refine blk_far ?_ NB119_121.out _; (with_reducible repeat (first | refine blk_drewN ?_ _ | refine blk_drew ?_ | refine blk_alloc ?_ _)); refine blk_far ?_ NB119_121.out _; (with_reducible repeat (first | refine blk_drewN ?_ _ | refine blk_drew ?_ | refine blk_alloc ?_ _)); refine blk_far ?_ NB119_121.out _; (with_reducible repeat (first | refine blk_drewN ?_ _ | refine blk_drew ?_ | refine blk_alloc ?_ _)); refine blk_far ?_ NB119_121.out _; (with_reducible repeat (first | refine blk_drewN ?_ _ | refine blk_drew ?_ | refine blk_alloc ?_ _)); exact BK119.out)) : gb119 ≠ gb122)); have n7_ := Aside0.mk ((by rw [hg]; exact Nat.ne_of_gt (blk_lt (g := gb119) (o := .cells #[.int .i64 a2_0, .bool a2_1, .int .i64 a2_2] 78 (0, 0)) (by (with_reducible repeat (first | refine blk_drewN ?_ _ | refine blk_drew ?_ | refine blk_alloc ?_ _)); refine blk_far ?_ NB119_121.out _; (with_reducible repeat (first | refine blk_drewN ?_ _ | refine blk_drew ?_ | refine blk_alloc ?_ _)); refine blk_far ?_ NB119_121.out _; (with_reducible repeat (first | refine blk_drewN ?_ _ | refine blk_drew ?_ | refine blk_alloc ?_ _)); refine blk_far ?_ NB119_121.out _; (with_reducible repeat (first | refine blk_drewN ?_ _ | refine blk_drew ?_ | refine blk_alloc ?_ _)); refine blk_far ?_ NB119_121.out _; (with_reducible repeat (first | refine blk_drewN ?_ _ | refine blk_drew ?_ | refine blk_alloc ?_ _)); refine blk_far ?_ NB119_121.out _; (with_reducible repeat (first | refine blk_drewN ?_ _ | refine blk_drew ?_ | refine blk_alloc ?_ _)); refine blk_far ?_ NB119_121.out _; (with_reducible repeat (first | refine blk_drewN ?_ _ | refine blk_drew ?_ | refine blk_alloc ?_ _)); refine blk_far ?_ NB119_121.out _; (with_reducible repeat (first | refine blk_drewN ?_ _ | refine blk_drew ?_ | refine blk_alloc ?_ _)); exact BK119.out)) : gb122 ≠ gb119)); have n8_ := Aside0.mk ((by rw [hg]; exact Nat.ne_of_lt (blk_lt (g := gb121) (o := .cells #[.int .i64 ((rd_T42 l0 a2_0).f0), .int .u64 ((rd_T42 l0 a2_0).f1.f0), .int .u64 ((rd_T42 l0 a2_0).f1.f1), .int .u64 ((rd_T42 l0 a2_0).f1.f2), .int .u64 ((rd_T42 l0 a2_0).f1.f3), .int .i64 ((rd_T42 l0 a2_0).f2.f0), .int .i64 ((rd_T42 l0 a2_0).f2.f1)] 42 (0, 0)) (by (with_reducible repeat (first | refine blk_drewN ?_ _ | refine blk_drew ?_ | refine blk_alloc ?_ _)); refine blk_put (cs := #[.int .i64 ((rd_T42 l0 a2_0).f0), .int .u64 ((rd_T42 l0 a2_0).f1.f0), .int .u64 ((rd_T42 l0 a2_0).f1.f1), .int .u64 ((rd_T42 l0 a2_0).f1.f2), .int .u64 ((rd_T42 l0 a2_0).f1.f3), .int .i64 ((rd_T42 l0 a2_0).f2.f0), .int .i64 0]) ?_ 6 _ rfl; (with_reducible repeat (first | refine blk_drewN ?_ _ | refine blk_drew ?_ | refine blk_alloc ?_ _)); refine blk_put (cs := #[.int .i64 ((rd_T42 l0 a2_0).f0), .int .u64 ((rd_T42 l0 a2_0).f1.f0), .int .u64 ((rd_T42 l0 a2_0).f1.f1), .int .u64 ((rd_T42 l0 a2_0).f1.f2), .int .u64 ((rd_T42 l0 a2_0).f1.f3), .int .i64 0, .int .i64 0]) ?_ 5 _ rfl; (with_reducible repeat (first | refine blk_drewN ?_ _ | refine blk_drew ?_ | refine blk_alloc ?_ _)); refine blk_put (cs := #[.int .i64 ((rd_T42 l0 a2_0).f0), .int .u64 ((rd_T42 l0 a2_0).f1.f0), .int .u64 ((rd_T42 l0 a2_0).f1.f1), .int .u64 ((rd_T42 l0 a2_0).f1.f2), .int .u64 0, .int .i64 0, .int .i64 0]) ?_ 4 _ rfl; (with_reducible repeat (first | refine blk_drewN ?_ _ | refine blk_drew ?_ | refine blk_alloc ?_ _)); refine blk_put (cs := #[.int .i64 ((rd_T42 l0 a2_0).f0), .int .u64 ((rd_T42 l0 a2_0).f1.f0), .int .u64 ((rd_T42 l0 a2_0).f1.f1), .int .u64 0, .int .u64 0, .int .i64 0, .int .i64 0]) ?_ 3 _ rfl; (with_reducible repeat (first | refine blk_drewN ?_ _ | refine blk_drew ?_ | refine blk_alloc ?_ _)); refine blk_put (cs := #[.int .i64 ((rd_T42 l0 a2_0).f0), .int .u64 ((rd_T42 l0 a2_0).f1.f0), .int .u64 0, .int .u64 0, .int .u64 0, .int .i64 0, .int .i64 0]) ?_ 2 _ rfl; (with_reducible repeat (first | refine blk_drewN ?_ _ | refine blk_drew ?_ | refine blk_alloc ?_ _)); refine blk_put (cs := #[.int .i64 ((rd_T42 l0 a2_0).f0), .int .u64 0, .int .u64 0, .int .u64 0, .int .u64 0, .int .i64 0, .int .i64 0]) ?_ 1 _ rfl; (with_reducible repeat (first | refine blk_drewN ?_ _ | refine blk_drew ?_ | refine blk_alloc ?_ _)); refine blk_put (cs := #[.int .i64 0, .int .u64 0, .int .u64 0, .int .u64 0, .int .u64 0, .int .i64 0, .int .i64 0]) ?_ 0 _ rfl; (with_reducible repeat (first | refine blk_drewN ?_ _ | refine blk_drew ?_ | refine blk_alloc ?_ _)); exact BK121.out)) : gb121 ≠ gb122)); have n9_ := Aside0.mk ((by rw [hg]; exact Nat.ne_of_gt (blk_lt (g := gb121) (o := .cells #[.int .i64 ((rd_T42 l0 a2_0).f0), .int .u64 ((rd_T42 l0 a2_0).f1.f0), .int .u64 ((rd_T42 l0 a2_0).f1.f1), .int .u64 ((rd_T42 l0 a2_0).f1.f2), .int .u64 ((rd_T42 l0 a2_0).f1.f3), .int .i64 ((rd_T42 l0 a2_0).f2.f0), .int .i64 ((rd_T42 l0 a2_0).f2.f1)] 42 (0, 0)) (by (with_reducible repeat (first | refine blk_drewN ?_ _ | refine blk_drew ?_ | refine blk_alloc ?_ _)); refine blk_put (cs := #[.int .i64 ((rd_T42 l0 a2_0).f0), .int .u64 ((rd_T42 l0 a2_0).f1.f0), .int .u64 ((rd_T42 l0 a2_0).f1.f1), .int .u64 ((rd_T42 l0 a2_0).f1.f2), .int .u64 ((rd_T42 l0 a2_0).f1.f3), .int .i64 ((rd_T42 l0 a2_0).f2.f0), .int .i64 0]) ?_ 6 _ rfl; (with_reducible repeat (first | refine blk_drewN ?_ _ | refine blk_drew ?_ | refine blk_alloc ?_ _)); refine blk_put (cs := #[.int .i64 ((rd_T42 l0 a2_0).f0), .int .u64 ((rd_T42 l0 a2_0).f1.f0), .int .u64 ((rd_T42 l0 a2_0).f1.f1), .int .u64 ((rd_T42 l0 a2_0).f1.f2), .int .u64 ((rd_T42 l0 a2_0).f1.f3), .int .i64 0, .int .i64 0]) ?_ 5 _ rfl; (with_reducible repeat (first | refine blk_drewN ?_ _ | refine blk_drew ?_ | refine blk_alloc ?_ _)); refine blk_put (cs := #[.int .i64 ((rd_T42 l0 a2_0).f0), .int .u64 ((rd_T42 l0 a2_0).f1.f0), .int .u64 ((rd_T42 l0 a2_0).f1.f1), .int .u64 ((rd_T42 l0 a2_0).f1.f2), .int .u64 0, .int .i64 0, .int .i64 0]) ?_ 4 _ rfl; (with_reducible repeat (first | refine blk_drewN ?_ _ | refine blk_drew ?_ | refine blk_alloc ?_ _)); refine blk_put (cs := #[.int .i64 ((rd_T42 l0 a2_0).f0), .int .u64 ((rd_T42 l0 a2_0).f1.f0), .int .u64 ((rd_T42 l0 a2_0).f1.f1), .int .u64 0, .int .u64 0, .int .i64 0, .int .i64 0]) ?_ 3 _ rfl; (with_reducible repeat (first | refine blk_drewN ?_ _ | refine blk_drew ?_ | refine blk_alloc ?_ _)); refine blk_put (cs := #[.int .i64 ((rd_T42 l0 a2_0).f0), .int .u64 ((rd_T42 l0 a2_0).f1.f0), .int .u64 0, .int .u64 0, .int .u64 0, .int .i64 0, .int .i64 0]) ?_ 2 _ rfl; (with_reducible repeat (first | refine blk_drewN ?_ _ | refine blk_drew ?_ | refine blk_alloc ?_ _)); refine blk_put (cs := #[.int .i64 ((rd_T42 l0 a2_0).f0), .int .u64 0, .int .u64 0, .int .u64 0, .int .u64 0, .int .i64 0, .int .i64 0]) ?_ 1 _ rfl; (with_reducible repeat (first | refine blk_drewN ?_ _ | refine blk_drew ?_ | refine blk_alloc ?_ _)); refine blk_put (cs := #[.int .i64 0, .int .u64 0, .int .u64 0, .int .u64 0, .int .u64 0, .int .i64 0, .int .i64 0]) ?_ 0 _ rfl; (with_reducible repeat (first | refine blk_drewN ?_ _ | refine blk_drew ?_ | refine blk_alloc ?_ _)); exact BK121.out)) : gb122 ≠ gb121)); clear BK119; clear BK121; clear HB; have BK119 := n0_; have BK121 := n1_; have HB := n2_; have BK122 := n3_; have GW122 := n4_; have GE122 := n5_; have NB119_122 := n6_; have NB122_119 := n7_; have NB121_122 := n8_; have NB122_121 := n9_; clear n0_ n1_ n2_ n3_ n4_ n5_ n6_ n7_ n8_ n9_; clear hb hbox hg; have hnb72 := NB122_119.out; have hnc72 := NB119_122.out; have hnb73 := NB122_121.out; have hnc73 := NB121_122.out; have hcz74_0 : w71.cell? ⟨gb122, 0, none⟩ = some (.int .i64 0) := (blk_cell BK122.out 0).trans rfl; have hcz74_1 : w71.cell? ⟨gb122, 1, none⟩ = some (.bool false) := (blk_cell BK122.out 1).trans rfl; have hcz74_2 : w71.cell? ⟨gb122, 2, none⟩ = some (.int .i64 0) := (blk_cell BK122.out 2).trans rfl; have hfz74_0 := blk_frozen BK122.out 0; have hfz74_1 := blk_frozen BK122.out 1; have hfz74_2 := blk_frozen BK122.out 2; have hcz75_0 : w71.cell? ⟨gb121, 0, none⟩ = some (.int .i64 ((rd_T42 l0 a2_0).f0)) := (blk_cell BK121.out 0).trans rfl; have hcz75_1 : w71.cell? ⟨gb121, 1, none⟩ = some (.int .u64 ((rd_T42 l0 a2_0).f1.f0)) := (blk_cell BK121.out 1).trans rfl; have hcz75_2 : w71.cell? ⟨gb121, 2, none⟩ = some (.int .u64 ((rd_T42 l0 a2_0).f1.f1)) := (blk_cell BK121.out 2).trans rfl; have hcz75_3 : w71.cell? ⟨gb121, 3, none⟩ = some (.int .u64 ((rd_T42 l0 a2_0).f1.f2)) := (blk_cell BK121.out 3).trans rfl; have hcz75_4 : w71.cell? ⟨gb121, 4, none⟩ = some (.int .u64 ((rd_T42 l0 a2_0).f1.f3)) := (blk_cell BK121.out 4).trans rfl; have hcz75_5 : w71.cell? ⟨gb121, 5, none⟩ = some (.int .i64 ((rd_T42 l0 a2_0).f2.f0)) := (blk_cell BK121.out 5).trans rfl; have hcz75_6 : w71.cell? ⟨gb121, 6, none⟩ = some (.int .i64 ((rd_T42 l0 a2_0).f2.f1)) := (blk_cell BK121.out 6).trans rfl; have hfz75_0 := blk_frozen BK121.out 0; have hfz75_1 := blk_frozen BK121.out 1; have hfz75_2 := blk_frozen BK121.out 2; have hfz75_3 := blk_frozen BK121.out 3; have hfz75_4 := blk_frozen BK121.out 4; have hfz75_5 := blk_frozen BK121.out 5; have hfz75_6 := blk_frozen BK121.out 6; have hcz76_0 : w71.cell? ⟨gb119, 0, none⟩ = some (.int .i64 a2_0) := (blk_cell BK119.out 0).trans rfl; have hcz76_1 : w71.cell? ⟨gb119, 1, none⟩ = some (.bool a2_1) := (blk_cell BK119.out 1).trans rfl; have hcz76_2 : w71.cell? ⟨gb119, 2, none⟩ = some (.int .i64 a2_2) := (blk_cell BK119.out 2).trans rfl; have hfz76_0 := blk_frozen BK119.out 0; have hfz76_1 := blk_frozen BK119.out 1; have hfz76_2 := blk_frozen BK119.out 2) | ((with_reducible refine gate_dst (N := 9) rfl ?_); refine box_event ?hg (N := 9) ?hd (cs := #[.int .i64 0, .bool false, .int .i64 0]) (t := 78) ?hr ?_; (case hd => rfl); (case hg => rfl); (case hr => first | (go_simp; done) | (go_simp; rfl)); intro gb123 hg w77 hbox hb; have n0_ := Aside0.mk (blk_below (g := gb119) (o := .cells #[.int .i64 a2_0, .bool a2_1, .int .i64 a2_2] 78 (0, 0)) (by (with_reducible repeat (first | refine blk_drewN ?_ _ | refine blk_drew ?_ | refine blk_alloc ?_ _)); refine blk_far ?_ NB119_122.out _; (with_reducible repeat (first | refine blk_drewN ?_ _ | refine blk_drew ?_ | refine blk_alloc ?_ _)); refine blk_far ?_ NB119_122.out _; (with_reducible repeat (first | refine blk_drewN ?_ _ | refine blk_drew ?_ | refine blk_alloc ?_ _)); refine blk_far ?_ NB119_122.out _; (with_reducible repeat (first | refine blk_drewN ?_ _ | refine blk_drew ?_ | refine blk_alloc ?_ _)); exact BK119.out) hb); have n1_ := Aside0.mk (blk_below (g := gb121) (o := .cells #[.int .i64 ((rd_T42 l0 a2_0).f0), .int .u64 ((rd_T42 l0 a2_0).f1.f0), .int .u64 ((rd_T42 l0 a2_0).f1.f1), .int .u64 ((rd_T42 l0 a2_0).f1.f2), .int .u64 ((rd_T42 l0 a2_0).f1.f3), .int .i64 ((rd_T42 l0 a2_0).f2.f0), .int .i64 ((rd_T42 l0 a2_0).f2.f1)] 42 (0, 0)) (by (with_reducible repeat (first | refine blk_drewN ?_ _ | refine blk_drew ?_ | refine blk_alloc ?_ _)); refine blk_far ?_ NB121_122.out _; (with_reducible repeat (first | refine blk_drewN ?_ _ | refine blk_drew ?_ | refine blk_alloc ?_ _)); refine blk_far ?_ NB121_122.out _; (with_reducible repeat (first | refine blk_drewN ?_ _ | refine blk_drew ?_ | refine blk_alloc ?_ _)); refine blk_far ?_ NB121_122.out _; (with_reducible repeat (first | refine blk_drewN ?_ _ | refine blk_drew ?_ | refine blk_alloc ?_ _)); exact BK121.out) hb); have n2_ := Aside0.mk (blk_below (g := gb122) (o := .cells #[.int .i64 a2_0, .bool true, .int .i64 a2_2] 78 (0, 0)) (by (with_reducible repeat (first | refine blk_drewN ?_ _ | refine blk_drew ?_ | refine blk_alloc ?_ _)); refine blk_put (cs := #[.int .i64 a2_0, .bool true, .int .i64 0]) ?_ 2 _ rfl; (with_reducible repeat (first | refine blk_drewN ?_ _ | refine blk_drew ?_ | refine blk_alloc ?_ _)); refine blk_put (cs := #[.int .i64 a2_0, .bool false, .int .i64 0]) ?_ 1 _ rfl; (with_reducible repeat (first | refine blk_drewN ?_ _ | refine blk_drew ?_ | refine blk_alloc ?_ _)); refine blk_put (cs := #[.int .i64 0, .bool false, .int .i64 0]) ?_ 0 _ rfl; (with_reducible repeat (first | refine blk_drewN ?_ _ | refine blk_drew ?_ | refine blk_alloc ?_ _)); exact BK122.out) hb); have n3_ := Aside0.mk (below_step (by repeat (first | (with_reducible first | exact HB.out | apply below_alloc | apply pw_below_drewN | apply below_drew1 | refine below_set ?_ GE119.out | refine below_set ?_ GE121.out | refine below_set ?_ GE122.out) | exact HB.out)) hb); have n4_ := Aside0.mk (hbox); have n5_ := Aside0.mk ((by rw [hg]; exact (below_size (by repeat (first | (with_reducible first | exact HB.out | apply below_alloc | apply pw_below_drewN | apply below_drew1 | refine below_set ?_ GE119.out | refine below_set ?_ GE121.out | refine below_set ?_ GE122.out) | exact HB.out))) : w.heap.size ≤ gb123)); have n6_ := Aside0.mk ((by rw [hg]; exact (below_size (by repeat (first | (with_reducible first | exact HB.out | apply below_alloc | apply pw_below_drewN | apply below_drew1 | refine below_set ?_ GE119.out | refine below_set ?_ GE121.out | refine below_set ?_ GE122.out) | exact HB.out))) : w.heap.size ≤ gb123)); have n7_ := Aside0.mk ((by rw [hg]; exact Nat.ne_of_lt (blk_lt (g := gb119) (o := .cells #[.int .i64 a2_0, .bool a2_1, .int .i64 a2_2] 78 (0, 0)) (by (with_reducible repeat (first | refine blk_drewN ?_ _ | refine blk_drew ?_ | refine blk_alloc ?_ _)); refine blk_far ?_ NB119_122.out _; (with_reducible repeat (first | refine blk_drewN ?_ _ | refine blk_drew ?_ | refine blk_alloc ?_ _)); refine blk_far ?_ NB119_122.out _; (with_reducible repeat (first | refine blk_drewN ?_ _ | refine blk_drew ?_ | refine blk_alloc ?_ _)); refine blk_far ?_ NB119_122.out _; (with_reducible repeat (first | refine blk_drewN ?_ _ | refine blk_drew ?_ | refine blk_alloc ?_ _)); exact BK119.out)) : gb119 ≠ gb123)); have n8_ := Aside0.mk ((by rw [hg]; exact Nat.ne_of_gt (blk_lt (g := gb119) (o := .cells #[.int .i64 a2_0, .bool a2_1, .int .i64 a2_2] 78 (0, 0)) (by (with_reducible repeat (first | refine blk_drewN ?_ _ | refine blk_drew ?_ | refine blk_alloc ?_ _)); refine blk_far ?_ NB119_122.out _; (with_reducible repeat (first | refine blk_drewN ?_ _ | refine blk_drew ?_ | refine blk_alloc ?_ _)); refine blk_far ?_ NB119_122.out _; (with_reducible repeat (first | refine blk_drewN ?_ _ | refine blk_drew ?_ | refine blk_alloc ?_ _)); refine blk_far ?_ NB119_122.out _; (with_reducible repeat (first | refine blk_drewN ?_ _ | refine blk_drew ?_ | refine blk_alloc ?_ _)); exact BK119.out)) : gb123 ≠ gb119)); have n9_ := Aside0.mk ((by rw [hg]; exact Nat.ne_of_lt (blk_lt (g := gb121) (o := .cells #[.int .i64 ((rd_T42 l0 a2_0).f0), .int .u64 ((rd_T42 l0 a2_0).f1.f0), .int .u64 ((rd_T42 l0 a2_0).f1.f1), .int .u64 ((rd_T42 l0 a2_0).f1.f2), .int .u64 ((rd_T42 l0 a2_0).f1.f3), .int .i64 ((rd_T42 l0 a2_0).f2.f0), .int .i64 ((rd_T42 l0 a2_0).f2.f1)] 42 (0, 0)) (by (with_reducible repeat (first | refine blk_drewN ?_ _ | refine blk_drew ?_ | refine blk_alloc ?_ _)); refine blk_far ?_ NB121_122.out _; (with_reducible repeat (first | refine blk_drewN ?_ _ | refine blk_drew ?_ | refine blk_alloc ?_ _)); refine blk_far ?_ NB121_122.out _; (with_reducible repeat (first | refine blk_drewN ?_ _ | refine blk_drew ?_ | refine blk_alloc ?_ _)); refine blk_far ?_ NB121_122.out _; (with_reducible repeat (first | refine blk_drewN ?_ _ | refine blk_drew ?_ | refine blk_alloc ?_ _)); exact BK121.out)) : gb121 ≠ gb123)); have n10_ := Aside0.mk ((by rw [hg]; exact Nat.ne_of_gt (blk_lt (g := gb121) (o := .cells #[.int .i64 ((rd_T42 l0 a2_0).f0), .int .u64 ((rd_T42 l0 a2_0).f1.f0), .int .u64 ((rd_T42 l0 a2_0).f1.f1), .int .u64 ((rd_T42 l0 a2_0).f1.f2), .int .u64 ((rd_T42 l0 a2_0).f1.f3), .int .i64 ((rd_T42 l0 a2_0).f2.f0), .int .i64 ((rd_T42 l0 a2_0).f2.f1)] 42 (0, 0)) (by (with_reducible repeat (first | refine blk_drewN ?_ _ | refine blk_drew ?_ | refine blk_alloc ?_ _)); refine blk_far ?_ NB121_122.out _; (with_reducible repeat (first | refine blk_drewN ?_ _ | refine blk_drew ?_ | refine blk_alloc ?_ _)); refine blk_far ?_ NB121_122.out _; (with_reducible repeat (first | refine blk_drewN ?_ _ | refine blk_drew ?_ | refine blk_alloc ?_ _)); refine blk_far ?_ NB121_122.out _; (with_reducible repeat (first | refine blk_drewN ?_ _ | refine blk_drew ?_ | refine blk_alloc ?_ _)); exact BK121.out)) : gb123 ≠ gb121)); have n11_ := Aside0.mk ((by rw [hg]; exact Nat.ne_of_lt (blk_lt (g := gb122) (o := .cells #[.int .i64 a2_0, .bool true, .int .i64 a2_2] 78 (0, 0)) (by (with_reducible repeat (first | refine blk_drewN ?_ _ | refine blk_drew ?_ | refine blk_alloc ?_ _)); refine blk_put (cs := #[.int .i64 a2_0, .bool true, .int .i64 0]) ?_ 2 _ rfl; (with_reducible repeat (first | refine blk_drewN ?_ _ | refine blk_drew ?_ | refine blk_alloc ?_ _)); refine blk_put (cs := #[.int .i64 a2_0, .bool false, .int .i64 0]) ?_ 1 _ rfl; (with_reducible repeat (first | refine blk_drewN ?_ _ | refine blk_drew ?_ | refine blk_alloc ?_ _)); refine blk_put (cs := #[.int .i64 0, .bool false, .int .i64 0]) ?_ 0 _ rfl; (with_reducible repeat (first | refine blk_drewN ?_ _ | refine blk_drew ?_ | refine blk_alloc ?_ _)); exact BK122.out)) : gb122 ≠ gb123)); have n12_ := Aside0.mk ((by rw [hg]; exact Nat.ne_of_gt (blk_lt (g := gb122) (o := .cells #[.int .i64 a2_0, .bool true, .int .i64 a2_2] 78 (0, 0)) (by (with_reducible repeat (first | refine blk_drewN ?_ _ | refine blk_drew ?_ | refine blk_alloc ?_ _)); refine blk_put (cs := #[.int .i64 a2_0, .bool true, .int .i64 0]) ?_ 2 _ rfl; (with_reducible repeat (first | refine blk_drewN ?_ _ | refine blk_drew ?_ | refine blk_alloc ?_ _)); refine blk_put (cs := #[.int .i64 a2_0, .bool false, .int .i64 0]) ?_ 1 _ rfl; (with_reducible repeat (first | refine blk_drewN ?_ _ | refine blk_drew ?_ | refine blk_alloc ?_ _)); refine blk_put (cs := #[.int .i64 0, .bool false, .int .i64 0]) ?_ 0 _ rfl; (with_reducible repeat (first | refine blk_drewN ?_ _ | refine blk_drew ?_ | refine blk_alloc ?_ _)); exact BK122.out)) : gb123 ≠ gb122)); clear BK119; clear BK121; clear BK122; clear HB; have BK119 := n0_; have BK121 := n1_; have BK122 := n2_; have HB := n3_; have BK123 := n4_; have GW123 := n5_; have GE123 := n6_; have NB119_123 := n7_; have NB123_119 := n8_; have NB121_123 := n9_; have NB123_121 := n10_; have NB122_123 := n11_; have NB123_122 := n12_; clear n0_ n1_ n2_ n3_ n4_ n5_ n6_ n7_ n8_ n9_ n10_ n11_ n12_; clear hb hbox hg; have hnb78 := NB123_119.out; have hnc78 := NB119_123.out; have hnb79 := NB123_121.out; have hnc79 := NB121_123.out; have hnb80 := NB123_122.out; have hnc80 := NB122_123.out; have hcz81_0 : w77.cell? ⟨gb123, 0, none⟩ = some (.int .i64 0) := (blk_cell BK123.out 0).trans rfl; have hcz81_1 : w77.cell? ⟨gb123, 1, none⟩ = some (.bool false) := (blk_cell BK123.out 1).trans rfl; have hcz81_2 : w77.cell? ⟨gb123, 2, none⟩ = some (.int .i64 0) := (blk_cell BK123.out 2).trans rfl; have hfz81_0 := blk_frozen BK123.out 0; have hfz81_1 := blk_frozen BK123.out 1; have hfz81_2 := blk_frozen BK123.out 2; have hcz82_0 : w77.cell? ⟨gb121, 0, none⟩ = some (.int .i64 ((rd_T42 l0 a2_0).f0)) := (blk_cell BK121.out 0).trans rfl; have hcz82_1 : w77.cell? ⟨gb121, 1, none⟩ = some (.int .u64 ((rd_T42 l0 a2_0).f1.f0)) := (blk_cell BK121.out 1).trans rfl; have hcz82_2 : w77.cell? ⟨gb121, 2, none⟩ = some (.int .u64 ((rd_T42 l0 a2_0).f1.f1)) := (blk_cell BK121.out 2).trans rfl; have hcz82_3 : w77.cell? ⟨gb121, 3, none⟩ = some (.int .u64 ((rd_T42 l0 a2_0).f1.f2)) := (blk_cell BK121.out 3).trans rfl; have hcz82_4 : w77.cell? ⟨gb121, 4, none⟩ = some (.int .u64 ((rd_T42 l0 a2_0).f1.f3)) := (blk_cell BK121.out 4).trans rfl; have hcz82_5 : w77.cell? ⟨gb121, 5, none⟩ = some (.int .i64 ((rd_T42 l0 a2_0).f2.f0)) := (blk_cell BK121.out 5).trans rfl; have hcz82_6 : w77.cell? ⟨gb121, 6, none⟩ = some (.int .i64 ((rd_T42 l0 a2_0).f2.f1)) := (blk_cell BK121.out 6).trans rfl; have hfz82_0 := blk_frozen BK121.out 0; have hfz82_1 := blk_frozen BK121.out 1; have hfz82_2 := blk_frozen BK121.out 2; have hfz82_3 := blk_frozen BK121.out 3; have hfz82_4 := blk_frozen BK121.out 4; have hfz82_5 := blk_frozen BK121.out 5; have hfz82_6 := blk_frozen BK121.out 6))
          (try simp only [Act.put, List.setIfInBounds_toArray, List.set_cons_zero, List.set_cons_succ])
          go_cut [55] (fun v55 wc => ∃ (kq : Nat) (x55_63 : Bool), v55 = .bool x55_63 ∧ Aside0 (dragomanref06_within.j1 kq a1 ((rd_T42 l0 a2_0).f0) x55_63 a2_0 a2_1 a2_2 ((rd_T42 l0 a2_0).f0) ((rd_T42 l0 a2_0).f1.f0) ((rd_T42 l0 a2_0).f1.f1) ((rd_T42 l0 a2_0).f1.f2) ((rd_T42 l0 a2_0).f1.f3) ((rd_T42 l0 a2_0).f2.f0) ((rd_T42 l0 a2_0).f2.f1) a2_0 true a2_2 ((rd_T42 l0 a2_0).f2.f0) false a2_2 = some r) ∧ Aside0 (kq ≤ k) ∧ Aside0 (wc.heap[gb119]? = some (.cells #[.int .i64 a2_0, .bool a2_1, .int .i64 a2_2] 78 (0, 0))) ∧ Aside0 (wc.heap[gb121]? = some (.cells #[.int .i64 ((rd_T42 l0 a2_0).f0), .int .u64 ((rd_T42 l0 a2_0).f1.f0), .int .u64 ((rd_T42 l0 a2_0).f1.f1), .int .u64 ((rd_T42 l0 a2_0).f1.f2), .int .u64 ((rd_T42 l0 a2_0).f1.f3), .int .i64 ((rd_T42 l0 a2_0).f2.f0), .int .i64 ((rd_T42 l0 a2_0).f2.f1)] 42 (0, 0))) ∧ Aside0 (wc.heap[gb122]? = some (.cells #[.int .i64 a2_0, .bool true, .int .i64 a2_2] 78 (0, 0))) ∧ Aside0 (wc.heap[gb123]? = some (.cells #[.int .i64 ((rd_T42 l0 a2_0).f2.f0), .bool false, .int .i64 a2_2] 78 (0, 0))) ∧ Aside0 (Below w.heap.size w wc))
          case first =>
            have H := HC64.out
            clear HC64
            by_cases c83 : ((rd_T42 l0 a2_0).f0) = 2
            · rw [if_pos c83] at H
              have c83b0 : (((rd_T42 l0 a2_0).f0) == 2) = true := beq_iff_eq.mpr c83
              have c83b1 : (((rd_T42 l0 a2_0).f0) != 2) = false := bne_eq_false_iff_eq.mpr c83
              clear c83
              (first | rw [c83b0] | (simp only [i64_w, i32_w]; rw [c83b0]) | skip)
              have H' := Aside0.mk H
              clear H
              go_wp2
              go_meet
              case rel => exact ⟨_, ((((rd_T42 l0 a2_0).f0) == 2)), (by first | rfl | (simp; done) | (simp [*]; done)), H', ⟨by first | omega | exact Nat.le_refl _⟩, ⟨by (with_reducible repeat (first | refine blk_drewN ?_ _ | refine blk_drew ?_ | refine blk_alloc ?_ _)); refine blk_far ?_ NB119_123.out _; (with_reducible repeat (first | refine blk_drewN ?_ _ | refine blk_drew ?_ | refine blk_alloc ?_ _)); refine blk_far ?_ NB119_123.out _; (with_reducible repeat (first | refine blk_drewN ?_ _ | refine blk_drew ?_ | refine blk_alloc ?_ _)); refine blk_far ?_ NB119_123.out _; (with_reducible repeat (first | refine blk_drewN ?_ _ | refine blk_drew ?_ | refine blk_alloc ?_ _)); exact BK119.out⟩, ⟨by (with_reducible repeat (first | refine blk_drewN ?_ _ | refine blk_drew ?_ | refine blk_alloc ?_ _)); refine blk_far ?_ NB121_123.out _; (with_reducible repeat (first | refine blk_drewN ?_ _ | refine blk_drew ?_ | refine blk_alloc ?_ _)); refine blk_far ?_ NB121_123.out _; (with_reducible repeat (first | refine blk_drewN ?_ _ | refine blk_drew ?_ | refine blk_alloc ?_ _)); refine blk_far ?_ NB121_123.out _; (with_reducible repeat (first | refine blk_drewN ?_ _ | refine blk_drew ?_ | refine blk_alloc ?_ _)); exact BK121.out⟩, ⟨by (with_reducible repeat (first | refine blk_drewN ?_ _ | refine blk_drew ?_ | refine blk_alloc ?_ _)); refine blk_far ?_ NB122_123.out _; (with_reducible repeat (first | refine blk_drewN ?_ _ | refine blk_drew ?_ | refine blk_alloc ?_ _)); refine blk_far ?_ NB122_123.out _; (with_reducible repeat (first | refine blk_drewN ?_ _ | refine blk_drew ?_ | refine blk_alloc ?_ _)); refine blk_far ?_ NB122_123.out _; (with_reducible repeat (first | refine blk_drewN ?_ _ | refine blk_drew ?_ | refine blk_alloc ?_ _)); exact BK122.out⟩, ⟨by (with_reducible repeat (first | refine blk_drewN ?_ _ | refine blk_drew ?_ | refine blk_alloc ?_ _)); refine blk_put (cs := #[.int .i64 ((rd_T42 l0 a2_0).f2.f0), .bool false, .int .i64 0]) ?_ 2 _ rfl; (with_reducible repeat (first | refine blk_drewN ?_ _ | refine blk_drew ?_ | refine blk_alloc ?_ _)); refine blk_put (cs := #[.int .i64 ((rd_T42 l0 a2_0).f2.f0), .bool false, .int .i64 0]) ?_ 1 _ rfl; (with_reducible repeat (first | refine blk_drewN ?_ _ | refine blk_drew ?_ | refine blk_alloc ?_ _)); refine blk_put (cs := #[.int .i64 0, .bool false, .int .i64 0]) ?_ 0 _ rfl; (with_reducible repeat (first | refine blk_drewN ?_ _ | refine blk_drew ?_ | refine blk_alloc ?_ _)); exact BK123.out⟩, ⟨by repeat (first | (with_reducible first | exact HB.out | apply below_alloc | apply pw_below_drewN | apply below_drew1 | refine below_set ?_ GE119.out | refine below_set ?_ GE121.out | refine below_set ?_ GE122.out | refine below_set ?_ GE123.out) | exact HB.out)⟩⟩
            · rw [if_neg c83] at H
              have c83b0 : (((rd_T42 l0 a2_0).f0) == 2) = false := beq_eq_false_iff_ne.mpr c83
              have c83b1 : (((rd_T42 l0 a2_0).f0) != 2) = true := bne_iff_ne.mpr c83
              (first | rw [c83b0] | (simp only [i64_w, i32_w]; rw [c83b0]) | skip)
              have H' := Aside0.mk H
              clear H
              go_wp2
              go_meet
              case rel => exact ⟨_, ((((rd_T42 l0 a2_0).f0) == 5)), (by first | rfl | (simp; done) | (simp [*]; done)), H', ⟨by first | omega | exact Nat.le_refl _⟩, ⟨by (with_reducible repeat (first | refine blk_drewN ?_ _ | refine blk_drew ?_ | refine blk_alloc ?_ _)); refine blk_far ?_ NB119_123.out _; (with_reducible repeat (first | refine blk_drewN ?_ _ | refine blk_drew ?_ | refine blk_alloc ?_ _)); refine blk_far ?_ NB119_123.out _; (with_reducible repeat (first | refine blk_drewN ?_ _ | refine blk_drew ?_ | refine blk_alloc ?_ _)); refine blk_far ?_ NB119_123.out _; (with_reducible repeat (first | refine blk_drewN ?_ _ | refine blk_drew ?_ | refine blk_alloc ?_ _)); exact BK119.out⟩, ⟨by (with_reducible repeat (first | refine blk_drewN ?_ _ | refine blk_drew ?_ | refine blk_alloc ?_ _)); refine blk_far ?_ NB121_123.out _; (with_reducible repeat (first | refine blk_drewN ?_ _ | refine blk_drew ?_ | refine blk_alloc ?_ _)); refine blk_far ?_ NB121_123.out _; (with_reducible repeat (first | refine blk_drewN ?_ _ | refine blk_drew ?_ | refine blk_alloc ?_ _)); refine blk_far ?_ NB121_123.out _; (with_reducible repeat (first | refine blk_drewN ?_ _ | refine blk_drew ?_ | refine blk_alloc ?_ _)); exact BK121.out⟩, ⟨by (with_reducible repeat (first | refine blk_drewN ?_ _ | refine blk_drew ?_ | refine blk_alloc ?_ _)); refine blk_far ?_ NB122_123.out _; (with_reducible repeat (first | refine blk_drewN ?_ _ | refine blk_drew ?_ | refine blk_alloc ?_ _)); refine blk_far ?_ NB122_123.out _; (with_reducible repeat (first | refine blk_drewN ?_ _ | refine blk_drew ?_ | refine blk_alloc ?_ _)); refine blk_far ?_ NB122_123.out _; (with_reducible repeat (first | refine blk_drewN ?_ _ | refine blk_drew ?_ | refine blk_alloc ?_ _)); exact BK122.out⟩, ⟨by (with_reducible repeat (first | refine blk_drewN ?_ _ | refine blk_drew ?_ | refine blk_alloc ?_ _)); refine blk_put (cs := #[.int .i64 ((rd_T42 l0 a2_0).f2.f0), .bool false, .int .i64 0]) ?_ 2 _ rfl; (with_reducible repeat (first | refine blk_drewN ?_ _ | refine blk_drew ?_ | refine blk_alloc ?_ _)); refine blk_put (cs := #[.int .i64 ((rd_T42 l0 a2_0).f2.f0), .bool false, .int .i64 0]) ?_ 1 _ rfl; (with_reducible repeat (first | refine blk_drewN ?_ _ | refine blk_drew ?_ | refine blk_alloc ?_ _)); refine blk_put (cs := #[.int .i64 0, .bool false, .int .i64 0]) ?_ 0 _ rfl; (with_reducible repeat (first | refine blk_drewN ?_ _ | refine blk_drew ?_ | refine blk_alloc ?_ _)); exact BK123.out⟩, ⟨by repeat (first | (with_reducible first | exact HB.out | apply below_alloc | apply pw_below_drewN | apply below_drew1 | refine below_set ?_ GE119.out | refine below_set ?_ GE121.out | refine below_set ?_ GE122.out | refine below_set ?_ GE123.out) | exact HB.out)⟩⟩
          case rest =>
            clear HC64
            try clear c1
            try clear p1
            try clear q1
            try clear hx1
            try clear c2
            try clear p2
            try clear c3
            try clear c4
            try clear c4b0
            try clear c5
            try clear c5b0
            try clear p5
            try clear q5
            try clear hx5
            try clear c6
            try clear c6b0
            try clear c6b1
            try clear p6
            try clear c7
            try clear c8
            try clear c10
            try clear p12
            try clear q12
            try clear hx12
            try clear c14
            try clear c15
            try clear c17
            try clear c20
            try clear c21
            try clear c22
            try clear c28
            try clear c28b0
            try clear c28b1
            try clear c33
            try clear c37
            try clear c38
            try clear c43
            try clear c44
            try clear c45
            try clear c48
            try clear c48b0
            try clear c49
            try clear c49b0
            try clear p50
            try clear q50
            try clear hx50
            try clear c57
            try clear c58
            try clear c59
            try clear c60
            try clear p64
            try clear c68
            try clear c72
            try clear c73
            try clear c78
            try clear c79
            try clear c80
            try clear c83
            try clear c83b0
            try clear c83b1
            try clear hcz11_0
            try clear hcz11_1
            try clear hcz11_2
            try clear hcz11_3
            try clear hcz11_4
            try clear hcz11_5
            try clear hcz11_6
            try clear hcz12_0
            try clear hcz12_1
            try clear hcz12_2
            try clear hcz16_0
            try clear hcz16_1
            try clear hcz16_2
            try clear hcz17_0
            try clear hcz17_1
            try clear hcz17_2
            try clear hcz17_3
            try clear hcz17_4
            try clear hcz17_5
            try clear hcz17_6
            try clear hcz18_0
            try clear hcz18_1
            try clear hcz18_2
            try clear hcz23_0
            try clear hcz23_1
            try clear hcz23_2
            try clear hcz24_0
            try clear hcz24_1
            try clear hcz24_2
            try clear hcz24_3
            try clear hcz24_4
            try clear hcz24_5
            try clear hcz24_6
            try clear hcz25_0
            try clear hcz25_1
            try clear hcz25_2
            try clear hcz31_0
            try clear hcz31_1
            try clear hcz31_2
            try clear hcz34_0
            try clear hcz34_1
            try clear hcz34_2
            try clear hcz34_3
            try clear hcz34_4
            try clear hcz34_5
            try clear hcz34_6
            try clear hcz35_0
            try clear hcz35_1
            try clear hcz35_2
            try clear hcz39_0
            try clear hcz39_1
            try clear hcz39_2
            try clear hcz40_0
            try clear hcz40_1
            try clear hcz40_2
            try clear hcz40_3
            try clear hcz40_4
            try clear hcz40_5
            try clear hcz40_6
            try clear hcz41_0
            try clear hcz41_1
            try clear hcz41_2
            try clear hcz46_0
            try clear hcz46_1
            try clear hcz46_2
            try clear hcz47_0
            try clear hcz47_1
            try clear hcz47_2
            try clear hcz47_3
            try clear hcz47_4
            try clear hcz47_5
            try clear hcz47_6
            try clear hcz61_0
            try clear hcz61_1
            try clear hcz61_2
            try clear hcz66_0
            try clear hcz66_1
            try clear hcz66_2
            try clear hcz69_0
            try clear hcz69_1
            try clear hcz69_2
            try clear hcz69_3
            try clear hcz69_4
            try clear hcz69_5
            try clear hcz69_6
            try clear hcz70_0
            try clear hcz70_1
            try clear hcz70_2
            try clear hcz74_0
            try clear hcz74_1
            try clear hcz74_2
            try clear hcz75_0
            try clear hcz75_1
            try clear hcz75_2
            try clear hcz75_3
            try clear hcz75_4
            try clear hcz75_5
            try clear hcz75_6
            try clear hcz76_0
            try clear hcz76_1
            try clear hcz76_2
            try clear hcz81_0
            try clear hcz81_1
            try clear hcz81_2
            try clear hcz82_0
            try clear hcz82_1
            try clear hcz82_2
            try clear hcz82_3
            try clear hcz82_4
            try clear hcz82_5
            try clear hcz82_6
            try clear hcz8_0
            try clear hcz8_1
            try clear hcz8_2
            try clear hfz11_0
            try clear hfz11_1
            try clear hfz11_2
            try clear hfz11_3
            try clear hfz11_4
            try clear hfz11_5
            try clear hfz11_6
            try clear hfz12_0
            try clear hfz12_1
            try clear hfz12_2
            try clear hfz16_0
            try clear hfz16_1
            try clear hfz16_2
            try clear hfz17_0
            try clear hfz17_1
            try clear hfz17_2
            try clear hfz17_3
            try clear hfz17_4
            try clear hfz17_5
            try clear hfz17_6
            try clear hfz18_0
            try clear hfz18_1
            try clear hfz18_2
            try clear hfz23_0
            try clear hfz23_1
            try clear hfz23_2
            try clear hfz24_0
            try clear hfz24_1
            try clear hfz24_2
            try clear hfz24_3
            try clear hfz24_4
            try clear hfz24_5
            try clear hfz24_6
            try clear hfz25_0
            try clear hfz25_1
            try clear hfz25_2
            try clear hfz31_0
            try clear hfz31_1
            try clear hfz31_2
            try clear hfz34_0
            try clear hfz34_1
            try clear hfz34_2
            try clear hfz34_3
            try clear hfz34_4
            try clear hfz34_5
            try clear hfz34_6
            try clear hfz35_0
            try clear hfz35_1
            try clear hfz35_2
            try clear hfz39_0
            try clear hfz39_1
            try clear hfz39_2
            try clear hfz40_0
            try clear hfz40_1
            try clear hfz40_2
            try clear hfz40_3
            try clear hfz40_4
            try clear hfz40_5
            try clear hfz40_6
            try clear hfz41_0
            try clear hfz41_1
            try clear hfz41_2
            try clear hfz46_0
            try clear hfz46_1
            try clear hfz46_2
            try clear hfz47_0
            try clear hfz47_1
            try clear hfz47_2
            try clear hfz47_3
            try clear hfz47_4
            try clear hfz47_5
            try clear hfz47_6
            try clear hfz61_0
            try clear hfz61_1
            try clear hfz61_2
            try clear hfz66_0
            try clear hfz66_1
            try clear hfz66_2
            try clear hfz69_0
            try clear hfz69_1
            try clear hfz69_2
            try clear hfz69_3
            try clear hfz69_4
            try clear hfz69_5
            try clear hfz69_6
            try clear hfz70_0
            try clear hfz70_1
            try clear hfz70_2
            try clear hfz74_0
            try clear hfz74_1
            try clear hfz74_2
            try clear hfz75_0
            try clear hfz75_1
            try clear hfz75_2
            try clear hfz75_3
            try clear hfz75_4
            try clear hfz75_5
            try clear hfz75_6
            try clear hfz76_0
            try clear hfz76_1
            try clear hfz76_2
            try clear hfz81_0
            try clear hfz81_1
            try clear hfz81_2
            try clear hfz82_0
            try clear hfz82_1
            try clear hfz82_2
            try clear hfz82_3
            try clear hfz82_4
            try clear hfz82_5
            try clear hfz82_6
            try clear hfz8_0
            try clear hfz8_1
            try clear hfz8_2
            try clear hx120_0
            try clear hx120_1
            try clear hx120_2
            try clear hx120_3
            try clear hx120_4
            try clear hx120_5
            try clear hx120_6
            try clear p1
            try clear p12
            try clear p120
            try clear p2
            try clear p5
            try clear p50
            try clear q1
            try clear q12
            try clear q120
            try clear q5
            try clear q50
            obtain ⟨kq, x55_63, rfl, HA, HJ63, BK119, BK121, BK122, BK123, HB⟩ := hcut
            cases kq with
            | zero => exact absurd HA.out (by simp [dragomanref06_within.j1])
            | succ kj63 =>
              have H := HA.out
              clear HA
              simp only [dragomanref06_within.j1] at H
              by_cases c84 : x55_63 = true
              · subst c84
                have H1 : (some (([(⟨((rd_T42 l0 a2_0).f2.f0), false, a2_2⟩ : S78)] : List (S78)))) = some r := by rw [if_pos rfl] at H; exact H
                clear H
                have H := H1
                clear H1
                obtain ⟨y131, hy131⟩ : ∃ y_ : List (S78), y_ = (([(⟨((rd_T42 l0 a2_0).f2.f0), false, a2_2⟩ : S78)] : List (S78))) := ⟨_, rfl⟩
                replace H : (some y131) = some r := by first | (rw [hy131]; with_reducible exact H) | (have H2_ := (Option.bind_some _ _).symm.trans H; rw [hy131]; with_reducible exact H2_) | (have H2_ := (Option.bind_some _ _).symm.trans H; with_reducible exact H2_) | with_reducible exact H | (rw [hy131]; exact H) | exact H
                have Ny131 := Aside0.mk hy131
                clear hy131
                obtain rfl := Option.some.inj H
                have hnb85 := NB123_119.out
                have hnc85 := NB119_123.out
                have hnb86 := NB123_121.out
                have hnc86 := NB121_123.out
                have hnb87 := NB123_122.out
                have hnc87 := NB122_123.out
                have hcz88_0 : wc.cell? ⟨gb123, 0, none⟩ = some (.int .i64 ((rd_T42 l0 a2_0).f2.f0)) := (blk_cell BK123.out 0).trans rfl
                have hcz88_1 : wc.cell? ⟨gb123, 1, none⟩ = some (.bool false) := (blk_cell BK123.out 1).trans rfl
                have hcz88_2 : wc.cell? ⟨gb123, 2, none⟩ = some (.int .i64 a2_2) := (blk_cell BK123.out 2).trans rfl
                have hfz88_0 := blk_frozen BK123.out 0
                have hfz88_1 := blk_frozen BK123.out 1
                have hfz88_2 := blk_frozen BK123.out 2
                go_wp2_with (first | ((with_reducible refine gate_dst (N := 59) rfl ?_); refine Kd.R_lit k78 _ 78 ?hg (N := 59) ?hd (xs := ([(⟨((rd_T42 l0 a2_0).f2.f0), false, a2_2⟩ : S78)] : List (S78))) (inner := [.int .i64 ((rd_T42 l0 a2_0).f2.f0), .bool false, .int .i64 a2_2]) (ok := fun _ => True) (okp := fun _ => True) ?hr ?hp (fun _ hk => hk) trivial (Below.refl _ _) (Nat.le_refl _) (by simp) ?_; (case hd => rfl); (case hg => rfl); (case hr => first | (go_simp; done) | (go_simp; rfl)); (case hp => exact (Reps.c3 (show Kd.M k78 _ _ _ (⟨((rd_T42 l0 a2_0).f2.f0), false, a2_2⟩ : S78) [.int .i64 ((rd_T42 l0 a2_0).f2.f0), .bool false, .int .i64 a2_2] from (k78_mkM _ _ _ (⟨((rd_T42 l0 a2_0).f2.f0), false, a2_2⟩ : S78) )) (Reps.none _ _))); intro v132 w89 ho90 hb hg_ hnew_; clear hg_ hnew_; (first | rw [← Ny131.out] at ho90 | (simp only [Int.reduceToNat] at ho90; rw [← Ny131.out] at ho90)); have n0_ := Aside0.mk (Kd.R_lower (Kd.R_newB (Kd.R_newB (Kd.R_newB ho90 (g := gb119) (o := .cells #[.int .i64 a2_0, .bool a2_1, .int .i64 a2_2] 78 (0, 0)) (by (with_reducible repeat (first | refine blk_drewN ?_ _ | refine blk_drew ?_ | refine blk_alloc ?_ _)); exact BK119.out)) (g := gb122) (o := .cells #[.int .i64 a2_0, .bool true, .int .i64 a2_2] 78 (0, 0)) (by (with_reducible repeat (first | refine blk_drewN ?_ _ | refine blk_drew ?_ | refine blk_alloc ?_ _)); exact BK122.out)) (g := gb123) (o := .cells #[.int .i64 ((rd_T42 l0 a2_0).f2.f0), .bool false, .int .i64 a2_2] 78 (0, 0)) (by (with_reducible repeat (first | refine blk_drewN ?_ _ | refine blk_drew ?_ | refine blk_alloc ?_ _)); exact BK123.out)) (below_size (by repeat (first | (with_reducible first | exact HB.out | apply below_alloc | apply pw_below_drewN | apply below_drew1 | refine below_set ?_ GE119.out | refine below_set ?_ GE121.out | refine below_set ?_ GE122.out | refine below_set ?_ GE123.out) | exact HB.out)))); have n1_ := Aside0.mk (blk_below (g := gb119) (o := .cells #[.int .i64 a2_0, .bool a2_1, .int .i64 a2_2] 78 (0, 0)) (by (with_reducible repeat (first | refine blk_drewN ?_ _ | refine blk_drew ?_ | refine blk_alloc ?_ _)); exact BK119.out) hb); have n2_ := Aside0.mk (blk_below (g := gb121) (o := .cells #[.int .i64 ((rd_T42 l0 a2_0).f0), .int .u64 ((rd_T42 l0 a2_0).f1.f0), .int .u64 ((rd_T42 l0 a2_0).f1.f1), .int .u64 ((rd_T42 l0 a2_0).f1.f2), .int .u64 ((rd_T42 l0 a2_0).f1.f3), .int .i64 ((rd_T42 l0 a2_0).f2.f0), .int .i64 ((rd_T42 l0 a2_0).f2.f1)] 42 (0, 0)) (by (with_reducible repeat (first | refine blk_drewN ?_ _ | refine blk_drew ?_ | refine blk_alloc ?_ _)); exact BK121.out) hb); have n3_ := Aside0.mk (blk_below (g := gb122) (o := .cells #[.int .i64 a2_0, .bool true, .int .i64 a2_2] 78 (0, 0)) (by (with_reducible repeat (first | refine blk_drewN ?_ _ | refine blk_drew ?_ | refine blk_alloc ?_ _)); exact BK122.out) hb); have n4_ := Aside0.mk (blk_below (g := gb123) (o := .cells #[.int .i64 ((rd_T42 l0 a2_0).f2.f0), .bool false, .int .i64 a2_2] 78 (0, 0)) (by (with_reducible repeat (first | refine blk_drewN ?_ _ | refine blk_drew ?_ | refine blk_alloc ?_ _)); exact BK123.out) hb); have n5_ := Aside0.mk (below_step (by repeat (first | (with_reducible first | exact HB.out | apply below_alloc | apply pw_below_drewN | apply below_drew1 | refine below_set ?_ GE119.out | refine below_set ?_ GE121.out | refine below_set ?_ GE122.out | refine below_set ?_ GE123.out) | exact HB.out)) hb); clear BK119; clear BK121; clear BK122; clear BK123; clear HB; have HO133 := n0_; have BK119 := n1_; have BK121 := n2_; have BK122 := n3_; have BK123 := n4_; have HB := n5_; clear n0_ n1_ n2_ n3_ n4_ n5_; clear hb ho90))
                go_ret
                exact ⟨_, by first | rfl | (simp [errW_none, errW_some] <;> rfl) | (simp [*, errW_none, errW_some] <;> rfl), by (with_reducible repeat (first | apply Kd.R_alloc | apply Kd.R_drewN | apply Kd.R_drew)); exact Kd.R_mono HO133.out (fun _ hk => trivial), by repeat (first | (with_reducible first | exact HB.out | apply below_alloc | apply pw_below_drewN | apply below_drew1 | refine below_set ?_ GE119.out | refine below_set ?_ GE121.out | refine below_set ?_ GE122.out | refine below_set ?_ GE123.out) | exact HB.out)⟩
              · replace c84 := Bool.eq_false_iff.mpr c84
                subst c84
                have H1 : (if ((rd_T42 l0 a2_0).f0) = 3 then (some (([(⟨((rd_T42 l0 a2_0).f2.f0), false, a2_2⟩ : S78), (⟨((rd_T42 l0 a2_0).f2.f1), false, a2_2⟩ : S78)] : List (S78)))) else (if ((rd_T42 l0 a2_0).f0) = 4 then (dragomanref06_within.j2 kj63 a1 ((rd_T42 l0 a2_0).f0) (((rd_T42 l0 a2_0).f0) == 4) a2_0 a2_1 a2_2 a2_0 true a2_2 ((rd_T42 l0 a2_0).f2.f0) false a2_2) else (dragomanref06_within.j2 kj63 a1 ((rd_T42 l0 a2_0).f0) (((rd_T42 l0 a2_0).f0) == 6) a2_0 a2_1 a2_2 a2_0 true a2_2 ((rd_T42 l0 a2_0).f2.f0) false a2_2))) = some r := by rw [if_neg (show ¬ (false = true) by decide)] at H; exact H
                clear H
                have H := H1
                clear H1
                by_cases c91 : ((rd_T42 l0 a2_0).f0) = 3
                · rw [if_pos c91] at H
                  have c91b0 : (((rd_T42 l0 a2_0).f0) == 3) = true := beq_iff_eq.mpr c91
                  have c91b1 : (((rd_T42 l0 a2_0).f0) != 3) = false := bne_eq_false_iff_eq.mpr c91
                  clear c91
                  obtain ⟨y134, hy134⟩ : ∃ y_ : List (S78), y_ = (([(⟨((rd_T42 l0 a2_0).f2.f0), false, a2_2⟩ : S78), (⟨((rd_T42 l0 a2_0).f2.f1), false, a2_2⟩ : S78)] : List (S78))) := ⟨_, rfl⟩
                  replace H : (some y134) = some r := by first | (rw [hy134]; with_reducible exact H) | (have H2_ := (Option.bind_some _ _).symm.trans H; rw [hy134]; with_reducible exact H2_) | (have H2_ := (Option.bind_some _ _).symm.trans H; with_reducible exact H2_) | with_reducible exact H | (rw [hy134]; exact H) | exact H
                  have Ny134 := Aside0.mk hy134
                  clear hy134
                  obtain rfl := Option.some.inj H
                  have hnb92 := NB123_119.out
                  have hnc92 := NB119_123.out
                  have hnb93 := NB123_121.out
                  have hnc93 := NB121_123.out
                  have hnb94 := NB123_122.out
                  have hnc94 := NB122_123.out
                  have hcz95_0 : wc.cell? ⟨gb123, 0, none⟩ = some (.int .i64 ((rd_T42 l0 a2_0).f2.f0)) := (blk_cell BK123.out 0).trans rfl
                  have hcz95_1 : wc.cell? ⟨gb123, 1, none⟩ = some (.bool false) := (blk_cell BK123.out 1).trans rfl
                  have hcz95_2 : wc.cell? ⟨gb123, 2, none⟩ = some (.int .i64 a2_2) := (blk_cell BK123.out 2).trans rfl
                  have hfz95_0 := blk_frozen BK123.out 0
                  have hfz95_1 := blk_frozen BK123.out 1
                  have hfz95_2 := blk_frozen BK123.out 2
                  have hnb96 := NB121_119.out
                  have hnc96 := NB119_121.out
                  have hnb97 := NB121_122.out
                  have hnc97 := NB122_121.out
                  have hcz98_0 : wc.cell? ⟨gb121, 0, none⟩ = some (.int .i64 ((rd_T42 l0 a2_0).f0)) := (blk_cell BK121.out 0).trans rfl
                  have hcz98_1 : wc.cell? ⟨gb121, 1, none⟩ = some (.int .u64 ((rd_T42 l0 a2_0).f1.f0)) := (blk_cell BK121.out 1).trans rfl
                  have hcz98_2 : wc.cell? ⟨gb121, 2, none⟩ = some (.int .u64 ((rd_T42 l0 a2_0).f1.f1)) := (blk_cell BK121.out 2).trans rfl
                  have hcz98_3 : wc.cell? ⟨gb121, 3, none⟩ = some (.int .u64 ((rd_T42 l0 a2_0).f1.f2)) := (blk_cell BK121.out 3).trans rfl
                  have hcz98_4 : wc.cell? ⟨gb121, 4, none⟩ = some (.int .u64 ((rd_T42 l0 a2_0).f1.f3)) := (blk_cell BK121.out 4).trans rfl
                  have hcz98_5 : wc.cell? ⟨gb121, 5, none⟩ = some (.int .i64 ((rd_T42 l0 a2_0).f2.f0)) := (blk_cell BK121.out 5).trans rfl
                  have hcz98_6 : wc.cell? ⟨gb121, 6, none⟩ = some (.int .i64 ((rd_T42 l0 a2_0).f2.f1)) := (blk_cell BK121.out 6).trans rfl
                  have hfz98_0 := blk_frozen BK121.out 0
                  have hfz98_1 := blk_frozen BK121.out 1
                  have hfz98_2 := blk_frozen BK121.out 2
                  have hfz98_3 := blk_frozen BK121.out 3
                  have hfz98_4 := blk_frozen BK121.out 4
                  have hfz98_5 := blk_frozen BK121.out 5
                  have hfz98_6 := blk_frozen BK121.out 6
                  have hnb99 := NB119_122.out
                  have hnc99 := NB122_119.out
                  have hcz100_0 : wc.cell? ⟨gb119, 0, none⟩ = some (.int .i64 a2_0) := (blk_cell BK119.out 0).trans rfl
                  have hcz100_1 : wc.cell? ⟨gb119, 1, none⟩ = some (.bool a2_1) := (blk_cell BK119.out 1).trans rfl
                  have hcz100_2 : wc.cell? ⟨gb119, 2, none⟩ = some (.int .i64 a2_2) := (blk_cell BK119.out 2).trans rfl
                  have hfz100_0 := blk_frozen BK119.out 0
                  have hfz100_1 := blk_frozen BK119.out 1
                  have hfz100_2 := blk_frozen BK119.out 2
                  go_wp2_with (first | ((with_reducible refine gate_dst (N := 69) rfl ?_); refine Kd.R_lit k78 _ 78 ?hg (N := 69) ?hd (xs := ([(⟨((rd_T42 l0 a2_0).f2.f0), false, a2_2⟩ : S78), (⟨((rd_T42 l0 a2_0).f2.f1), false, a2_2⟩ : S78)] : List (S78))) (inner := [.int .i64 ((rd_T42 l0 a2_0).f2.f0), .bool false, .int .i64 a2_2, .int .i64 ((rd_T42 l0 a2_0).f2.f1), .bool false, .int .i64 a2_2]) (ok := fun _ => True) (okp := fun _ => True) ?hr ?hp (fun _ hk => hk) trivial (Below.refl _ _) (Nat.le_refl _) (by simp) ?_; (case hd => rfl); (case hg => rfl); (case hr => first | (go_simp; done) | (go_simp; rfl)); (case hp => exact (Reps.c3 (show Kd.M k78 _ _ _ (⟨((rd_T42 l0 a2_0).f2.f0), false, a2_2⟩ : S78) [.int .i64 ((rd_T42 l0 a2_0).f2.f0), .bool false, .int .i64 a2_2] from (k78_mkM _ _ _ (⟨((rd_T42 l0 a2_0).f2.f0), false, a2_2⟩ : S78) )) (Reps.c3 (show Kd.M k78 _ _ _ (⟨((rd_T42 l0 a2_0).f2.f1), false, a2_2⟩ : S78) [.int .i64 ((rd_T42 l0 a2_0).f2.f1), .bool false, .int .i64 a2_2] from (k78_mkM _ _ _ (⟨((rd_T42 l0 a2_0).f2.f1), false, a2_2⟩ : S78) )) (Reps.none _ _)))); intro v135 w101 ho102 hb hg_ hnew_; clear hg_ hnew_; (first | rw [← Ny134.out] at ho102 | (simp only [Int.reduceToNat] at ho102; rw [← Ny134.out] at ho102)); have n0_ := Aside0.mk (Kd.R_lower (Kd.R_newB (Kd.R_newB (Kd.R_newB ho102 (g := gb119) (o := .cells #[.int .i64 a2_0, .bool a2_1, .int .i64 a2_2] 78 (0, 0)) (by (with_reducible repeat (first | refine blk_drewN ?_ _ | refine blk_drew ?_ | refine blk_alloc ?_ _)); exact BK119.out)) (g := gb122) (o := .cells #[.int .i64 a2_0, .bool true, .int .i64 a2_2] 78 (0, 0)) (by (with_reducible repeat (first | refine blk_drewN ?_ _ | refine blk_drew ?_ | refine blk_alloc ?_ _)); exact BK122.out)) (g := gb123) (o := .cells #[.int .i64 ((rd_T42 l0 a2_0).f2.f0), .bool false, .int .i64 a2_2] 78 (0, 0)) (by (with_reducible repeat (first | refine blk_drewN ?_ _ | refine blk_drew ?_ | refine blk_alloc ?_ _)); exact BK123.out)) (below_size (by repeat (first | (with_reducible first | exact HB.out | apply below_alloc | apply pw_below_drewN | apply below_drew1 | refine below_set ?_ GE119.out | refine below_set ?_ GE121.out | refine below_set ?_ GE122.out | refine below_set ?_ GE123.out) | exact HB.out)))); have n1_ := Aside0.mk (blk_below (g := gb119) (o := .cells #[.int .i64 a2_0, .bool a2_1, .int .i64 a2_2] 78 (0, 0)) (by (with_reducible repeat (first | refine blk_drewN ?_ _ | refine blk_drew ?_ | refine blk_alloc ?_ _)); exact BK119.out) hb); have n2_ := Aside0.mk (blk_below (g := gb121) (o := .cells #[.int .i64 ((rd_T42 l0 a2_0).f0), .int .u64 ((rd_T42 l0 a2_0).f1.f0), .int .u64 ((rd_T42 l0 a2_0).f1.f1), .int .u64 ((rd_T42 l0 a2_0).f1.f2), .int .u64 ((rd_T42 l0 a2_0).f1.f3), .int .i64 ((rd_T42 l0 a2_0).f2.f0), .int .i64 ((rd_T42 l0 a2_0).f2.f1)] 42 (0, 0)) (by (with_reducible repeat (first | refine blk_drewN ?_ _ | refine blk_drew ?_ | refine blk_alloc ?_ _)); exact BK121.out) hb); have n3_ := Aside0.mk (blk_below (g := gb122) (o := .cells #[.int .i64 a2_0, .bool true, .int .i64 a2_2] 78 (0, 0)) (by (with_reducible repeat (first | refine blk_drewN ?_ _ | refine blk_drew ?_ | refine blk_alloc ?_ _)); exact BK122.out) hb); have n4_ := Aside0.mk (blk_below (g := gb123) (o := .cells #[.int .i64 ((rd_T42 l0 a2_0).f2.f0), .bool false, .int .i64 a2_2] 78 (0, 0)) (by (with_reducible repeat (first | refine blk_drewN ?_ _ | refine blk_drew ?_ | refine blk_alloc ?_ _)); exact BK123.out) hb); have n5_ := Aside0.mk (below_step (by repeat (first | (with_reducible first | exact HB.out | apply below_alloc | apply pw_below_drewN | apply below_drew1 | refine below_set ?_ GE119.out | refine below_set ?_ GE121.out | refine below_set ?_ GE122.out | refine below_set ?_ GE123.out) | exact HB.out)) hb); clear BK119; clear BK121; clear BK122; clear BK123; clear HB; have HO136 := n0_; have BK119 := n1_; have BK121 := n2_; have BK122 := n3_; have BK123 := n4_; have HB := n5_; clear n0_ n1_ n2_ n3_ n4_ n5_; clear hb ho102))
                  go_ret
                  exact ⟨_, by first | rfl | (simp [errW_none, errW_some] <;> rfl) | (simp [*, errW_none, errW_some] <;> rfl), by (with_reducible repeat (first | apply Kd.R_alloc | apply Kd.R_drewN | apply Kd.R_drew)); exact Kd.R_mono HO136.out (fun _ hk => trivial), by repeat (first | (with_reducible first | exact HB.out | apply below_alloc | apply pw_below_drewN | apply below_drew1 | refine below_set ?_ GE119.out | refine below_set ?_ GE121.out | refine below_set ?_ GE122.out | refine below_set ?_ GE123.out) | exact HB.out)⟩
                · rw [if_neg c91] at H
                  have c91b0 : (((rd_T42 l0 a2_0).f0) == 3) = false := beq_eq_false_iff_ne.mpr c91
                  have c91b1 : (((rd_T42 l0 a2_0).f0) != 3) = true := bne_iff_ne.mpr c91
                  have HC103 := Aside0.mk H
                  clear H
                  go_upto_if 70 with (fail)
                  go_cut [70] (fun v70 wc => ∃ (kq : Nat) (x70_102 : Bool), v70 = .bool x70_102 ∧ Aside0 (dragomanref06_within.j2 kq a1 ((rd_T42 l0 a2_0).f0) x70_102 a2_0 a2_1 a2_2 a2_0 true a2_2 ((rd_T42 l0 a2_0).f2.f0) false a2_2 = some r) ∧ Aside0 (kq ≤ kj63) ∧ Aside0 (wc.heap[gb119]? = some (.cells #[.int .i64 a2_0, .bool a2_1, .int .i64 a2_2] 78 (0, 0))) ∧ Aside0 (wc.heap[gb121]? = some (.cells #[.int .i64 ((rd_T42 l0 a2_0).f0), .int .u64 ((rd_T42 l0 a2_0).f1.f0), .int .u64 ((rd_T42 l0 a2_0).f1.f1), .int .u64 ((rd_T42 l0 a2_0).f1.f2), .int .u64 ((rd_T42 l0 a2_0).f1.f3), .int .i64 ((rd_T42 l0 a2_0).f2.f0), .int .i64 ((rd_T42 l0 a2_0).f2.f1)] 42 (0, 0))) ∧ Aside0 (wc.heap[gb122]? = some (.cells #[.int .i64 a2_0, .bool true, .int .i64 a2_2] 78 (0, 0))) ∧ Aside0 (wc.heap[gb123]? = some (.cells #[.int .i64 ((rd_T42 l0 a2_0).f2.f0), .bool false, .int .i64 a2_2] 78 (0, 0))) ∧ Aside0 (Below w.heap.size w wc))
                  case first =>
                    have H := HC103.out
                    clear HC103
                    by_cases c104 : ((rd_T42 l0 a2_0).f0) = 4
                    · rw [if_pos c104] at H
                      have c104b0 : (((rd_T42 l0 a2_0).f0) == 4) = true := beq_iff_eq.mpr c104
                      have c104b1 : (((rd_T42 l0 a2_0).f0) != 4) = false := bne_eq_false_iff_eq.mpr c104
                      clear c104
                      (first | rw [c104b0] | (simp only [i64_w, i32_w]; rw [c104b0]) | skip)
                      have H' := Aside0.mk H
                      clear H
                      go_wp2
                      go_meet
                      case rel => exact ⟨_, ((((rd_T42 l0 a2_0).f0) == 4)), (by first | rfl | (simp; done) | (simp [*]; done)), H', ⟨by have := HJ63.out; first | omega | exact Nat.le_refl _⟩, ⟨by (with_reducible repeat (first | refine blk_drewN ?_ _ | refine blk_drew ?_ | refine blk_alloc ?_ _)); exact BK119.out⟩, ⟨by (with_reducible repeat (first | refine blk_drewN ?_ _ | refine blk_drew ?_ | refine blk_alloc ?_ _)); exact BK121.out⟩, ⟨by (with_reducible repeat (first | refine blk_drewN ?_ _ | refine blk_drew ?_ | refine blk_alloc ?_ _)); exact BK122.out⟩, ⟨by (with_reducible repeat (first | refine blk_drewN ?_ _ | refine blk_drew ?_ | refine blk_alloc ?_ _)); exact BK123.out⟩, ⟨by repeat (first | (with_reducible first | exact HB.out | apply below_alloc | apply pw_below_drewN | apply below_drew1 | refine below_set ?_ GE119.out | refine below_set ?_ GE121.out | refine below_set ?_ GE122.out | refine below_set ?_ GE123.out) | exact HB.out)⟩⟩
                    · rw [if_neg c104] at H
                      have c104b0 : (((rd_T42 l0 a2_0).f0) == 4) = false := beq_eq_false_iff_ne.mpr c104
                      have c104b1 : (((rd_T42 l0 a2_0).f0) != 4) = true := bne_iff_ne.mpr c104
                      (first | rw [c104b0] | (simp only [i64_w, i32_w]; rw [c104b0]) | skip)
                      have H' := Aside0.mk H
                      clear H
                      go_wp2
                      go_meet
                      case rel => exact ⟨_, ((((rd_T42 l0 a2_0).f0) == 6)), (by first | rfl | (simp; done) | (simp [*]; done)), H', ⟨by have := HJ63.out; first | omega | exact Nat.le_refl _⟩, ⟨by (with_reducible repeat (first | refine blk_drewN ?_ _ | refine blk_drew ?_ | refine blk_alloc ?_ _)); exact BK119.out⟩, ⟨by (with_reducible repeat (first | refine blk_drewN ?_ _ | refine blk_drew ?_ | refine blk_alloc ?_ _)); exact BK121.out⟩, ⟨by (with_reducible repeat (first | refine blk_drewN ?_ _ | refine blk_drew ?_ | refine blk_alloc ?_ _)); exact BK122.out⟩, ⟨by (with_reducible repeat (first | refine blk_drewN ?_ _ | refine blk_drew ?_ | refine blk_alloc ?_ _)); exact BK123.out⟩, ⟨by repeat (first | (with_reducible first | exact HB.out | apply below_alloc | apply pw_below_drewN | apply below_drew1 | refine below_set ?_ GE119.out | refine below_set ?_ GE121.out | refine below_set ?_ GE122.out | refine below_set ?_ GE123.out) | exact HB.out)⟩⟩
                  case rest =>
                    clear HC103
                    try clear c1
                    try clear p1
                    try clear q1
                    try clear hx1
                    try clear c2
                    try clear p2
                    try clear c3
                    try clear c4
                    try clear c4b0
                    try clear c5
                    try clear c5b0
                    try clear p5
                    try clear q5
                    try clear hx5
                    try clear c6
                    try clear c6b0
                    try clear c6b1
                    try clear p6
                    try clear c7
                    try clear c8
                    try clear c9
                    try clear c10
                    try clear p12
                    try clear q12
                    try clear hx12
                    try clear c14
                    try clear c15
                    try clear c17
                    try clear c20
                    try clear c21
                    try clear c22
                    try clear c28
                    try clear c28b0
                    try clear c28b1
                    try clear c33
                    try clear c37
                    try clear c38
                    try clear c43
                    try clear c44
                    try clear c45
                    try clear c48
                    try clear c48b0
                    try clear c49
                    try clear c49b0
                    try clear p50
                    try clear q50
                    try clear hx50
                    try clear c57
                    try clear c58
                    try clear c59
                    try clear c60
                    try clear p64
                    try clear c68
                    try clear c72
                    try clear c73
                    try clear c78
                    try clear c79
                    try clear c80
                    try clear c83
                    try clear c83b0
                    try clear c83b1
                    try clear c84
                    try clear c85
                    try clear c86
                    try clear c87
                    try clear c91
                    try clear c91b0
                    try clear c91b1
                    try clear c92
                    try clear c93
                    try clear c94
                    try clear c96
                    try clear c97
                    try clear c99
                    try clear c104
                    try clear c104b0
                    try clear c104b1
                    try clear hcz100_0
                    try clear hcz100_1
                    try clear hcz100_2
                    try clear hcz11_0
                    try clear hcz11_1
                    try clear hcz11_2
                    try clear hcz11_3
                    try clear hcz11_4
                    try clear hcz11_5
                    try clear hcz11_6
                    try clear hcz12_0
                    try clear hcz12_1
                    try clear hcz12_2
                    try clear hcz16_0
                    try clear hcz16_1
                    try clear hcz16_2
                    try clear hcz17_0
                    try clear hcz17_1
                    try clear hcz17_2
                    try clear hcz17_3
                    try clear hcz17_4
                    try clear hcz17_5
                    try clear hcz17_6
                    try clear hcz18_0
                    try clear hcz18_1
                    try clear hcz18_2
                    try clear hcz23_0
                    try clear hcz23_1
                    try clear hcz23_2
                    try clear hcz24_0
                    try clear hcz24_1
                    try clear hcz24_2
                    try clear hcz24_3
                    try clear hcz24_4
                    try clear hcz24_5
                    try clear hcz24_6
                    try clear hcz25_0
                    try clear hcz25_1
                    try clear hcz25_2
                    try clear hcz31_0
                    try clear hcz31_1
                    try clear hcz31_2
                    try clear hcz34_0
                    try clear hcz34_1
                    try clear hcz34_2
                    try clear hcz34_3
                    try clear hcz34_4
                    try clear hcz34_5
                    try clear hcz34_6
                    try clear hcz35_0
                    try clear hcz35_1
                    try clear hcz35_2
                    try clear hcz39_0
                    try clear hcz39_1
                    try clear hcz39_2
                    try clear hcz40_0
                    try clear hcz40_1
                    try clear hcz40_2
                    try clear hcz40_3
                    try clear hcz40_4
                    try clear hcz40_5
                    try clear hcz40_6
                    try clear hcz41_0
                    try clear hcz41_1
                    try clear hcz41_2
                    try clear hcz46_0
                    try clear hcz46_1
                    try clear hcz46_2
                    try clear hcz47_0
                    try clear hcz47_1
                    try clear hcz47_2
                    try clear hcz47_3
                    try clear hcz47_4
                    try clear hcz47_5
                    try clear hcz47_6
                    try clear hcz61_0
                    try clear hcz61_1
                    try clear hcz61_2
                    try clear hcz66_0
                    try clear hcz66_1
                    try clear hcz66_2
                    try clear hcz69_0
                    try clear hcz69_1
                    try clear hcz69_2
                    try clear hcz69_3
                    try clear hcz69_4
                    try clear hcz69_5
                    try clear hcz69_6
                    try clear hcz70_0
                    try clear hcz70_1
                    try clear hcz70_2
                    try clear hcz74_0
                    try clear hcz74_1
                    try clear hcz74_2
                    try clear hcz75_0
                    try clear hcz75_1
                    try clear hcz75_2
                    try clear hcz75_3
                    try clear hcz75_4
                    try clear hcz75_5
                    try clear hcz75_6
                    try clear hcz76_0
                    try clear hcz76_1
                    try clear hcz76_2
                    try clear hcz81_0
                    try clear hcz81_1
                    try clear hcz81_2
                    try clear hcz82_0
                    try clear hcz82_1
                    try clear hcz82_2
                    try clear hcz82_3
                    try clear hcz82_4
                    try clear hcz82_5
                    try clear hcz82_6
                    try clear hcz88_0
                    try clear hcz88_1
                    try clear hcz88_2
                    try clear hcz8_0
                    try clear hcz8_1
                    try clear hcz8_2
                    try clear hcz95_0
                    try clear hcz95_1
                    try clear hcz95_2
                    try clear hcz98_0
                    try clear hcz98_1
                    try clear hcz98_2
                    try clear hcz98_3
                    try clear hcz98_4
                    try clear hcz98_5
                    try clear hcz98_6
                    try clear hfz100_0
                    try clear hfz100_1
                    try clear hfz100_2
                    try clear hfz11_0
                    try clear hfz11_1
                    try clear hfz11_2
                    try clear hfz11_3
                    try clear hfz11_4
                    try clear hfz11_5
                    try clear hfz11_6
                    try clear hfz12_0
                    try clear hfz12_1
                    try clear hfz12_2
                    try clear hfz16_0
                    try clear hfz16_1
                    try clear hfz16_2
                    try clear hfz17_0
                    try clear hfz17_1
                    try clear hfz17_2
                    try clear hfz17_3
                    try clear hfz17_4
                    try clear hfz17_5
                    try clear hfz17_6
                    try clear hfz18_0
                    try clear hfz18_1
                    try clear hfz18_2
                    try clear hfz23_0
                    try clear hfz23_1
                    try clear hfz23_2
                    try clear hfz24_0
                    try clear hfz24_1
                    try clear hfz24_2
                    try clear hfz24_3
                    try clear hfz24_4
                    try clear hfz24_5
                    try clear hfz24_6
                    try clear hfz25_0
                    try clear hfz25_1
                    try clear hfz25_2
                    try clear hfz31_0
                    try clear hfz31_1
                    try clear hfz31_2
                    try clear hfz34_0
                    try clear hfz34_1
                    try clear hfz34_2
                    try clear hfz34_3
                    try clear hfz34_4
                    try clear hfz34_5
                    try clear hfz34_6
                    try clear hfz35_0
                    try clear hfz35_1
                    try clear hfz35_2
                    try clear hfz39_0
                    try clear hfz39_1
                    try clear hfz39_2
                    try clear hfz40_0
                    try clear hfz40_1
                    try clear hfz40_2
                    try clear hfz40_3
                    try clear hfz40_4
                    try clear hfz40_5
                    try clear hfz40_6
                    try clear hfz41_0
                    try clear hfz41_1
                    try clear hfz41_2
                    try clear hfz46_0
                    try clear hfz46_1
                    try clear hfz46_2
                    try clear hfz47_0
                    try clear hfz47_1
                    try clear hfz47_2
                    try clear hfz47_3
                    try clear hfz47_4
                    try clear hfz47_5
                    try clear hfz47_6
                    try clear hfz61_0
                    try clear hfz61_1
                    try clear hfz61_2
                    try clear hfz66_0
                    try clear hfz66_1
                    try clear hfz66_2
                    try clear hfz69_0
                    try clear hfz69_1
                    try clear hfz69_2
                    try clear hfz69_3
                    try clear hfz69_4
                    try clear hfz69_5
                    try clear hfz69_6
                    try clear hfz70_0
                    try clear hfz70_1
                    try clear hfz70_2
                    try clear hfz74_0
                    try clear hfz74_1
                    try clear hfz74_2
                    try clear hfz75_0
                    try clear hfz75_1
                    try clear hfz75_2
                    try clear hfz75_3
                    try clear hfz75_4
                    try clear hfz75_5
                    try clear hfz75_6
                    try clear hfz76_0
                    try clear hfz76_1
                    try clear hfz76_2
                    try clear hfz81_0
                    try clear hfz81_1
                    try clear hfz81_2
                    try clear hfz82_0
                    try clear hfz82_1
                    try clear hfz82_2
                    try clear hfz82_3
                    try clear hfz82_4
                    try clear hfz82_5
                    try clear hfz82_6
                    try clear hfz88_0
                    try clear hfz88_1
                    try clear hfz88_2
                    try clear hfz8_0
                    try clear hfz8_1
                    try clear hfz8_2
                    try clear hfz95_0
                    try clear hfz95_1
                    try clear hfz95_2
                    try clear hfz98_0
                    try clear hfz98_1
                    try clear hfz98_2
                    try clear hfz98_3
                    try clear hfz98_4
                    try clear hfz98_5
                    try clear hfz98_6
                    try clear hx120_0
                    try clear hx120_1
                    try clear hx120_2
                    try clear hx120_3
                    try clear hx120_4
                    try clear hx120_5
                    try clear hx120_6
                    try clear p1
                    try clear p12
                    try clear p120
                    try clear p2
                    try clear p5
                    try clear p50
                    try clear p6
                    try clear p64
                    try clear q1
                    try clear q12
                    try clear q120
                    try clear q5
                    try clear q50
                    obtain ⟨kq, x70_102, rfl, HA, HJ102, BK119, BK121, BK122, BK123, HB⟩ := hcut
                    cases kq with
                    | zero => exact absurd HA.out (by simp [dragomanref06_within.j2])
                    | succ kj102 =>
                      have H := HA.out
                      clear HA
                      simp only [dragomanref06_within.j2] at H
                      by_cases c105 : x70_102 = true
                      · subst c105
                        have H1 : (some (([(⟨a2_0, true, a2_2⟩ : S78), (⟨((rd_T42 l0 a2_0).f2.f0), false, a2_2⟩ : S78)] : List (S78)))) = some r := by rw [if_pos rfl] at H; exact H
                        clear H
                        have H := H1
                        clear H1
                        obtain ⟨y137, hy137⟩ : ∃ y_ : List (S78), y_ = (([(⟨a2_0, true, a2_2⟩ : S78), (⟨((rd_T42 l0 a2_0).f2.f0), false, a2_2⟩ : S78)] : List (S78))) := ⟨_, rfl⟩
                        replace H : (some y137) = some r := by first | (rw [hy137]; with_reducible exact H) | (have H2_ := (Option.bind_some _ _).symm.trans H; rw [hy137]; with_reducible exact H2_) | (have H2_ := (Option.bind_some _ _).symm.trans H; with_reducible exact H2_) | with_reducible exact H | (rw [hy137]; exact H) | exact H
                        have Ny137 := Aside0.mk hy137
                        clear hy137
                        obtain rfl := Option.some.inj H
                        have hnb106 := NB122_119.out
                        have hnc106 := NB119_122.out
                        have hnb107 := NB122_121.out
                        have hnc107 := NB121_122.out
                        have hnb108 := NB122_123.out
                        have hnc108 := NB123_122.out
                        have hcz109_0 : wc.cell? ⟨gb122, 0, none⟩ = some (.int .i64 a2_0) := (blk_cell BK122.out 0).trans rfl
                        have hcz109_1 : wc.cell? ⟨gb122, 1, none⟩ = some (.bool true) := (blk_cell BK122.out 1).trans rfl
                        have hcz109_2 : wc.cell? ⟨gb122, 2, none⟩ = some (.int .i64 a2_2) := (blk_cell BK122.out 2).trans rfl
                        have hfz109_0 := blk_frozen BK122.out 0
                        have hfz109_1 := blk_frozen BK122.out 1
                        have hfz109_2 := blk_frozen BK122.out 2
                        have hnb110 := NB123_119.out
                        have hnc110 := NB119_123.out
                        have hnb111 := NB123_121.out
                        have hnc111 := NB121_123.out
                        have hcz112_0 : wc.cell? ⟨gb123, 0, none⟩ = some (.int .i64 ((rd_T42 l0 a2_0).f2.f0)) := (blk_cell BK123.out 0).trans rfl
                        have hcz112_1 : wc.cell? ⟨gb123, 1, none⟩ = some (.bool false) := (blk_cell BK123.out 1).trans rfl
                        have hcz112_2 : wc.cell? ⟨gb123, 2, none⟩ = some (.int .i64 a2_2) := (blk_cell BK123.out 2).trans rfl
                        have hfz112_0 := blk_frozen BK123.out 0
                        have hfz112_1 := blk_frozen BK123.out 1
                        have hfz112_2 := blk_frozen BK123.out 2
                        go_wp2_with (first | ((with_reducible refine gate_dst (N := 75) rfl ?_); refine Kd.R_lit k78 _ 78 ?hg (N := 75) ?hd (xs := ([(⟨a2_0, true, a2_2⟩ : S78), (⟨((rd_T42 l0 a2_0).f2.f0), false, a2_2⟩ : S78)] : List (S78))) (inner := [.int .i64 a2_0, .bool true, .int .i64 a2_2, .int .i64 ((rd_T42 l0 a2_0).f2.f0), .bool false, .int .i64 a2_2]) (ok := fun _ => True) (okp := fun _ => True) ?hr ?hp (fun _ hk => hk) trivial (Below.refl _ _) (Nat.le_refl _) (by simp) ?_; (case hd => rfl); (case hg => rfl); (case hr => first | (go_simp; done) | (go_simp; rfl)); (case hp => exact (Reps.c3 (show Kd.M k78 _ _ _ (⟨a2_0, true, a2_2⟩ : S78) [.int .i64 a2_0, .bool true, .int .i64 a2_2] from (k78_mkM _ _ _ (⟨a2_0, true, a2_2⟩ : S78) )) (Reps.c3 (show Kd.M k78 _ _ _ (⟨((rd_T42 l0 a2_0).f2.f0), false, a2_2⟩ : S78) [.int .i64 ((rd_T42 l0 a2_0).f2.f0), .bool false, .int .i64 a2_2] from (k78_mkM _ _ _ (⟨((rd_T42 l0 a2_0).f2.f0), false, a2_2⟩ : S78) )) (Reps.none _ _)))); intro v138 w113 ho114 hb hg_ hnew_; clear hg_ hnew_; (first | rw [← Ny137.out] at ho114 | (simp only [Int.reduceToNat] at ho114; rw [← Ny137.out] at ho114)); have n0_ := Aside0.mk (Kd.R_lower (Kd.R_newB (Kd.R_newB (Kd.R_newB ho114 (g := gb119) (o := .cells #[.int .i64 a2_0, .bool a2_1, .int .i64 a2_2] 78 (0, 0)) (by (with_reducible repeat (first | refine blk_drewN ?_ _ | refine blk_drew ?_ | refine blk_alloc ?_ _)); exact BK119.out)) (g := gb122) (o := .cells #[.int .i64 a2_0, .bool true, .int .i64 a2_2] 78 (0, 0)) (by (with_reducible repeat (first | refine blk_drewN ?_ _ | refine blk_drew ?_ | refine blk_alloc ?_ _)); exact BK122.out)) (g := gb123) (o := .cells #[.int .i64 ((rd_T42 l0 a2_0).f2.f0), .bool false, .int .i64 a2_2] 78 (0, 0)) (by (with_reducible repeat (first | refine blk_drewN ?_ _ | refine blk_drew ?_ | refine blk_alloc ?_ _)); exact BK123.out)) (below_size (by repeat (first | (with_reducible first | exact HB.out | apply below_alloc | apply pw_below_drewN | apply below_drew1 | refine below_set ?_ GE119.out | refine below_set ?_ GE121.out | refine below_set ?_ GE122.out | refine below_set ?_ GE123.out) | exact HB.out)))); have n1_ := Aside0.mk (blk_below (g := gb119) (o := .cells #[.int .i64 a2_0, .bool a2_1, .int .i64 a2_2] 78 (0, 0)) (by (with_reducible repeat (first | refine blk_drewN ?_ _ | refine blk_drew ?_ | refine blk_alloc ?_ _)); exact BK119.out) hb); have n2_ := Aside0.mk (blk_below (g := gb121) (o := .cells #[.int .i64 ((rd_T42 l0 a2_0).f0), .int .u64 ((rd_T42 l0 a2_0).f1.f0), .int .u64 ((rd_T42 l0 a2_0).f1.f1), .int .u64 ((rd_T42 l0 a2_0).f1.f2), .int .u64 ((rd_T42 l0 a2_0).f1.f3), .int .i64 ((rd_T42 l0 a2_0).f2.f0), .int .i64 ((rd_T42 l0 a2_0).f2.f1)] 42 (0, 0)) (by (with_reducible repeat (first | refine blk_drewN ?_ _ | refine blk_drew ?_ | refine blk_alloc ?_ _)); exact BK121.out) hb); have n3_ := Aside0.mk (blk_below (g := gb122) (o := .cells #[.int .i64 a2_0, .bool true, .int .i64 a2_2] 78 (0, 0)) (by (with_reducible repeat (first | refine blk_drewN ?_ _ | refine blk_drew ?_ | refine blk_alloc ?_ _)); exact BK122.out) hb); have n4_ := Aside0.mk (blk_below (g := gb123) (o := .cells #[.int .i64 ((rd_T42 l0 a2_0).f2.f0), .bool false, .int .i64 a2_2] 78 (0, 0)) (by (with_reducible repeat (first | refine blk_drewN ?_ _ | refine blk_drew ?_ | refine blk_alloc ?_ _)); exact BK123.out) hb); have n5_ := Aside0.mk (below_step (by repeat (first | (with_reducible first | exact HB.out | apply below_alloc | apply pw_below_drewN | apply below_drew1 | refine below_set ?_ GE119.out | refine below_set ?_ GE121.out | refine below_set ?_ GE122.out | refine below_set ?_ GE123.out) | exact HB.out)) hb); clear BK119; clear BK121; clear BK122; clear BK123; clear HB; have HO139 := n0_; have BK119 := n1_; have BK121 := n2_; have BK122 := n3_; have BK123 := n4_; have HB := n5_; clear n0_ n1_ n2_ n3_ n4_ n5_; clear hb ho114))
                        go_ret
                        exact ⟨_, by first | rfl | (simp [errW_none, errW_some] <;> rfl) | (simp [*, errW_none, errW_some] <;> rfl), by (with_reducible repeat (first | apply Kd.R_alloc | apply Kd.R_drewN | apply Kd.R_drew)); exact Kd.R_mono HO139.out (fun _ hk => trivial), by repeat (first | (with_reducible first | exact HB.out | apply below_alloc | apply pw_below_drewN | apply below_drew1 | refine below_set ?_ GE119.out | refine below_set ?_ GE121.out | refine below_set ?_ GE122.out | refine below_set ?_ GE123.out) | exact HB.out)⟩
                      · replace c105 := Bool.eq_false_iff.mpr c105
                        subst c105
                        have H1 : (if ((rd_T42 l0 a2_0).f0) = 7 then (if a2_2 = 0 then (some (([(⟨a2_0, true, a2_2⟩ : S78)] : List (S78)))) else (some ([] : List (S78)))) else (if a2_2 = (a1.size : Int) then (some (([(⟨a2_0, true, a2_2⟩ : S78)] : List (S78)))) else (some ([] : List (S78))))) = some r := by rw [if_neg (show ¬ (false = true) by decide)] at H; exact H
                        clear H
                        have H := H1
                        clear H1
                        by_cases c115 : ((rd_T42 l0 a2_0).f0) = 7
                        · rw [if_pos c115] at H
                          have c115b0 : (((rd_T42 l0 a2_0).f0) == 7) = true := beq_iff_eq.mpr c115
                          have c115b1 : (((rd_T42 l0 a2_0).f0) != 7) = false := bne_eq_false_iff_eq.mpr c115
                          clear c115
                          by_cases c116 : a2_2 = 0
                          · rw [if_pos c116] at H
                            have c116b0 : (a2_2 == 0) = true := beq_iff_eq.mpr c116
                            have c116b1 : (a2_2 != 0) = false := bne_eq_false_iff_eq.mpr c116
                            clear c116
                            obtain ⟨y140, hy140⟩ : ∃ y_ : List (S78), y_ = (([(⟨a2_0, true, a2_2⟩ : S78)] : List (S78))) := ⟨_, rfl⟩
                            replace H : (some y140) = some r := by first | (rw [hy140]; with_reducible exact H) | (have H2_ := (Option.bind_some _ _).symm.trans H; rw [hy140]; with_reducible exact H2_) | (have H2_ := (Option.bind_some _ _).symm.trans H; with_reducible exact H2_) | with_reducible exact H | (rw [hy140]; exact H) | exact H
                            have Ny140 := Aside0.mk hy140
                            clear hy140
                            obtain rfl := Option.some.inj H
                            have hnb117 := NB119_121.out
                            have hnc117 := NB121_119.out
                            have hnb118 := NB119_122.out
                            have hnc118 := NB122_119.out
                            have hnb119 := NB119_123.out
                            have hnc119 := NB123_119.out
                            have hcz120_0 : wc.cell? ⟨gb119, 0, none⟩ = some (.int .i64 a2_0) := (blk_cell BK119.out 0).trans rfl
                            have hcz120_1 : wc.cell? ⟨gb119, 1, none⟩ = some (.bool a2_1) := (blk_cell BK119.out 1).trans rfl
                            have hcz120_2 : wc.cell? ⟨gb119, 2, none⟩ = some (.int .i64 a2_2) := (blk_cell BK119.out 2).trans rfl
                            have hfz120_0 := blk_frozen BK119.out 0
                            have hfz120_1 := blk_frozen BK119.out 1
                            have hfz120_2 := blk_frozen BK119.out 2
                            have hnb121 := NB122_121.out
                            have hnc121 := NB121_122.out
                            have hnb122 := NB122_123.out
                            have hnc122 := NB123_122.out
                            have hcz123_0 : wc.cell? ⟨gb122, 0, none⟩ = some (.int .i64 a2_0) := (blk_cell BK122.out 0).trans rfl
                            have hcz123_1 : wc.cell? ⟨gb122, 1, none⟩ = some (.bool true) := (blk_cell BK122.out 1).trans rfl
                            have hcz123_2 : wc.cell? ⟨gb122, 2, none⟩ = some (.int .i64 a2_2) := (blk_cell BK122.out 2).trans rfl
                            have hfz123_0 := blk_frozen BK122.out 0
                            have hfz123_1 := blk_frozen BK122.out 1
                            have hfz123_2 := blk_frozen BK122.out 2
                            go_wp2_with (first | ((with_reducible refine gate_dst (N := 82) rfl ?_); refine Kd.R_lit k78 _ 78 ?hg (N := 82) ?hd (xs := ([(⟨a2_0, true, a2_2⟩ : S78)] : List (S78))) (inner := [.int .i64 a2_0, .bool true, .int .i64 a2_2]) (ok := fun _ => True) (okp := fun _ => True) ?hr ?hp (fun _ hk => hk) trivial (Below.refl _ _) (Nat.le_refl _) (by simp) ?_; (case hd => rfl); (case hg => rfl); (case hr => first | (go_simp; done) | (go_simp; rfl)); (case hp => exact (Reps.c3 (show Kd.M k78 _ _ _ (⟨a2_0, true, a2_2⟩ : S78) [.int .i64 a2_0, .bool true, .int .i64 a2_2] from (k78_mkM _ _ _ (⟨a2_0, true, a2_2⟩ : S78) )) (Reps.none _ _))); intro v141 w124 ho125 hb hg_ hnew_; clear hg_ hnew_; (first | rw [← Ny140.out] at ho125 | (simp only [Int.reduceToNat] at ho125; rw [← Ny140.out] at ho125)); have n0_ := Aside0.mk (Kd.R_lower (Kd.R_newB (Kd.R_newB (Kd.R_newB ho125 (g := gb119) (o := .cells #[.int .i64 a2_0, .bool a2_1, .int .i64 a2_2] 78 (0, 0)) (by (with_reducible repeat (first | refine blk_drewN ?_ _ | refine blk_drew ?_ | refine blk_alloc ?_ _)); exact BK119.out)) (g := gb122) (o := .cells #[.int .i64 a2_0, .bool true, .int .i64 a2_2] 78 (0, 0)) (by (with_reducible repeat (first | refine blk_drewN ?_ _ | refine blk_drew ?_ | refine blk_alloc ?_ _)); exact BK122.out)) (g := gb123) (o := .cells #[.int .i64 ((rd_T42 l0 a2_0).f2.f0), .bool false, .int .i64 a2_2] 78 (0, 0)) (by (with_reducible repeat (first | refine blk_drewN ?_ _ | refine blk_drew ?_ | refine blk_alloc ?_ _)); exact BK123.out)) (below_size (by repeat (first | (with_reducible first | exact HB.out | apply below_alloc | apply pw_below_drewN | apply below_drew1 | refine below_set ?_ GE119.out | refine below_set ?_ GE121.out | refine below_set ?_ GE122.out | refine below_set ?_ GE123.out) | exact HB.out)))); have n1_ := Aside0.mk (blk_below (g := gb119) (o := .cells #[.int .i64 a2_0, .bool a2_1, .int .i64 a2_2] 78 (0, 0)) (by (with_reducible repeat (first | refine blk_drewN ?_ _ | refine blk_drew ?_ | refine blk_alloc ?_ _)); exact BK119.out) hb); have n2_ := Aside0.mk (blk_below (g := gb121) (o := .cells #[.int .i64 ((rd_T42 l0 a2_0).f0), .int .u64 ((rd_T42 l0 a2_0).f1.f0), .int .u64 ((rd_T42 l0 a2_0).f1.f1), .int .u64 ((rd_T42 l0 a2_0).f1.f2), .int .u64 ((rd_T42 l0 a2_0).f1.f3), .int .i64 ((rd_T42 l0 a2_0).f2.f0), .int .i64 ((rd_T42 l0 a2_0).f2.f1)] 42 (0, 0)) (by (with_reducible repeat (first | refine blk_drewN ?_ _ | refine blk_drew ?_ | refine blk_alloc ?_ _)); exact BK121.out) hb); have n3_ := Aside0.mk (blk_below (g := gb122) (o := .cells #[.int .i64 a2_0, .bool true, .int .i64 a2_2] 78 (0, 0)) (by (with_reducible repeat (first | refine blk_drewN ?_ _ | refine blk_drew ?_ | refine blk_alloc ?_ _)); exact BK122.out) hb); have n4_ := Aside0.mk (blk_below (g := gb123) (o := .cells #[.int .i64 ((rd_T42 l0 a2_0).f2.f0), .bool false, .int .i64 a2_2] 78 (0, 0)) (by (with_reducible repeat (first | refine blk_drewN ?_ _ | refine blk_drew ?_ | refine blk_alloc ?_ _)); exact BK123.out) hb); have n5_ := Aside0.mk (below_step (by repeat (first | (with_reducible first | exact HB.out | apply below_alloc | apply pw_below_drewN | apply below_drew1 | refine below_set ?_ GE119.out | refine below_set ?_ GE121.out | refine below_set ?_ GE122.out | refine below_set ?_ GE123.out) | exact HB.out)) hb); clear BK119; clear BK121; clear BK122; clear BK123; clear HB; have HO142 := n0_; have BK119 := n1_; have BK121 := n2_; have BK122 := n3_; have BK123 := n4_; have HB := n5_; clear n0_ n1_ n2_ n3_ n4_ n5_; clear hb ho125))
                            go_ret
                            exact ⟨_, by first | rfl | (simp [errW_none, errW_some] <;> rfl) | (simp [*, errW_none, errW_some] <;> rfl), by (with_reducible repeat (first | apply Kd.R_alloc | apply Kd.R_drewN | apply Kd.R_drew)); exact Kd.R_mono HO142.out (fun _ hk => trivial), by repeat (first | (with_reducible first | exact HB.out | apply below_alloc | apply pw_below_drewN | apply below_drew1 | refine below_set ?_ GE119.out | refine below_set ?_ GE121.out | refine below_set ?_ GE122.out | refine below_set ?_ GE123.out) | exact HB.out)⟩
                          · rw [if_neg c116] at H
                            have c116b0 : (a2_2 == 0) = false := beq_eq_false_iff_ne.mpr c116
                            have c116b1 : (a2_2 != 0) = true := bne_iff_ne.mpr c116
                            obtain rfl := Option.some.inj H
                            have hnb126 := NB119_121.out
                            have hnc126 := NB121_119.out
                            have hnb127 := NB119_122.out
                            have hnc127 := NB122_119.out
                            have hnb128 := NB119_123.out
                            have hnc128 := NB123_119.out
                            have hcz129_0 : wc.cell? ⟨gb119, 0, none⟩ = some (.int .i64 a2_0) := (blk_cell BK119.out 0).trans rfl
                            have hcz129_1 : wc.cell? ⟨gb119, 1, none⟩ = some (.bool a2_1) := (blk_cell BK119.out 1).trans rfl
                            have hcz129_2 : wc.cell? ⟨gb119, 2, none⟩ = some (.int .i64 a2_2) := (blk_cell BK119.out 2).trans rfl
                            have hfz129_0 := blk_frozen BK119.out 0
                            have hfz129_1 := blk_frozen BK119.out 1
                            have hfz129_2 := blk_frozen BK119.out 2
                            go_wp2
                            go_ret
                            exact ⟨_, by first | rfl | (simp [errW_none, errW_some] <;> rfl) | (simp [*, errW_none, errW_some] <;> rfl), by first | exact Kd.R_nil _ _ _ _ _ | exact Kd.N_nil _ _ _ _ _ | exact Kd.V_nil _ _ _ _ _ | exact Kd.Q_nil _ _ _ _ _ | exact Kd.S_nil _ _ _ _ _, by repeat (first | (with_reducible first | exact HB.out | apply below_alloc | apply pw_below_drewN | apply below_drew1 | refine below_set ?_ GE119.out | refine below_set ?_ GE121.out | refine below_set ?_ GE122.out | refine below_set ?_ GE123.out) | exact HB.out)⟩
                        · rw [if_neg c115] at H
                          have c115b0 : (((rd_T42 l0 a2_0).f0) == 7) = false := beq_eq_false_iff_ne.mpr c115
                          have c115b1 : (((rd_T42 l0 a2_0).f0) != 7) = true := bne_iff_ne.mpr c115
                          by_cases c130 : a2_2 = (a1.size : Int)
                          · rw [if_pos c130] at H
                            have c130b0 : (a2_2 == (a1.size : Int)) = true := beq_iff_eq.mpr c130
                            have c130b1 : (a2_2 != (a1.size : Int)) = false := bne_eq_false_iff_eq.mpr c130
                            clear c130
                            obtain ⟨y143, hy143⟩ : ∃ y_ : List (S78), y_ = (([(⟨a2_0, true, a2_2⟩ : S78)] : List (S78))) := ⟨_, rfl⟩
                            replace H : (some y143) = some r := by first | (rw [hy143]; with_reducible exact H) | (have H2_ := (Option.bind_some _ _).symm.trans H; rw [hy143]; with_reducible exact H2_) | (have H2_ := (Option.bind_some _ _).symm.trans H; with_reducible exact H2_) | with_reducible exact H | (rw [hy143]; exact H) | exact H
                            have Ny143 := Aside0.mk hy143
                            clear hy143
                            obtain rfl := Option.some.inj H
                            have hnb131 := NB119_121.out
                            have hnc131 := NB121_119.out
                            have hnb132 := NB119_122.out
                            have hnc132 := NB122_119.out
                            have hnb133 := NB119_123.out
                            have hnc133 := NB123_119.out
                            have hcz134_0 : wc.cell? ⟨gb119, 0, none⟩ = some (.int .i64 a2_0) := (blk_cell BK119.out 0).trans rfl
                            have hcz134_1 : wc.cell? ⟨gb119, 1, none⟩ = some (.bool a2_1) := (blk_cell BK119.out 1).trans rfl
                            have hcz134_2 : wc.cell? ⟨gb119, 2, none⟩ = some (.int .i64 a2_2) := (blk_cell BK119.out 2).trans rfl
                            have hfz134_0 := blk_frozen BK119.out 0
                            have hfz134_1 := blk_frozen BK119.out 1
                            have hfz134_2 := blk_frozen BK119.out 2
                            have hnb135 := NB122_121.out
                            have hnc135 := NB121_122.out
                            have hnb136 := NB122_123.out
                            have hnc136 := NB123_122.out
                            have hcz137_0 : wc.cell? ⟨gb122, 0, none⟩ = some (.int .i64 a2_0) := (blk_cell BK122.out 0).trans rfl
                            have hcz137_1 : wc.cell? ⟨gb122, 1, none⟩ = some (.bool true) := (blk_cell BK122.out 1).trans rfl
                            have hcz137_2 : wc.cell? ⟨gb122, 2, none⟩ = some (.int .i64 a2_2) := (blk_cell BK122.out 2).trans rfl
                            have hfz137_0 := blk_frozen BK122.out 0
                            have hfz137_1 := blk_frozen BK122.out 1
                            have hfz137_2 := blk_frozen BK122.out 2
                            go_wp2_with (first | ((with_reducible refine gate_dst (N := 89) rfl ?_); refine Kd.R_lit k78 _ 78 ?hg (N := 89) ?hd (xs := ([(⟨a2_0, true, a2_2⟩ : S78)] : List (S78))) (inner := [.int .i64 a2_0, .bool true, .int .i64 a2_2]) (ok := fun _ => True) (okp := fun _ => True) ?hr ?hp (fun _ hk => hk) trivial (Below.refl _ _) (Nat.le_refl _) (by simp) ?_; (case hd => rfl); (case hg => rfl); (case hr => first | (go_simp; done) | (go_simp; rfl)); (case hp => exact (Reps.c3 (show Kd.M k78 _ _ _ (⟨a2_0, true, a2_2⟩ : S78) [.int .i64 a2_0, .bool true, .int .i64 a2_2] from (k78_mkM _ _ _ (⟨a2_0, true, a2_2⟩ : S78) )) (Reps.none _ _))); intro v144 w138 ho139 hb hg_ hnew_; clear hg_ hnew_; (first | rw [← Ny143.out] at ho139 | (simp only [Int.reduceToNat] at ho139; rw [← Ny143.out] at ho139)); have n0_ := Aside0.mk (Kd.R_lower (Kd.R_newB (Kd.R_newB (Kd.R_newB ho139 (g := gb119) (o := .cells #[.int .i64 a2_0, .bool a2_1, .int .i64 a2_2] 78 (0, 0)) (by (with_reducible repeat (first | refine blk_drewN ?_ _ | refine blk_drew ?_ | refine blk_alloc ?_ _)); exact BK119.out)) (g := gb122) (o := .cells #[.int .i64 a2_0, .bool true, .int .i64 a2_2] 78 (0, 0)) (by (with_reducible repeat (first | refine blk_drewN ?_ _ | refine blk_drew ?_ | refine blk_alloc ?_ _)); exact BK122.out)) (g := gb123) (o := .cells #[.int .i64 ((rd_T42 l0 a2_0).f2.f0), .bool false, .int .i64 a2_2] 78 (0, 0)) (by (with_reducible repeat (first | refine blk_drewN ?_ _ | refine blk_drew ?_ | refine blk_alloc ?_ _)); exact BK123.out)) (below_size (by repeat (first | (with_reducible first | exact HB.out | apply below_alloc | apply pw_below_drewN | apply below_drew1 | refine below_set ?_ GE119.out | refine below_set ?_ GE121.out | refine below_set ?_ GE122.out | refine below_set ?_ GE123.out) | exact HB.out)))); have n1_ := Aside0.mk (blk_below (g := gb119) (o := .cells #[.int .i64 a2_0, .bool a2_1, .int .i64 a2_2] 78 (0, 0)) (by (with_reducible repeat (first | refine blk_drewN ?_ _ | refine blk_drew ?_ | refine blk_alloc ?_ _)); exact BK119.out) hb); have n2_ := Aside0.mk (blk_below (g := gb121) (o := .cells #[.int .i64 ((rd_T42 l0 a2_0).f0), .int .u64 ((rd_T42 l0 a2_0).f1.f0), .int .u64 ((rd_T42 l0 a2_0).f1.f1), .int .u64 ((rd_T42 l0 a2_0).f1.f2), .int .u64 ((rd_T42 l0 a2_0).f1.f3), .int .i64 ((rd_T42 l0 a2_0).f2.f0), .int .i64 ((rd_T42 l0 a2_0).f2.f1)] 42 (0, 0)) (by (with_reducible repeat (first | refine blk_drewN ?_ _ | refine blk_drew ?_ | refine blk_alloc ?_ _)); exact BK121.out) hb); have n3_ := Aside0.mk (blk_below (g := gb122) (o := .cells #[.int .i64 a2_0, .bool true, .int .i64 a2_2] 78 (0, 0)) (by (with_reducible repeat (first | refine blk_drewN ?_ _ | refine blk_drew ?_ | refine blk_alloc ?_ _)); exact BK122.out) hb); have n4_ := Aside0.mk (blk_below (g := gb123) (o := .cells #[.int .i64 ((rd_T42 l0 a2_0).f2.f0), .bool false, .int .i64 a2_2] 78 (0, 0)) (by (with_reducible repeat (first | refine blk_drewN ?_ _ | refine blk_drew ?_ | refine blk_alloc ?_ _)); exact BK123.out) hb); have n5_ := Aside0.mk (below_step (by repeat (first | (with_reducible first | exact HB.out | apply below_alloc | apply pw_below_drewN | apply below_drew1 | refine below_set ?_ GE119.out | refine below_set ?_ GE121.out | refine below_set ?_ GE122.out | refine below_set ?_ GE123.out) | exact HB.out)) hb); clear BK119; clear BK121; clear BK122; clear BK123; clear HB; have HO145 := n0_; have BK119 := n1_; have BK121 := n2_; have BK122 := n3_; have BK123 := n4_; have HB := n5_; clear n0_ n1_ n2_ n3_ n4_ n5_; clear hb ho139))
                            go_ret
                            exact ⟨_, by first | rfl | (simp [errW_none, errW_some] <;> rfl) | (simp [*, errW_none, errW_some] <;> rfl), by (with_reducible repeat (first | apply Kd.R_alloc | apply Kd.R_drewN | apply Kd.R_drew)); exact Kd.R_mono HO145.out (fun _ hk => trivial), by repeat (first | (with_reducible first | exact HB.out | apply below_alloc | apply pw_below_drewN | apply below_drew1 | refine below_set ?_ GE119.out | refine below_set ?_ GE121.out | refine below_set ?_ GE122.out | refine below_set ?_ GE123.out) | exact HB.out)⟩
                          · rw [if_neg c130] at H
                            have c130b0 : (a2_2 == (a1.size : Int)) = false := beq_eq_false_iff_ne.mpr c130
                            have c130b1 : (a2_2 != (a1.size : Int)) = true := bne_iff_ne.mpr c130
                            obtain rfl := Option.some.inj H
                            have hnb140 := NB119_121.out
                            have hnc140 := NB121_119.out
                            have hnb141 := NB119_122.out
                            have hnc141 := NB122_119.out
                            have hnb142 := NB119_123.out
                            have hnc142 := NB123_119.out
                            have hcz143_0 : wc.cell? ⟨gb119, 0, none⟩ = some (.int .i64 a2_0) := (blk_cell BK119.out 0).trans rfl
                            have hcz143_1 : wc.cell? ⟨gb119, 1, none⟩ = some (.bool a2_1) := (blk_cell BK119.out 1).trans rfl
                            have hcz143_2 : wc.cell? ⟨gb119, 2, none⟩ = some (.int .i64 a2_2) := (blk_cell BK119.out 2).trans rfl
                            have hfz143_0 := blk_frozen BK119.out 0
                            have hfz143_1 := blk_frozen BK119.out 1
                            have hfz143_2 := blk_frozen BK119.out 2
                            go_wp2
                            go_ret
                            exact ⟨_, by first | rfl | (simp [errW_none, errW_some] <;> rfl) | (simp [*, errW_none, errW_some] <;> rfl), by first | exact Kd.R_nil _ _ _ _ _ | exact Kd.N_nil _ _ _ _ _ | exact Kd.V_nil _ _ _ _ _ | exact Kd.Q_nil _ _ _ _ _ | exact Kd.S_nil _ _ _ _ _, by repeat (first | (with_reducible first | exact HB.out | apply below_alloc | apply pw_below_drewN | apply below_drew1 | refine below_set ?_ GE119.out | refine below_set ?_ GE121.out | refine below_set ?_ GE122.out | refine below_set ?_ GE123.out) | exact HB.out)⟩
    · rw [if_neg c5] at H
      exact absurd H (by simp)
  · rw [if_neg c4] at H
    exact absurd H (by simp)

end Go.Proofs.Ytmhkofgappbpjaa.QB
