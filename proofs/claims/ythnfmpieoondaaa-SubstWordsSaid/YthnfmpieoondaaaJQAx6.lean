/- The Go functions of this part as Lean functions, each with a proof that a call of it comes to just what the Lean function does. Written by a program of the session's. Conditions: none but those in each theorem. -/
import Derived.Test.YthnfmpieoondaaaJQAx0
namespace Go.Proofs.Ythnfmpieoondaaa.QA
open Go.Proofs.Ythnfmpieoondaaa.G
open Go.RowKit Go.Proofs.YthnfmpieoondaaaW.PrintWords Go.Proofs.YthnfmpieoondaaaW.PrintLast Go.Proofs.YthnfmpieoondaaaW.PrintMore
attribute [local go_sem] max2_int min2_int max_two min_two max_three min_three max_four min_four   -- for this text's walks alone
attribute [local go_sem ↓] ix28_0 ix28_1 ia28_0 ia28_1
set_option linter.unusedVariables false
set_option linter.unusedSimpArgs false

/-! ### match_parents: function 75 -/
mutual
def match_parents.l0 : Nat → List (S55) → List Int → Int → Int → Option (List Int)
  | 0, _, _, _, _ => none
  | k + 1, x0, x3, x11, x12 => if x12 < x11 then (if 0 ≤ x12 then (if x12 < (x3.length : Int) then (match_parents.l0 k x0 (x3.set (x12 : Int).toNat (-1)) x11 (wrap64 (x12 + 1))) else (none)) else (none)) else (match_parents.l1 k x3 x0 (x0.length : Int) 0)
def match_parents.l1 : Nat → List Int → List (S55) → Int → Int → Option (List Int)
  | 0, _, _, _, _ => none
  | k + 1, x3, x19, x20, x21 => if x21 < x20 then (if 0 ≤ x21 then (if x21 < (x19.length : Int) then (if ((rd_T55 x19 x21).f0) = 2 then (match_parents.j2 k x3 x21 x19 x20 x21 ((rd_T55 x19 x21).f0) (((rd_T55 x19 x21).f0) == 2) ((rd_T55 x19 x21).f0) ((rd_T55 x19 x21).f1.f0) ((rd_T55 x19 x21).f1.f1) ((rd_T55 x19 x21).f1.f2) ((rd_T55 x19 x21).f1.f3) ((rd_T55 x19 x21).f2.f0) ((rd_T55 x19 x21).f2.f1)) else (match_parents.j2 k x3 x21 x19 x20 x21 ((rd_T55 x19 x21).f0) (((rd_T55 x19 x21).f0) == 3) ((rd_T55 x19 x21).f0) ((rd_T55 x19 x21).f1.f0) ((rd_T55 x19 x21).f1.f1) ((rd_T55 x19 x21).f1.f2) ((rd_T55 x19 x21).f1.f3) ((rd_T55 x19 x21).f2.f0) ((rd_T55 x19 x21).f2.f1))) else (none)) else (none)) else (some x3)
def match_parents.j2 : Nat → List Int → Int → List (S55) → Int → Int → Int → Bool → Int → Int → Int → Int → Int → Int → Int → Option (List Int)
  | 0, _, _, _, _, _, _, _, _, _, _, _, _, _, _ => none
  | k + 1, x3, x5, x19, x20, x21, x27, x28, x145000, x145001, x145002, x145003, x145004, x145005, x145006 => if x28 = true then (if 0 ≤ x145006 then (if x145006 < (x3.length : Int) then (if 0 ≤ x145005 then (if x145005 < (x3.length : Int) then (match_parents.l1 k ((x3.set (x145006 : Int).toNat x5).set (x145005 : Int).toNat x5) x19 x20 (wrap64 (x21 + 1))) else (none)) else (none)) else (none)) else (none)) else (if x27 = 4 then (if 0 ≤ x145005 then (if x145005 < (x3.length : Int) then (match_parents.l1 k (x3.set (x145005 : Int).toNat x5) x19 x20 (wrap64 (x21 + 1))) else (none)) else (none)) else (if x27 = 5 then (if 0 ≤ x145005 then (if x145005 < (x3.length : Int) then (match_parents.l1 k (x3.set (x145005 : Int).toNat x5) x19 x20 (wrap64 (x21 + 1))) else (none)) else (none)) else (if x27 = 6 then (if 0 ≤ x145005 then (if x145005 < (x3.length : Int) then (match_parents.l1 k (x3.set (x145005 : Int).toNat x5) x19 x20 (wrap64 (x21 + 1))) else (none)) else (none)) else (match_parents.l1 k x3 x19 x20 (wrap64 (x21 + 1))))))
end
def match_parents.f (k : Nat) (l0 : List (S55)) : Option (List Int) := if 0 ≤ (l0.length : Int) then (if ((l0.length : Int) : Int).toNat ≤ 35184372088832 then ((some (List.replicate ((l0.length : Int) : Int).toNat 0 : List Int)).bind fun y139 => (match_parents.l0 k l0 y139 (y139.length : Int) 0)) else (none)) else (none)
theorem match_parents.mono_l : ∀ k, (∀ y0 y1 y2 y3, LeO (match_parents.l0 k y0 y1 y2 y3) (match_parents.l0 (k + 1) y0 y1 y2 y3)) ∧ (∀ y0 y1 y2 y3, LeO (match_parents.l1 k y0 y1 y2 y3) (match_parents.l1 (k + 1) y0 y1 y2 y3)) ∧ (∀ y0 y1 y2 y3 y4 y5 y6 y7 y8 y9 y10 y11 y12 y13, LeO (match_parents.j2 k y0 y1 y2 y3 y4 y5 y6 y7 y8 y9 y10 y11 y12 y13) (match_parents.j2 (k + 1) y0 y1 y2 y3 y4 y5 y6 y7 y8 y9 y10 y11 y12 y13))
  | 0 => ⟨fun _ _ _ _ r h => by simp [match_parents.l0] at h, fun _ _ _ _ r h => by simp [match_parents.l1] at h, fun _ _ _ _ _ _ _ _ _ _ _ _ _ _ r h => by simp [match_parents.j2] at h⟩
  | k + 1 => by
    obtain ⟨ih0, ih1, ih2⟩ := match_parents.mono_l k
    refine ⟨?_, ?_, ?_⟩
    · intro y0 y1 y2 y3
      unfold match_parents.l0
      repeat' first
      | (with_reducible exact ih0 _ _ _ _)
      | (with_reducible exact ih1 _ _ _ _)
      | (with_reducible exact ih2 _ _ _ _ _ _ _ _ _ _ _ _ _ _)
      | (with_reducible exact LeO.refl _)
      | (with_reducible exact LeO.none _)
      | (with_reducible refine LeO.ite ?_ ?_)
      | (with_reducible refine LeO.bind ?_ (fun _ => ?_))
      | exact ih0 _ _ _ _
      | exact ih1 _ _ _ _
      | exact ih2 _ _ _ _ _ _ _ _ _ _ _ _ _ _
      | exact LeO.none _
      | refine LeO.ite ?_ ?_
      | refine LeO.bind ?_ (fun _ => ?_)
    · intro y0 y1 y2 y3
      unfold match_parents.l1
      repeat' first
      | (with_reducible exact ih0 _ _ _ _)
      | (with_reducible exact ih1 _ _ _ _)
      | (with_reducible exact ih2 _ _ _ _ _ _ _ _ _ _ _ _ _ _)
      | (with_reducible exact LeO.refl _)
      | (with_reducible exact LeO.none _)
      | (with_reducible refine LeO.ite ?_ ?_)
      | (with_reducible refine LeO.bind ?_ (fun _ => ?_))
      | exact ih0 _ _ _ _
      | exact ih1 _ _ _ _
      | exact ih2 _ _ _ _ _ _ _ _ _ _ _ _ _ _
      | exact LeO.none _
      | refine LeO.ite ?_ ?_
      | refine LeO.bind ?_ (fun _ => ?_)
    · intro y0 y1 y2 y3 y4 y5 y6 y7 y8 y9 y10 y11 y12 y13
      unfold match_parents.j2
      repeat' first
      | (with_reducible exact ih0 _ _ _ _)
      | (with_reducible exact ih1 _ _ _ _)
      | (with_reducible exact ih2 _ _ _ _ _ _ _ _ _ _ _ _ _ _)
      | (with_reducible exact LeO.refl _)
      | (with_reducible exact LeO.none _)
      | (with_reducible refine LeO.ite ?_ ?_)
      | (with_reducible refine LeO.bind ?_ (fun _ => ?_))
      | exact ih0 _ _ _ _
      | exact ih1 _ _ _ _
      | exact ih2 _ _ _ _ _ _ _ _ _ _ _ _ _ _
      | exact LeO.none _
      | refine LeO.ite ?_ ?_
      | refine LeO.bind ?_ (fun _ => ?_)
theorem match_parents.mono : ∀ a0 k, LeO (match_parents.f k a0) (match_parents.f (k + 1) a0) := by
  intro a0 k
  obtain ⟨ih0, ih1, ih2⟩ := match_parents.mono_l k
  unfold match_parents.f
  repeat' first
      | (with_reducible exact ih0 _ _ _ _)
      | (with_reducible exact ih1 _ _ _ _)
      | (with_reducible exact ih2 _ _ _ _ _ _ _ _ _ _ _ _ _ _)
      | (with_reducible exact LeO.refl _)
      | (with_reducible exact LeO.none _)
      | (with_reducible refine LeO.ite ?_ ?_)
      | (with_reducible refine LeO.bind ?_ (fun _ => ?_))
      | exact ih0 _ _ _ _
      | exact ih1 _ _ _ _
      | exact ih2 _ _ _ _ _ _ _ _ _ _ _ _ _ _
      | exact LeO.none _
      | refine LeO.ite ?_ ?_
      | refine LeO.bind ?_ (fun _ => ?_)
set_option maxHeartbeats 8000000 in
set_option maxRecDepth 100000 in
theorem match_parents.calls (k : Nat) (A0 : Option Addr) (c0 : Nat) (l0 : List (S55)) (r : List Int) (w : World) (hr0 : Kd.C k55 w A0 l0.length l0) (hc0 : l0.length ≤ c0) (h : match_parents.f k l0 = some r) :
    Calls Try.prog 75 #[.slice A0 l0.length c0] w fun e w' => ∃ v0_ : Value, e = .returned (v0_) ∧ Kd.R (Kd.int .i64) 3 w' w.heap.size (fun _ => True) v0_ r ∧ Below w.heap.size w w' := by
  have hu55 := Try.underlying55
  have HR0 := Aside0.mk hr0
  have HC0 := Aside0.mk hc0
  clear hr0 hc0
  have HB := Aside0.mk (Below.refl w.heap.size w)
  have H : (if 0 ≤ (l0.length : Int) then (if ((l0.length : Int) : Int).toNat ≤ 35184372088832 then ((some (List.replicate ((l0.length : Int) : Int).toNat 0 : List Int)).bind fun y139 => (match_parents.l0 k l0 y139 (y139.length : Int) 0)) else (none)) else (none)) = some r := h
  clear h
  by_cases c2 : 0 ≤ (l0.length : Int)
  · rw [if_pos c2] at H
    have c2b0 := eq_true c2
    have c2b1 : decide (0 ≤ (l0.length : Int)) = true := decide_eq_true c2
    clear c2
    by_cases c3 : ((l0.length : Int) : Int).toNat ≤ 35184372088832
    · rw [if_pos c3] at H
      have c3b0 := eq_true c3
      have c3b1 : decide (((l0.length : Int) : Int).toNat ≤ 35184372088832) = true := decide_eq_true c3
      clear c3
      obtain ⟨y139, hy139⟩ : ∃ y_ : List Int, y_ = (List.replicate ((l0.length : Int) : Int).toNat 0) := ⟨_, rfl⟩
      replace H : (match_parents.l0 k l0 y139 (y139.length : Int) 0) = some r := by first | (rw [hy139]; with_reducible exact H) | (have H2_ := (Option.bind_some _ _).symm.trans H; rw [hy139]; with_reducible exact H2_) | (have H2_ := (Option.bind_some _ _).symm.trans H; with_reducible exact H2_) | with_reducible exact H | (rw [hy139]; exact H) | exact H
      have Ny139 := Aside0.mk hy139
      clear hy139
      have H' := Aside0.mk H
      clear H
      go_enter Try.func75, Try.ntmps75
      go_wp2_with (first | ((with_reducible refine gate_dst (N := 9) rfl ?_); refine Kd.R_make (Kd.int .i64) _ 3 rfl (N := 9) rfl 87 _ _ rfl (l0.length : Int) rfl rfl Try.underlying87 (.int .i64 0) 8 info3 rfl (by decide) (by omega) 0 (ok := fun _ => True) (okp := fun _ => True) rfl (fun _ hk => hk) trivial (of_decide_eq_true (by first | (with_reducible assumption) | assumption)) (Nat.le_trans (Nat.mul_le_mul_right _ (of_decide_eq_true (by first | (with_reducible assumption) | assumption) : (l0.length : Int).toNat ≤ 35184372088832)) (by omega)) (Below.refl _ _) (Nat.le_refl _) ?_; intro v140 w4 ho5 hb hg_ hnew_; clear hg_ hnew_; (first | rw [← Ny139.out] at ho5 | (simp only [Int.reduceToNat] at ho5; rw [← Ny139.out] at ho5)); have n0_ := Aside0.mk (Kd.R_lower ho5 (below_size (by repeat (first | (with_reducible first | exact HB.out | apply below_alloc | apply pw_below_drewN | apply below_drew1) | exact HB.out)))); have n1_ := Aside0.mk (below_step (by repeat (first | (with_reducible first | exact HB.out | apply below_alloc | apply pw_below_drewN | apply below_drew1) | exact HB.out)) hb); clear HB; have HO141 := n0_; have HB := n1_; clear n0_ n1_; clear hb ho5; obtain ⟨Ao6, co6, eo6⟩ := Kd.R_slice HO141.out; subst eo6))
      go_loopg [12] k (fun kq v12 w' => ∃ (x3_1 : List Int) (x12_1 : Int), v12 = .int .i64 x12_1 ∧ Aside0 (match_parents.l0 kq l0 x3_1 (y139.length : Int) x12_1 = some r) ∧ Aside0 (kq ≤ k) ∧ Aside0 (Kd.R (Kd.int .i64) 3 w' w.heap.size (fun _ => True) (.slice Ao6 y139.length co6) x3_1) ∧ Aside0 (Below w.heap.size w w'))
      case atStart => exact ⟨(y139), (0), (by first | rfl | (simp; done) | (simp [*]; done)), H', ⟨Nat.le_refl _⟩, ⟨by (with_reducible repeat (first | apply Kd.R_alloc | apply Kd.R_drewN | apply Kd.R_drew)); exact HO141.out⟩, ⟨by repeat (first | (with_reducible first | exact HB.out | apply below_alloc | apply pw_below_drewN | apply below_drew1) | exact HB.out)⟩⟩
      case round =>
        clear H'
        try clear c2
        try clear c2b0
        try clear c2b1
        try clear p2
        try clear c3
        try clear c3b0
        try clear c3b1
        obtain ⟨x3_1, x12_1, rfl, HA, HK1, HO_3, HB⟩ := hrel
        have hl3_1 := (Kd.R_reads' HO_3.out).1
        rw [hl3_1] at HO_3
        (try simp only [hl3_1])
        cases gk with
        | zero => exact absurd HA.out (by simp [match_parents.l0])
        | succ k1 =>
          have H := HA.out
          clear HA
          simp only [match_parents.l0] at H
          by_cases c7 : x12_1 < (y139.length : Int)
          · rw [if_pos c7] at H
            have c7b0 : decide (x12_1 < (y139.length : Int)) = true := decide_eq_true c7
            clear c7
            by_cases c8 : 0 ≤ x12_1
            · rw [if_pos c8] at H
              have c8b0 : decide (0 ≤ x12_1) = true := decide_eq_true c8
              clear c8
              by_cases c9 : x12_1 < (x3_1.length : Int)
              · rw [if_pos c9] at H
                have c9b0 : decide (x12_1 < (x3_1.length : Int)) = true := decide_eq_true c9
                clear c9
                obtain ⟨y142, hy142⟩ : ∃ y_ : List Int, y_ = (x3_1.set (x12_1 : Int).toNat (-1)) := ⟨_, rfl⟩
                replace H : (match_parents.l0 k1 l0 y142 (y139.length : Int) (wrap64 (x12_1 + 1))) = some r := by first | (rw [hy142]; with_reducible exact H) | (have H2_ := (Option.bind_some _ _).symm.trans H; rw [hy142]; with_reducible exact H2_) | (have H2_ := (Option.bind_some _ _).symm.trans H; with_reducible exact H2_) | with_reducible exact H | (rw [hy142]; exact H) | exact H
                have Ny142 := Aside0.mk hy142
                clear hy142
                have H' := Aside0.mk H
                clear H
                have p10 : 0 ≤ (x12_1 : Int) := of_decide_eq_true (by first | (with_reducible assumption) | assumption)
                have q10 : (x12_1 : Int) < ((x3_1.length : Int) : Int) := of_decide_eq_true (by first | (with_reducible assumption) | assumption)
                obtain ⟨go10, co10, eo10, gb10, gl10, cl10, HG10⟩ := Kd.R_form HO_3.out (by omega)
                (first | cases eo10 | (injection eo10 with ea_ en_ ec_; (first | subst ea_ | (injection ea_ with ea_; subst ea_)); subst ec_; clear en_))
                have GB10 := Aside0.mk gb10
                have GG10 := Aside0.mk HG10
                clear gb10 gl10 HG10
                obtain ⟨hx10_0, hf10_0⟩ := Kd.R_celln 0 HO_3.out (x12_1 : Int) p10 q10
                replace p10 := eq_true p10
                replace q10 := eq_true q10
                have HP11 := Kd.R_putg HO_3.out (x12_1 : Int) (-1)
                go_wp2_with (first | ((with_reducible refine gate_store (t := 3) (p := 17) rfl ?_); refine store_event (t := 3) (p := 17) (v := ?vo_w12) (w1 := (wr.setCell ⟨go10, (x12_1 : Int).toNat, none⟩ (.int .i64 (-1)))) ?hg ?ho ?hn ?hr ?_; (case ho => rfl); (case hg => rfl); (case hn => rfl); (case hr => first | (go_simp; done) | (go_simp; rfl)); intro w12 hw; have hg : wr.grownBy w12 (some go10) := (by rw [hw]; exact HP11.2); have hp_ : Kd.R (Kd.int .i64) 3 w12 w.heap.size (fun _ => True) (.slice (some ⟨go10, 0, none⟩) x3_1.length co6) y142 := (by rw [hw, Ny142.out]; exact HP11.1); clear HP11; have n0_ := Aside0.mk (hp_); have n1_ := Aside0.mk ((by rw [hw]; exact below_set (HB.out) GB10.out : Below w.heap.size w w12)); clear HO_3; clear HB; have HO_3 := n0_; have HB := n1_; clear n0_ n1_; clear hg hw hp_))
                (try simp only [← hl3_1])
                go_roundg k1
                case measure => have := HK1.out; omega
                case rel => exact ⟨(y142), (wrap64 (x12_1 + 1)), (by first | rfl | (simp; done) | (simp [*]; done)), H', ⟨by have := HK1.out; omega⟩, ⟨by (try simp only [hl3_1]); (with_reducible repeat (first | apply Kd.R_alloc | apply Kd.R_drewN | apply Kd.R_drew)); exact HO_3.out⟩, ⟨by repeat (first | (with_reducible first | exact HB.out | apply below_alloc | apply pw_below_drewN | apply below_drew1) | exact HB.out)⟩⟩
              · rw [if_neg c9] at H
                exact absurd H (by simp)
            · rw [if_neg c8] at H
              exact absurd H (by simp)
          · rw [if_neg c7] at H
            have c7b0 : decide (x12_1 < (y139.length : Int)) = false := decide_eq_false c7
            try (have c7b0q_hl3_1 := c7b0; rw [hl3_1] at c7b0q_hl3_1)
            try (have c7b0q_hl3_2 := c7b0; rw [hl3_2] at c7b0q_hl3_2)
            clear c7
            have H' := Aside0.mk H
            clear H
            go_wp2
            go_loopg [21] k1 (fun kq v21 w' => ∃ (x3_2 : List Int) (x21_2 : Int), v21 = .int .i64 x21_2 ∧ Aside0 (match_parents.l1 kq x3_2 l0 (l0.length : Int) x21_2 = some r) ∧ Aside0 (kq ≤ k1) ∧ Aside0 (Kd.R (Kd.int .i64) 3 w' w.heap.size (fun _ => True) (.slice Ao6 x3_1.length co6) x3_2) ∧ Aside0 (Below w.heap.size w w'))
            case atStart => exact ⟨(x3_1), (0), (by first | rfl | (simp; done) | (simp [*]; done)), H', ⟨Nat.le_refl _⟩, ⟨by (try simp only [hl3_1]); (with_reducible repeat (first | apply Kd.R_alloc | apply Kd.R_drewN | apply Kd.R_drew)); exact HO_3.out⟩, ⟨by repeat (first | (with_reducible first | exact HB.out | apply below_alloc | apply pw_below_drewN | apply below_drew1) | exact HB.out)⟩⟩
            case round =>
              clear H'
              try clear p1
              try clear q1
              try clear hx1
              try clear hf1
              try clear c2
              try clear c2b0
              try clear c2b1
              try clear p2
              try clear c3
              try clear c3b0
              try clear c3b1
              try clear p6
              try clear c7
              try clear c7b0
              try clear c8
              try clear c8b0
              try clear c9
              try clear c9b0
              try clear p10
              try clear q10
              try clear hx10
              try clear hf10
              try clear hx10_0
              try clear p10
              try clear p2
              try clear q10
              obtain ⟨x3_2, x21_2, rfl, HA, HK2, HO_3, HB⟩ := hrel
              have hl3_2 := (Kd.R_reads' HO_3.out).1
              rw [hl3_2] at HO_3
              (try simp only [hl3_2])
              cases gk with
              | zero => exact absurd HA.out (by simp [match_parents.l1])
              | succ k2 =>
                have H := HA.out
                clear HA
                simp only [match_parents.l1] at H
                by_cases c13 : x21_2 < (l0.length : Int)
                · rw [if_pos c13] at H
                  have c13b0 : decide (x21_2 < (l0.length : Int)) = true := decide_eq_true c13
                  clear c13
                  by_cases c14 : 0 ≤ x21_2
                  · rw [if_pos c14] at H
                    have c14b0 : decide (0 ≤ x21_2) = true := decide_eq_true c14
                    clear c14
                    by_cases c15 : x21_2 < (l0.length : Int)
                    · rw [if_pos c15] at H
                      have c15b0 : decide (x21_2 < (l0.length : Int)) = true := decide_eq_true c15
                      clear c15
                      have HC16 := Aside0.mk H
                      clear H
                      have p143 : 0 ≤ (x21_2 : Int) := of_decide_eq_true (by first | (with_reducible assumption) | assumption)
                      have q143 : x21_2 < (l0.length : Int) := of_decide_eq_true (by first | (with_reducible assumption) | assumption)
                      obtain ⟨ad143, e143, hx143_0, hx143_1, hx143_2, hx143_3, hx143_4, hx143_5, hx143_6⟩ := at_T55 HR0.out x21_2 p143 q143
                      cases e143
                      replace hx143_0 := (HB.out.cell (World.block_lt_of_cell? w _ hx143_0)).trans hx143_0
                      replace hx143_1 := (HB.out.cell (World.block_lt_of_cell? w _ hx143_1)).trans hx143_1
                      replace hx143_2 := (HB.out.cell (World.block_lt_of_cell? w _ hx143_2)).trans hx143_2
                      replace hx143_3 := (HB.out.cell (World.block_lt_of_cell? w _ hx143_3)).trans hx143_3
                      replace hx143_4 := (HB.out.cell (World.block_lt_of_cell? w _ hx143_4)).trans hx143_4
                      replace hx143_5 := (HB.out.cell (World.block_lt_of_cell? w _ hx143_5)).trans hx143_5
                      replace hx143_6 := (HB.out.cell (World.block_lt_of_cell? w _ hx143_6)).trans hx143_6
                      replace p143 := eq_true p143
                      replace q143 := eq_true q143
                      go_upto_if 28 with (first | ((with_reducible refine gate_dst (N := 6) rfl ?_); refine box_event ?hg (N := 6) ?hd (cs := #[.int .i64 0, .int .u64 0, .int .u64 0, .int .u64 0, .int .u64 0, .int .i64 0, .int .i64 0]) (t := 55) ?hr ?_; (case hd => rfl); (case hg => rfl); (case hr => first | (go_simp; done) | (go_simp; rfl)); intro gb144 hg w17 hbox hb; have n0_ := Aside0.mk (Kd.R_below (by (with_reducible repeat (first | apply Kd.R_alloc | apply Kd.R_drewN | apply Kd.R_drew)); exact HO_3.out) hb); have n1_ := Aside0.mk (below_step (by repeat (first | (with_reducible first | exact HB.out | apply below_alloc | apply pw_below_drewN | apply below_drew1) | exact HB.out)) hb); have n2_ := Aside0.mk (hbox); have n3_ := Aside0.mk ((by rw [hg]; exact (below_size (by repeat (first | (with_reducible first | exact HB.out | apply below_alloc | apply pw_below_drewN | apply below_drew1) | exact HB.out))) : w.heap.size ≤ gb144)); have n4_ := Aside0.mk ((by rw [hg]; exact (below_size (by repeat (first | (with_reducible first | exact HB.out | apply below_alloc | apply pw_below_drewN | apply below_drew1) | exact HB.out))) : w.heap.size ≤ gb144)); clear HO_3; clear HB; have HO_3 := n0_; have HB := n1_; have BK144 := n2_; have GW144 := n3_; have GE144 := n4_; clear n0_ n1_ n2_ n3_ n4_; clear hb hbox hg; have hcz18_0 : w17.cell? ⟨gb144, 0, none⟩ = some (.int .i64 0) := (blk_cell BK144.out 0).trans rfl; have hcz18_1 : w17.cell? ⟨gb144, 1, none⟩ = some (.int .u64 0) := (blk_cell BK144.out 1).trans rfl; have hcz18_2 : w17.cell? ⟨gb144, 2, none⟩ = some (.int .u64 0) := (blk_cell BK144.out 2).trans rfl; have hcz18_3 : w17.cell? ⟨gb144, 3, none⟩ = some (.int .u64 0) := (blk_cell BK144.out 3).trans rfl; have hcz18_4 : w17.cell? ⟨gb144, 4, none⟩ = some (.int .u64 0) := (blk_cell BK144.out 4).trans rfl; have hcz18_5 : w17.cell? ⟨gb144, 5, none⟩ = some (.int .i64 0) := (blk_cell BK144.out 5).trans rfl; have hcz18_6 : w17.cell? ⟨gb144, 6, none⟩ = some (.int .i64 0) := (blk_cell BK144.out 6).trans rfl; have hfz18_0 := blk_frozen BK144.out 0; have hfz18_1 := blk_frozen BK144.out 1; have hfz18_2 := blk_frozen BK144.out 2; have hfz18_3 := blk_frozen BK144.out 3; have hfz18_4 := blk_frozen BK144.out 4; have hfz18_5 := blk_frozen BK144.out 5; have hfz18_6 := blk_frozen BK144.out 6))
                      (try simp only [Act.put, List.setIfInBounds_toArray, List.set_cons_zero, List.set_cons_succ])
                      go_cut [28] (fun v28 wc => ∃ (kq : Nat) (x28_15 : Bool), v28 = .bool x28_15 ∧ Aside0 (match_parents.j2 kq x3_2 x21_2 l0 (l0.length : Int) x21_2 ((rd_T55 l0 x21_2).f0) x28_15 ((rd_T55 l0 x21_2).f0) ((rd_T55 l0 x21_2).f1.f0) ((rd_T55 l0 x21_2).f1.f1) ((rd_T55 l0 x21_2).f1.f2) ((rd_T55 l0 x21_2).f1.f3) ((rd_T55 l0 x21_2).f2.f0) ((rd_T55 l0 x21_2).f2.f1) = some r) ∧ Aside0 (kq ≤ k2) ∧ Aside0 (Kd.R (Kd.int .i64) 3 wc w.heap.size (fun _ => True) (.slice Ao6 x3_2.length co6) x3_2) ∧ Aside0 (wc.heap[gb144]? = some (.cells #[.int .i64 ((rd_T55 l0 x21_2).f0), .int .u64 ((rd_T55 l0 x21_2).f1.f0), .int .u64 ((rd_T55 l0 x21_2).f1.f1), .int .u64 ((rd_T55 l0 x21_2).f1.f2), .int .u64 ((rd_T55 l0 x21_2).f1.f3), .int .i64 ((rd_T55 l0 x21_2).f2.f0), .int .i64 ((rd_T55 l0 x21_2).f2.f1)] 55 (0, 0))) ∧ Aside0 (Below w.heap.size w wc))
                      case first =>
                        have H := HC16.out
                        clear HC16
                        by_cases c19 : ((rd_T55 l0 x21_2).f0) = 2
                        · rw [if_pos c19] at H
                          have c19b0 : (((rd_T55 l0 x21_2).f0) == 2) = true := beq_iff_eq.mpr c19
                          have c19b1 : (((rd_T55 l0 x21_2).f0) != 2) = false := bne_eq_false_iff_eq.mpr c19
                          clear c19
                          (first | rw [c19b0] | (simp only [i64_w, i32_w]; rw [c19b0]) | skip)
                          have H' := Aside0.mk H
                          clear H
                          go_wp2
                          go_meet
                          case rel => exact ⟨_, ((((rd_T55 l0 x21_2).f0) == 2)), (by first | rfl | (simp; done) | (simp [*]; done)), H', ⟨by have := HK1.out; have := HK2.out; first | omega | exact Nat.le_refl _⟩, ⟨by (try simp only [hl3_1]); (try simp only [hl3_2]); (with_reducible repeat (first | apply Kd.R_alloc | apply Kd.R_drewN | apply Kd.R_drew)); exact Kd.R_mono (Kd.R_far (p := ⟨gb144, 6, none⟩) (Kd.R_far (p := ⟨gb144, 5, none⟩) (Kd.R_far (p := ⟨gb144, 4, none⟩) (Kd.R_far (p := ⟨gb144, 3, none⟩) (Kd.R_far (p := ⟨gb144, 2, none⟩) (Kd.R_far (p := ⟨gb144, 1, none⟩) (Kd.R_far (p := ⟨gb144, 0, none⟩) (Kd.R_types HO_3.out BK144.out (by decide)) (fun _ hk => hk.2) (.int .i64 ((rd_T55 l0 x21_2).f0))) (fun _ hk => hk.2) (.int .u64 ((rd_T55 l0 x21_2).f1.f0))) (fun _ hk => hk.2) (.int .u64 ((rd_T55 l0 x21_2).f1.f1))) (fun _ hk => hk.2) (.int .u64 ((rd_T55 l0 x21_2).f1.f2))) (fun _ hk => hk.2) (.int .u64 ((rd_T55 l0 x21_2).f1.f3))) (fun _ hk => hk.2) (.int .i64 ((rd_T55 l0 x21_2).f2.f0))) (fun _ hk => hk.2) (.int .i64 ((rd_T55 l0 x21_2).f2.f1))) (fun _ hk => trivial)⟩, ⟨by (try simp only [hl3_1]); (try simp only [hl3_2]); (with_reducible repeat (first | refine blk_drewN ?_ _ | refine blk_drew ?_ | refine blk_alloc ?_ _)); refine blk_put (cs := #[.int .i64 ((rd_T55 l0 x21_2).f0), .int .u64 ((rd_T55 l0 x21_2).f1.f0), .int .u64 ((rd_T55 l0 x21_2).f1.f1), .int .u64 ((rd_T55 l0 x21_2).f1.f2), .int .u64 ((rd_T55 l0 x21_2).f1.f3), .int .i64 ((rd_T55 l0 x21_2).f2.f0), .int .i64 0]) ?_ 6 _ rfl; (with_reducible repeat (first | refine blk_drewN ?_ _ | refine blk_drew ?_ | refine blk_alloc ?_ _)); refine blk_put (cs := #[.int .i64 ((rd_T55 l0 x21_2).f0), .int .u64 ((rd_T55 l0 x21_2).f1.f0), .int .u64 ((rd_T55 l0 x21_2).f1.f1), .int .u64 ((rd_T55 l0 x21_2).f1.f2), .int .u64 ((rd_T55 l0 x21_2).f1.f3), .int .i64 0, .int .i64 0]) ?_ 5 _ rfl; (with_reducible repeat (first | refine blk_drewN ?_ _ | refine blk_drew ?_ | refine blk_alloc ?_ _)); refine blk_put (cs := #[.int .i64 ((rd_T55 l0 x21_2).f0), .int .u64 ((rd_T55 l0 x21_2).f1.f0), .int .u64 ((rd_T55 l0 x21_2).f1.f1), .int .u64 ((rd_T55 l0 x21_2).f1.f2), .int .u64 0, .int .i64 0, .int .i64 0]) ?_ 4 _ rfl; (with_reducible repeat (first | refine blk_drewN ?_ _ | refine blk_drew ?_ | refine blk_alloc ?_ _)); refine blk_put (cs := #[.int .i64 ((rd_T55 l0 x21_2).f0), .int .u64 ((rd_T55 l0 x21_2).f1.f0), .int .u64 ((rd_T55 l0 x21_2).f1.f1), .int .u64 0, .int .u64 0, .int .i64 0, .int .i64 0]) ?_ 3 _ rfl; (with_reducible repeat (first | refine blk_drewN ?_ _ | refine blk_drew ?_ | refine blk_alloc ?_ _)); refine blk_put (cs := #[.int .i64 ((rd_T55 l0 x21_2).f0), .int .u64 ((rd_T55 l0 x21_2).f1.f0), .int .u64 0, .int .u64 0, .int .u64 0, .int .i64 0, .int .i64 0]) ?_ 2 _ rfl; (with_reducible repeat (first | refine blk_drewN ?_ _ | refine blk_drew ?_ | refine blk_alloc ?_ _)); refine blk_put (cs := #[.int .i64 ((rd_T55 l0 x21_2).f0), .int .u64 0, .int .u64 0, .int .u64 0, .int .u64 0, .int .i64 0, .int .i64 0]) ?_ 1 _ rfl; (with_reducible repeat (first | refine blk_drewN ?_ _ | refine blk_drew ?_ | refine blk_alloc ?_ _)); refine blk_put (cs := #[.int .i64 0, .int .u64 0, .int .u64 0, .int .u64 0, .int .u64 0, .int .i64 0, .int .i64 0]) ?_ 0 _ rfl; (with_reducible repeat (first | refine blk_drewN ?_ _ | refine blk_drew ?_ | refine blk_alloc ?_ _)); exact BK144.out⟩, ⟨by repeat (first | (with_reducible first | exact HB.out | apply below_alloc | apply pw_below_drewN | apply below_drew1 | refine below_set ?_ GE144.out) | exact HB.out)⟩⟩
                        · rw [if_neg c19] at H
                          have c19b0 : (((rd_T55 l0 x21_2).f0) == 2) = false := beq_eq_false_iff_ne.mpr c19
                          have c19b1 : (((rd_T55 l0 x21_2).f0) != 2) = true := bne_iff_ne.mpr c19
                          (first | rw [c19b0] | (simp only [i64_w, i32_w]; rw [c19b0]) | skip)
                          have H' := Aside0.mk H
                          clear H
                          go_wp2
                          go_meet
                          case rel => exact ⟨_, ((((rd_T55 l0 x21_2).f0) == 3)), (by first | rfl | (simp; done) | (simp [*]; done)), H', ⟨by have := HK1.out; have := HK2.out; first | omega | exact Nat.le_refl _⟩, ⟨by (try simp only [hl3_1]); (try simp only [hl3_2]); (with_reducible repeat (first | apply Kd.R_alloc | apply Kd.R_drewN | apply Kd.R_drew)); exact Kd.R_mono (Kd.R_far (p := ⟨gb144, 6, none⟩) (Kd.R_far (p := ⟨gb144, 5, none⟩) (Kd.R_far (p := ⟨gb144, 4, none⟩) (Kd.R_far (p := ⟨gb144, 3, none⟩) (Kd.R_far (p := ⟨gb144, 2, none⟩) (Kd.R_far (p := ⟨gb144, 1, none⟩) (Kd.R_far (p := ⟨gb144, 0, none⟩) (Kd.R_types HO_3.out BK144.out (by decide)) (fun _ hk => hk.2) (.int .i64 ((rd_T55 l0 x21_2).f0))) (fun _ hk => hk.2) (.int .u64 ((rd_T55 l0 x21_2).f1.f0))) (fun _ hk => hk.2) (.int .u64 ((rd_T55 l0 x21_2).f1.f1))) (fun _ hk => hk.2) (.int .u64 ((rd_T55 l0 x21_2).f1.f2))) (fun _ hk => hk.2) (.int .u64 ((rd_T55 l0 x21_2).f1.f3))) (fun _ hk => hk.2) (.int .i64 ((rd_T55 l0 x21_2).f2.f0))) (fun _ hk => hk.2) (.int .i64 ((rd_T55 l0 x21_2).f2.f1))) (fun _ hk => trivial)⟩, ⟨by (try simp only [hl3_1]); (try simp only [hl3_2]); (with_reducible repeat (first | refine blk_drewN ?_ _ | refine blk_drew ?_ | refine blk_alloc ?_ _)); refine blk_put (cs := #[.int .i64 ((rd_T55 l0 x21_2).f0), .int .u64 ((rd_T55 l0 x21_2).f1.f0), .int .u64 ((rd_T55 l0 x21_2).f1.f1), .int .u64 ((rd_T55 l0 x21_2).f1.f2), .int .u64 ((rd_T55 l0 x21_2).f1.f3), .int .i64 ((rd_T55 l0 x21_2).f2.f0), .int .i64 0]) ?_ 6 _ rfl; (with_reducible repeat (first | refine blk_drewN ?_ _ | refine blk_drew ?_ | refine blk_alloc ?_ _)); refine blk_put (cs := #[.int .i64 ((rd_T55 l0 x21_2).f0), .int .u64 ((rd_T55 l0 x21_2).f1.f0), .int .u64 ((rd_T55 l0 x21_2).f1.f1), .int .u64 ((rd_T55 l0 x21_2).f1.f2), .int .u64 ((rd_T55 l0 x21_2).f1.f3), .int .i64 0, .int .i64 0]) ?_ 5 _ rfl; (with_reducible repeat (first | refine blk_drewN ?_ _ | refine blk_drew ?_ | refine blk_alloc ?_ _)); refine blk_put (cs := #[.int .i64 ((rd_T55 l0 x21_2).f0), .int .u64 ((rd_T55 l0 x21_2).f1.f0), .int .u64 ((rd_T55 l0 x21_2).f1.f1), .int .u64 ((rd_T55 l0 x21_2).f1.f2), .int .u64 0, .int .i64 0, .int .i64 0]) ?_ 4 _ rfl; (with_reducible repeat (first | refine blk_drewN ?_ _ | refine blk_drew ?_ | refine blk_alloc ?_ _)); refine blk_put (cs := #[.int .i64 ((rd_T55 l0 x21_2).f0), .int .u64 ((rd_T55 l0 x21_2).f1.f0), .int .u64 ((rd_T55 l0 x21_2).f1.f1), .int .u64 0, .int .u64 0, .int .i64 0, .int .i64 0]) ?_ 3 _ rfl; (with_reducible repeat (first | refine blk_drewN ?_ _ | refine blk_drew ?_ | refine blk_alloc ?_ _)); refine blk_put (cs := #[.int .i64 ((rd_T55 l0 x21_2).f0), .int .u64 ((rd_T55 l0 x21_2).f1.f0), .int .u64 0, .int .u64 0, .int .u64 0, .int .i64 0, .int .i64 0]) ?_ 2 _ rfl; (with_reducible repeat (first | refine blk_drewN ?_ _ | refine blk_drew ?_ | refine blk_alloc ?_ _)); refine blk_put (cs := #[.int .i64 ((rd_T55 l0 x21_2).f0), .int .u64 0, .int .u64 0, .int .u64 0, .int .u64 0, .int .i64 0, .int .i64 0]) ?_ 1 _ rfl; (with_reducible repeat (first | refine blk_drewN ?_ _ | refine blk_drew ?_ | refine blk_alloc ?_ _)); refine blk_put (cs := #[.int .i64 0, .int .u64 0, .int .u64 0, .int .u64 0, .int .u64 0, .int .i64 0, .int .i64 0]) ?_ 0 _ rfl; (with_reducible repeat (first | refine blk_drewN ?_ _ | refine blk_drew ?_ | refine blk_alloc ?_ _)); exact BK144.out⟩, ⟨by repeat (first | (with_reducible first | exact HB.out | apply below_alloc | apply pw_below_drewN | apply below_drew1 | refine below_set ?_ GE144.out) | exact HB.out)⟩⟩
                      case rest =>
                        clear HC16
                        try clear c1
                        try clear p1
                        try clear q1
                        try clear hx1
                        try clear hf1
                        try clear c2
                        try clear c2b0
                        try clear c2b1
                        try clear p2
                        try clear c3
                        try clear c3b0
                        try clear c3b1
                        try clear p6
                        try clear c7
                        try clear c7b0
                        try clear c8
                        try clear c8b0
                        try clear c9
                        try clear c9b0
                        try clear p10
                        try clear q10
                        try clear hx10
                        try clear hf10
                        try clear c13
                        try clear c13b0
                        try clear c14
                        try clear c14b0
                        try clear p14
                        try clear q14
                        try clear hx14
                        try clear c15
                        try clear c15b0
                        try clear c19
                        try clear c19b0
                        try clear c19b1
                        try clear hcz18_0
                        try clear hcz18_1
                        try clear hcz18_2
                        try clear hcz18_3
                        try clear hcz18_4
                        try clear hcz18_5
                        try clear hcz18_6
                        try clear hfz18_0
                        try clear hfz18_1
                        try clear hfz18_2
                        try clear hfz18_3
                        try clear hfz18_4
                        try clear hfz18_5
                        try clear hfz18_6
                        try clear hx10_0
                        try clear hx143_0
                        try clear hx143_1
                        try clear hx143_2
                        try clear hx143_3
                        try clear hx143_4
                        try clear hx143_5
                        try clear hx143_6
                        try clear p1
                        try clear p10
                        try clear p143
                        try clear p2
                        try clear p6
                        try clear q1
                        try clear q10
                        try clear q143
                        obtain ⟨kq, x28_15, rfl, HA, HJ15, HO_3, BK144, HB⟩ := hcut
                        cases kq with
                        | zero => exact absurd HA.out (by simp [match_parents.j2])
                        | succ kj15 =>
                          have H := HA.out
                          clear HA
                          simp only [match_parents.j2] at H
                          by_cases c20 : x28_15 = true
                          · subst c20
                            have H1 : (if 0 ≤ ((rd_T55 l0 x21_2).f2.f1) then (if ((rd_T55 l0 x21_2).f2.f1) < (x3_2.length : Int) then (if 0 ≤ ((rd_T55 l0 x21_2).f2.f0) then (if ((rd_T55 l0 x21_2).f2.f0) < (x3_2.length : Int) then (match_parents.l1 kj15 ((x3_2.set (((rd_T55 l0 x21_2).f2.f1) : Int).toNat x21_2).set (((rd_T55 l0 x21_2).f2.f0) : Int).toNat x21_2) l0 (l0.length : Int) (wrap64 (x21_2 + 1))) else (none)) else (none)) else (none)) else (none)) = some r := by rw [if_pos rfl] at H; exact H
                            clear H
                            have H := H1
                            clear H1
                            by_cases c21 : 0 ≤ ((rd_T55 l0 x21_2).f2.f1)
                            · rw [if_pos c21] at H
                              have c21b0 : decide (0 ≤ ((rd_T55 l0 x21_2).f2.f1)) = true := decide_eq_true c21
                              clear c21
                              by_cases c22 : ((rd_T55 l0 x21_2).f2.f1) < (x3_2.length : Int)
                              · rw [if_pos c22] at H
                                have c22b0 : decide (((rd_T55 l0 x21_2).f2.f1) < (x3_2.length : Int)) = true := decide_eq_true c22
                                clear c22
                                obtain ⟨y145, hy145⟩ : ∃ y_ : List Int, y_ = (x3_2.set (((rd_T55 l0 x21_2).f2.f1) : Int).toNat x21_2) := ⟨_, rfl⟩
                                replace H : (if 0 ≤ ((rd_T55 l0 x21_2).f2.f0) then (if ((rd_T55 l0 x21_2).f2.f0) < (x3_2.length : Int) then (match_parents.l1 kj15 (y145.set (((rd_T55 l0 x21_2).f2.f0) : Int).toNat x21_2) l0 (l0.length : Int) (wrap64 (x21_2 + 1))) else (none)) else (none)) = some r := by first | (rw [hy145]; with_reducible exact H) | (have H2_ := (Option.bind_some _ _).symm.trans H; rw [hy145]; with_reducible exact H2_) | (have H2_ := (Option.bind_some _ _).symm.trans H; with_reducible exact H2_) | with_reducible exact H | (rw [hy145]; exact H) | exact H
                                have Ny145 := Aside0.mk hy145
                                clear hy145
                                by_cases c24 : 0 ≤ ((rd_T55 l0 x21_2).f2.f0)
                                · rw [if_pos c24] at H
                                  have c24b0 : decide (0 ≤ ((rd_T55 l0 x21_2).f2.f0)) = true := decide_eq_true c24
                                  clear c24
                                  by_cases c25 : ((rd_T55 l0 x21_2).f2.f0) < (x3_2.length : Int)
                                  · rw [if_pos c25] at H
                                    have c25b0 : decide (((rd_T55 l0 x21_2).f2.f0) < (x3_2.length : Int)) = true := decide_eq_true c25
                                    clear c25
                                    obtain ⟨y146, hy146⟩ : ∃ y_ : List Int, y_ = (y145.set (((rd_T55 l0 x21_2).f2.f0) : Int).toNat x21_2) := ⟨_, rfl⟩
                                    replace H : (match_parents.l1 kj15 y146 l0 (l0.length : Int) (wrap64 (x21_2 + 1))) = some r := by first | (rw [hy146]; with_reducible exact H) | (have H2_ := (Option.bind_some _ _).symm.trans H; rw [hy146]; with_reducible exact H2_) | (have H2_ := (Option.bind_some _ _).symm.trans H; with_reducible exact H2_) | with_reducible exact H | (rw [hy146]; exact H) | exact H
                                    have Ny146 := Aside0.mk hy146
                                    clear hy146
                                    have H' := Aside0.mk H
                                    clear H
                                    have hcz27_0 : wc.cell? ⟨gb144, 0, none⟩ = some (.int .i64 ((rd_T55 l0 x21_2).f0)) := (blk_cell BK144.out 0).trans rfl
                                    have hcz27_1 : wc.cell? ⟨gb144, 1, none⟩ = some (.int .u64 ((rd_T55 l0 x21_2).f1.f0)) := (blk_cell BK144.out 1).trans rfl
                                    have hcz27_2 : wc.cell? ⟨gb144, 2, none⟩ = some (.int .u64 ((rd_T55 l0 x21_2).f1.f1)) := (blk_cell BK144.out 2).trans rfl
                                    have hcz27_3 : wc.cell? ⟨gb144, 3, none⟩ = some (.int .u64 ((rd_T55 l0 x21_2).f1.f2)) := (blk_cell BK144.out 3).trans rfl
                                    have hcz27_4 : wc.cell? ⟨gb144, 4, none⟩ = some (.int .u64 ((rd_T55 l0 x21_2).f1.f3)) := (blk_cell BK144.out 4).trans rfl
                                    have hcz27_5 : wc.cell? ⟨gb144, 5, none⟩ = some (.int .i64 ((rd_T55 l0 x21_2).f2.f0)) := (blk_cell BK144.out 5).trans rfl
                                    have hcz27_6 : wc.cell? ⟨gb144, 6, none⟩ = some (.int .i64 ((rd_T55 l0 x21_2).f2.f1)) := (blk_cell BK144.out 6).trans rfl
                                    have hfz27_0 := blk_frozen BK144.out 0
                                    have hfz27_1 := blk_frozen BK144.out 1
                                    have hfz27_2 := blk_frozen BK144.out 2
                                    have hfz27_3 := blk_frozen BK144.out 3
                                    have hfz27_4 := blk_frozen BK144.out 4
                                    have hfz27_5 := blk_frozen BK144.out 5
                                    have hfz27_6 := blk_frozen BK144.out 6
                                    have p23 : 0 ≤ (((rd_T55 l0 x21_2).f2.f1) : Int) := of_decide_eq_true (by first | (with_reducible assumption) | assumption)
                                    have q23 : (((rd_T55 l0 x21_2).f2.f1) : Int) < ((x3_2.length : Int) : Int) := of_decide_eq_true (by first | (with_reducible assumption) | assumption)
                                    obtain ⟨go23, co23, eo23, gb23, gl23, cl23, HG23⟩ := Kd.R_form HO_3.out (by omega)
                                    (first | cases eo23 | (injection eo23 with ea_ en_ ec_; (first | subst ea_ | (injection ea_ with ea_; subst ea_)); subst ec_; clear en_))
                                    have GB23 := Aside0.mk gb23
                                    have GG23 := Aside0.mk HG23
                                    clear gb23 gl23 HG23
                                    obtain ⟨hx23_0, hf23_0⟩ := Kd.R_celln 0 HO_3.out (((rd_T55 l0 x21_2).f2.f1) : Int) p23 q23
                                    replace p23 := eq_true p23
                                    replace q23 := eq_true q23
                                    have HP28 := Kd.R_putg HO_3.out (((rd_T55 l0 x21_2).f2.f1) : Int) x21_2
                                    go_wp2_with (first | ((with_reducible refine gate_store (t := 3) (p := 36) rfl ?_); refine store_event (t := 3) (p := 36) (v := ?vo_w29) (w1 := (wc.setCell ⟨go23, (((rd_T55 l0 x21_2).f2.f1) : Int).toNat, none⟩ (.int .i64 x21_2))) ?hg ?ho ?hn ?hr ?_; (case ho => rfl); (case hg => rfl); (case hn => rfl); (case hr => first | (go_simp; done) | (go_simp; rfl)); intro w29 hw; have hg : wc.grownBy w29 (some go23) := (by rw [hw]; exact HP28.2); have hp_ : Kd.R (Kd.int .i64) 3 w29 w.heap.size (fun _ => True) (.slice (some ⟨go23, 0, none⟩) x3_2.length co6) y145 := (by rw [hw, Ny145.out]; exact HP28.1); clear HP28; have n0_ := Aside0.mk (hp_); have n1_ := Aside0.mk (blk_grown (g := gb144) (o := .cells #[.int .i64 ((rd_T55 l0 x21_2).f0), .int .u64 ((rd_T55 l0 x21_2).f1.f0), .int .u64 ((rd_T55 l0 x21_2).f1.f1), .int .u64 ((rd_T55 l0 x21_2).f1.f2), .int .u64 ((rd_T55 l0 x21_2).f1.f3), .int .i64 ((rd_T55 l0 x21_2).f2.f0), .int .i64 ((rd_T55 l0 x21_2).f2.f1)] 55 (0, 0)) (by (with_reducible repeat (first | refine blk_drewN ?_ _ | refine blk_drew ?_ | refine blk_alloc ?_ _)); exact BK144.out) hg (Kd.R_ne HO_3.out BK144.out (by decide))); have n2_ := Aside0.mk ((by rw [hw]; exact below_set (HB.out) GB23.out : Below w.heap.size w w29)); clear HO_3; clear BK144; clear HB; have HO_3 := n0_; have BK144 := n1_; have HB := n2_; clear n0_ n1_ n2_; clear hg hw hp_; have hcz30_0 : w29.cell? ⟨gb144, 0, none⟩ = some (.int .i64 ((rd_T55 l0 x21_2).f0)) := (blk_cell BK144.out 0).trans rfl; have hcz30_1 : w29.cell? ⟨gb144, 1, none⟩ = some (.int .u64 ((rd_T55 l0 x21_2).f1.f0)) := (blk_cell BK144.out 1).trans rfl; have hcz30_2 : w29.cell? ⟨gb144, 2, none⟩ = some (.int .u64 ((rd_T55 l0 x21_2).f1.f1)) := (blk_cell BK144.out 2).trans rfl; have hcz30_3 : w29.cell? ⟨gb144, 3, none⟩ = some (.int .u64 ((rd_T55 l0 x21_2).f1.f2)) := (blk_cell BK144.out 3).trans rfl; have hcz30_4 : w29.cell? ⟨gb144, 4, none⟩ = some (.int .u64 ((rd_T55 l0 x21_2).f1.f3)) := (blk_cell BK144.out 4).trans rfl; have hcz30_5 : w29.cell? ⟨gb144, 5, none⟩ = some (.int .i64 ((rd_T55 l0 x21_2).f2.f0)) := (blk_cell BK144.out 5).trans rfl; have hcz30_6 : w29.cell? ⟨gb144, 6, none⟩ = some (.int .i64 ((rd_T55 l0 x21_2).f2.f1)) := (blk_cell BK144.out 6).trans rfl; have hfz30_0 := blk_frozen BK144.out 0; have hfz30_1 := blk_frozen BK144.out 1; have hfz30_2 := blk_frozen BK144.out 2; have hfz30_3 := blk_frozen BK144.out 3; have hfz30_4 := blk_frozen BK144.out 4; have hfz30_5 := blk_frozen BK144.out 5; have hfz30_6 := blk_frozen BK144.out 6; have p26 : 0 ≤ (((rd_T55 l0 x21_2).f2.f0) : Int) := of_decide_eq_true (by first | (with_reducible assumption) | assumption); have q26 : (((rd_T55 l0 x21_2).f2.f0) : Int) < ((x3_2.length : Int) : Int) := of_decide_eq_true (by first | (with_reducible assumption) | assumption); obtain ⟨hx26_0, hf26_0⟩ := Kd.R_celln 0 HO_3.out (((rd_T55 l0 x21_2).f2.f0) : Int) p26 q26; replace p26 := eq_true p26; replace q26 := eq_true q26; obtain ⟨hy31_, hz31_⟩ := Kd.R_celln 0 HO_3.out (((rd_T55 l0 x21_2).f2.f0) : Int) (of_decide_eq_true (by first | (with_reducible assumption) | assumption)) (of_decide_eq_true (by first | (with_reducible assumption) | assumption)); have HP31 := Kd.R_putg HO_3.out (((rd_T55 l0 x21_2).f2.f0) : Int) x21_2) | ((with_reducible refine gate_store (t := 3) (p := 42) rfl ?_); refine store_event (t := 3) (p := 42) (v := ?vo_w32) (w1 := (w29.setCell ⟨go23, (((rd_T55 l0 x21_2).f2.f0) : Int).toNat, none⟩ (.int .i64 x21_2))) ?hg ?ho ?hn ?hr ?_; (case ho => rfl); (case hg => rfl); (case hn => rfl); (case hr => first | (go_simp; done) | (go_simp; rfl)); intro w32 hw; have hg : w29.grownBy w32 (some go23) := (by rw [hw]; exact HP31.2); have hp_ : Kd.R (Kd.int .i64) 3 w32 w.heap.size (fun _ => True) (.slice (some ⟨go23, 0, none⟩) x3_2.length co6) y146 := (by rw [hw, Ny146.out]; exact HP31.1); clear HP31; have n0_ := Aside0.mk (hp_); have n1_ := Aside0.mk (blk_grown (g := gb144) (o := .cells #[.int .i64 ((rd_T55 l0 x21_2).f0), .int .u64 ((rd_T55 l0 x21_2).f1.f0), .int .u64 ((rd_T55 l0 x21_2).f1.f1), .int .u64 ((rd_T55 l0 x21_2).f1.f2), .int .u64 ((rd_T55 l0 x21_2).f1.f3), .int .i64 ((rd_T55 l0 x21_2).f2.f0), .int .i64 ((rd_T55 l0 x21_2).f2.f1)] 55 (0, 0)) (by (with_reducible repeat (first | refine blk_drewN ?_ _ | refine blk_drew ?_ | refine blk_alloc ?_ _)); exact BK144.out) hg (Kd.R_ne HO_3.out BK144.out (by decide))); have n2_ := Aside0.mk ((by rw [hw]; exact below_set (HB.out) GB23.out : Below w.heap.size w w32)); clear HO_3; clear BK144; clear HB; have HO_3 := n0_; have BK144 := n1_; have HB := n2_; clear n0_ n1_ n2_; clear hg hw hp_))
                                    (try simp only [← hl3_2])
                                    go_roundg kj15
                                    case measure => have := HK1.out; have := HK2.out; have := HJ15.out; omega
                                    case rel => exact ⟨(y146), (wrap64 (x21_2 + 1)), (by first | rfl | (simp; done) | (simp [*]; done)), H', ⟨by have := HK1.out; have := HK2.out; have := HJ15.out; omega⟩, ⟨by (try simp only [hl3_1]); (try simp only [hl3_2]); (with_reducible repeat (first | apply Kd.R_alloc | apply Kd.R_drewN | apply Kd.R_drew)); exact HO_3.out⟩, ⟨by repeat (first | (with_reducible first | exact HB.out | apply below_alloc | apply pw_below_drewN | apply below_drew1 | refine below_set ?_ GE144.out) | exact HB.out)⟩⟩
                                  · rw [if_neg c25] at H
                                    exact absurd H (by simp)
                                · rw [if_neg c24] at H
                                  exact absurd H (by simp)
                              · rw [if_neg c22] at H
                                exact absurd H (by simp)
                            · rw [if_neg c21] at H
                              exact absurd H (by simp)
                          · replace c20 := Bool.eq_false_iff.mpr c20
                            subst c20
                            have H1 : (if ((rd_T55 l0 x21_2).f0) = 4 then (if 0 ≤ ((rd_T55 l0 x21_2).f2.f0) then (if ((rd_T55 l0 x21_2).f2.f0) < (x3_2.length : Int) then (match_parents.l1 kj15 (x3_2.set (((rd_T55 l0 x21_2).f2.f0) : Int).toNat x21_2) l0 (l0.length : Int) (wrap64 (x21_2 + 1))) else (none)) else (none)) else (if ((rd_T55 l0 x21_2).f0) = 5 then (if 0 ≤ ((rd_T55 l0 x21_2).f2.f0) then (if ((rd_T55 l0 x21_2).f2.f0) < (x3_2.length : Int) then (match_parents.l1 kj15 (x3_2.set (((rd_T55 l0 x21_2).f2.f0) : Int).toNat x21_2) l0 (l0.length : Int) (wrap64 (x21_2 + 1))) else (none)) else (none)) else (if ((rd_T55 l0 x21_2).f0) = 6 then (if 0 ≤ ((rd_T55 l0 x21_2).f2.f0) then (if ((rd_T55 l0 x21_2).f2.f0) < (x3_2.length : Int) then (match_parents.l1 kj15 (x3_2.set (((rd_T55 l0 x21_2).f2.f0) : Int).toNat x21_2) l0 (l0.length : Int) (wrap64 (x21_2 + 1))) else (none)) else (none)) else (match_parents.l1 kj15 x3_2 l0 (l0.length : Int) (wrap64 (x21_2 + 1)))))) = some r := by rw [if_neg (show ¬ (false = true) by decide)] at H; exact H
                            clear H
                            have H := H1
                            clear H1
                            by_cases c33 : ((rd_T55 l0 x21_2).f0) = 4
                            · rw [if_pos c33] at H
                              have c33b0 : (((rd_T55 l0 x21_2).f0) == 4) = true := beq_iff_eq.mpr c33
                              have c33b1 : (((rd_T55 l0 x21_2).f0) != 4) = false := bne_eq_false_iff_eq.mpr c33
                              clear c33
                              by_cases c34 : 0 ≤ ((rd_T55 l0 x21_2).f2.f0)
                              · rw [if_pos c34] at H
                                have c34b0 : decide (0 ≤ ((rd_T55 l0 x21_2).f2.f0)) = true := decide_eq_true c34
                                clear c34
                                by_cases c35 : ((rd_T55 l0 x21_2).f2.f0) < (x3_2.length : Int)
                                · rw [if_pos c35] at H
                                  have c35b0 : decide (((rd_T55 l0 x21_2).f2.f0) < (x3_2.length : Int)) = true := decide_eq_true c35
                                  clear c35
                                  obtain ⟨y147, hy147⟩ : ∃ y_ : List Int, y_ = (x3_2.set (((rd_T55 l0 x21_2).f2.f0) : Int).toNat x21_2) := ⟨_, rfl⟩
                                  replace H : (match_parents.l1 kj15 y147 l0 (l0.length : Int) (wrap64 (x21_2 + 1))) = some r := by first | (rw [hy147]; with_reducible exact H) | (have H2_ := (Option.bind_some _ _).symm.trans H; rw [hy147]; with_reducible exact H2_) | (have H2_ := (Option.bind_some _ _).symm.trans H; with_reducible exact H2_) | with_reducible exact H | (rw [hy147]; exact H) | exact H
                                  have Ny147 := Aside0.mk hy147
                                  clear hy147
                                  have H' := Aside0.mk H
                                  clear H
                                  have hcz37_0 : wc.cell? ⟨gb144, 0, none⟩ = some (.int .i64 ((rd_T55 l0 x21_2).f0)) := (blk_cell BK144.out 0).trans rfl
                                  have hcz37_1 : wc.cell? ⟨gb144, 1, none⟩ = some (.int .u64 ((rd_T55 l0 x21_2).f1.f0)) := (blk_cell BK144.out 1).trans rfl
                                  have hcz37_2 : wc.cell? ⟨gb144, 2, none⟩ = some (.int .u64 ((rd_T55 l0 x21_2).f1.f1)) := (blk_cell BK144.out 2).trans rfl
                                  have hcz37_3 : wc.cell? ⟨gb144, 3, none⟩ = some (.int .u64 ((rd_T55 l0 x21_2).f1.f2)) := (blk_cell BK144.out 3).trans rfl
                                  have hcz37_4 : wc.cell? ⟨gb144, 4, none⟩ = some (.int .u64 ((rd_T55 l0 x21_2).f1.f3)) := (blk_cell BK144.out 4).trans rfl
                                  have hcz37_5 : wc.cell? ⟨gb144, 5, none⟩ = some (.int .i64 ((rd_T55 l0 x21_2).f2.f0)) := (blk_cell BK144.out 5).trans rfl
                                  have hcz37_6 : wc.cell? ⟨gb144, 6, none⟩ = some (.int .i64 ((rd_T55 l0 x21_2).f2.f1)) := (blk_cell BK144.out 6).trans rfl
                                  have hfz37_0 := blk_frozen BK144.out 0
                                  have hfz37_1 := blk_frozen BK144.out 1
                                  have hfz37_2 := blk_frozen BK144.out 2
                                  have hfz37_3 := blk_frozen BK144.out 3
                                  have hfz37_4 := blk_frozen BK144.out 4
                                  have hfz37_5 := blk_frozen BK144.out 5
                                  have hfz37_6 := blk_frozen BK144.out 6
                                  have p36 : 0 ≤ (((rd_T55 l0 x21_2).f2.f0) : Int) := of_decide_eq_true (by first | (with_reducible assumption) | assumption)
                                  have q36 : (((rd_T55 l0 x21_2).f2.f0) : Int) < ((x3_2.length : Int) : Int) := of_decide_eq_true (by first | (with_reducible assumption) | assumption)
                                  obtain ⟨go36, co36, eo36, gb36, gl36, cl36, HG36⟩ := Kd.R_form HO_3.out (by omega)
                                  (first | cases eo36 | (injection eo36 with ea_ en_ ec_; (first | subst ea_ | (injection ea_ with ea_; subst ea_)); subst ec_; clear en_))
                                  have GB36 := Aside0.mk gb36
                                  have GG36 := Aside0.mk HG36
                                  clear gb36 gl36 HG36
                                  obtain ⟨hx36_0, hf36_0⟩ := Kd.R_celln 0 HO_3.out (((rd_T55 l0 x21_2).f2.f0) : Int) p36 q36
                                  replace p36 := eq_true p36
                                  replace q36 := eq_true q36
                                  have HP38 := Kd.R_putg HO_3.out (((rd_T55 l0 x21_2).f2.f0) : Int) x21_2
                                  go_wp2_with (first | ((with_reducible refine gate_store (t := 3) (p := 52) rfl ?_); refine store_event (t := 3) (p := 52) (v := ?vo_w39) (w1 := (wc.setCell ⟨go36, (((rd_T55 l0 x21_2).f2.f0) : Int).toNat, none⟩ (.int .i64 x21_2))) ?hg ?ho ?hn ?hr ?_; (case ho => rfl); (case hg => rfl); (case hn => rfl); (case hr => first | (go_simp; done) | (go_simp; rfl)); intro w39 hw; have hg : wc.grownBy w39 (some go36) := (by rw [hw]; exact HP38.2); have hp_ : Kd.R (Kd.int .i64) 3 w39 w.heap.size (fun _ => True) (.slice (some ⟨go36, 0, none⟩) x3_2.length co6) y147 := (by rw [hw, Ny147.out]; exact HP38.1); clear HP38; have n0_ := Aside0.mk (hp_); have n1_ := Aside0.mk (blk_grown (g := gb144) (o := .cells #[.int .i64 ((rd_T55 l0 x21_2).f0), .int .u64 ((rd_T55 l0 x21_2).f1.f0), .int .u64 ((rd_T55 l0 x21_2).f1.f1), .int .u64 ((rd_T55 l0 x21_2).f1.f2), .int .u64 ((rd_T55 l0 x21_2).f1.f3), .int .i64 ((rd_T55 l0 x21_2).f2.f0), .int .i64 ((rd_T55 l0 x21_2).f2.f1)] 55 (0, 0)) (by (with_reducible repeat (first | refine blk_drewN ?_ _ | refine blk_drew ?_ | refine blk_alloc ?_ _)); exact BK144.out) hg (Kd.R_ne HO_3.out BK144.out (by decide))); have n2_ := Aside0.mk ((by rw [hw]; exact below_set (HB.out) GB36.out : Below w.heap.size w w39)); clear HO_3; clear BK144; clear HB; have HO_3 := n0_; have BK144 := n1_; have HB := n2_; clear n0_ n1_ n2_; clear hg hw hp_))
                                  (try simp only [← hl3_2])
                                  go_roundg kj15
                                  case measure => have := HK1.out; have := HK2.out; have := HJ15.out; omega
                                  case rel => exact ⟨(y147), (wrap64 (x21_2 + 1)), (by first | rfl | (simp; done) | (simp [*]; done)), H', ⟨by have := HK1.out; have := HK2.out; have := HJ15.out; omega⟩, ⟨by (try simp only [hl3_1]); (try simp only [hl3_2]); (with_reducible repeat (first | apply Kd.R_alloc | apply Kd.R_drewN | apply Kd.R_drew)); exact HO_3.out⟩, ⟨by repeat (first | (with_reducible first | exact HB.out | apply below_alloc | apply pw_below_drewN | apply below_drew1 | refine below_set ?_ GE144.out) | exact HB.out)⟩⟩
                                · rw [if_neg c35] at H
                                  exact absurd H (by simp)
                              · rw [if_neg c34] at H
                                exact absurd H (by simp)
                            · rw [if_neg c33] at H
                              have c33b0 : (((rd_T55 l0 x21_2).f0) == 4) = false := beq_eq_false_iff_ne.mpr c33
                              have c33b1 : (((rd_T55 l0 x21_2).f0) != 4) = true := bne_iff_ne.mpr c33
                              by_cases c40 : ((rd_T55 l0 x21_2).f0) = 5
                              · rw [if_pos c40] at H
                                have c40b0 : (((rd_T55 l0 x21_2).f0) == 5) = true := beq_iff_eq.mpr c40
                                have c40b1 : (((rd_T55 l0 x21_2).f0) != 5) = false := bne_eq_false_iff_eq.mpr c40
                                clear c40
                                by_cases c41 : 0 ≤ ((rd_T55 l0 x21_2).f2.f0)
                                · rw [if_pos c41] at H
                                  have c41b0 : decide (0 ≤ ((rd_T55 l0 x21_2).f2.f0)) = true := decide_eq_true c41
                                  clear c41
                                  by_cases c42 : ((rd_T55 l0 x21_2).f2.f0) < (x3_2.length : Int)
                                  · rw [if_pos c42] at H
                                    have c42b0 : decide (((rd_T55 l0 x21_2).f2.f0) < (x3_2.length : Int)) = true := decide_eq_true c42
                                    clear c42
                                    obtain ⟨y148, hy148⟩ : ∃ y_ : List Int, y_ = (x3_2.set (((rd_T55 l0 x21_2).f2.f0) : Int).toNat x21_2) := ⟨_, rfl⟩
                                    replace H : (match_parents.l1 kj15 y148 l0 (l0.length : Int) (wrap64 (x21_2 + 1))) = some r := by first | (rw [hy148]; with_reducible exact H) | (have H2_ := (Option.bind_some _ _).symm.trans H; rw [hy148]; with_reducible exact H2_) | (have H2_ := (Option.bind_some _ _).symm.trans H; with_reducible exact H2_) | with_reducible exact H | (rw [hy148]; exact H) | exact H
                                    have Ny148 := Aside0.mk hy148
                                    clear hy148
                                    have H' := Aside0.mk H
                                    clear H
                                    have hcz44_0 : wc.cell? ⟨gb144, 0, none⟩ = some (.int .i64 ((rd_T55 l0 x21_2).f0)) := (blk_cell BK144.out 0).trans rfl
                                    have hcz44_1 : wc.cell? ⟨gb144, 1, none⟩ = some (.int .u64 ((rd_T55 l0 x21_2).f1.f0)) := (blk_cell BK144.out 1).trans rfl
                                    have hcz44_2 : wc.cell? ⟨gb144, 2, none⟩ = some (.int .u64 ((rd_T55 l0 x21_2).f1.f1)) := (blk_cell BK144.out 2).trans rfl
                                    have hcz44_3 : wc.cell? ⟨gb144, 3, none⟩ = some (.int .u64 ((rd_T55 l0 x21_2).f1.f2)) := (blk_cell BK144.out 3).trans rfl
                                    have hcz44_4 : wc.cell? ⟨gb144, 4, none⟩ = some (.int .u64 ((rd_T55 l0 x21_2).f1.f3)) := (blk_cell BK144.out 4).trans rfl
                                    have hcz44_5 : wc.cell? ⟨gb144, 5, none⟩ = some (.int .i64 ((rd_T55 l0 x21_2).f2.f0)) := (blk_cell BK144.out 5).trans rfl
                                    have hcz44_6 : wc.cell? ⟨gb144, 6, none⟩ = some (.int .i64 ((rd_T55 l0 x21_2).f2.f1)) := (blk_cell BK144.out 6).trans rfl
                                    have hfz44_0 := blk_frozen BK144.out 0
                                    have hfz44_1 := blk_frozen BK144.out 1
                                    have hfz44_2 := blk_frozen BK144.out 2
                                    have hfz44_3 := blk_frozen BK144.out 3
                                    have hfz44_4 := blk_frozen BK144.out 4
                                    have hfz44_5 := blk_frozen BK144.out 5
                                    have hfz44_6 := blk_frozen BK144.out 6
                                    have p43 : 0 ≤ (((rd_T55 l0 x21_2).f2.f0) : Int) := of_decide_eq_true (by first | (with_reducible assumption) | assumption)
                                    have q43 : (((rd_T55 l0 x21_2).f2.f0) : Int) < ((x3_2.length : Int) : Int) := of_decide_eq_true (by first | (with_reducible assumption) | assumption)
                                    obtain ⟨go43, co43, eo43, gb43, gl43, cl43, HG43⟩ := Kd.R_form HO_3.out (by omega)
                                    (first | cases eo43 | (injection eo43 with ea_ en_ ec_; (first | subst ea_ | (injection ea_ with ea_; subst ea_)); subst ec_; clear en_))
                                    have GB43 := Aside0.mk gb43
                                    have GG43 := Aside0.mk HG43
                                    clear gb43 gl43 HG43
                                    obtain ⟨hx43_0, hf43_0⟩ := Kd.R_celln 0 HO_3.out (((rd_T55 l0 x21_2).f2.f0) : Int) p43 q43
                                    replace p43 := eq_true p43
                                    replace q43 := eq_true q43
                                    have HP45 := Kd.R_putg HO_3.out (((rd_T55 l0 x21_2).f2.f0) : Int) x21_2
                                    go_wp2_with (first | ((with_reducible refine gate_store (t := 3) (p := 52) rfl ?_); refine store_event (t := 3) (p := 52) (v := ?vo_w46) (w1 := (wc.setCell ⟨go43, (((rd_T55 l0 x21_2).f2.f0) : Int).toNat, none⟩ (.int .i64 x21_2))) ?hg ?ho ?hn ?hr ?_; (case ho => rfl); (case hg => rfl); (case hn => rfl); (case hr => first | (go_simp; done) | (go_simp; rfl)); intro w46 hw; have hg : wc.grownBy w46 (some go43) := (by rw [hw]; exact HP45.2); have hp_ : Kd.R (Kd.int .i64) 3 w46 w.heap.size (fun _ => True) (.slice (some ⟨go43, 0, none⟩) x3_2.length co6) y148 := (by rw [hw, Ny148.out]; exact HP45.1); clear HP45; have n0_ := Aside0.mk (hp_); have n1_ := Aside0.mk (blk_grown (g := gb144) (o := .cells #[.int .i64 ((rd_T55 l0 x21_2).f0), .int .u64 ((rd_T55 l0 x21_2).f1.f0), .int .u64 ((rd_T55 l0 x21_2).f1.f1), .int .u64 ((rd_T55 l0 x21_2).f1.f2), .int .u64 ((rd_T55 l0 x21_2).f1.f3), .int .i64 ((rd_T55 l0 x21_2).f2.f0), .int .i64 ((rd_T55 l0 x21_2).f2.f1)] 55 (0, 0)) (by (with_reducible repeat (first | refine blk_drewN ?_ _ | refine blk_drew ?_ | refine blk_alloc ?_ _)); exact BK144.out) hg (Kd.R_ne HO_3.out BK144.out (by decide))); have n2_ := Aside0.mk ((by rw [hw]; exact below_set (HB.out) GB43.out : Below w.heap.size w w46)); clear HO_3; clear BK144; clear HB; have HO_3 := n0_; have BK144 := n1_; have HB := n2_; clear n0_ n1_ n2_; clear hg hw hp_))
                                    (try simp only [← hl3_2])
                                    go_roundg kj15
                                    case measure => have := HK1.out; have := HK2.out; have := HJ15.out; omega
                                    case rel => exact ⟨(y148), (wrap64 (x21_2 + 1)), (by first | rfl | (simp; done) | (simp [*]; done)), H', ⟨by have := HK1.out; have := HK2.out; have := HJ15.out; omega⟩, ⟨by (try simp only [hl3_1]); (try simp only [hl3_2]); (with_reducible repeat (first | apply Kd.R_alloc | apply Kd.R_drewN | apply Kd.R_drew)); exact HO_3.out⟩, ⟨by repeat (first | (with_reducible first | exact HB.out | apply below_alloc | apply pw_below_drewN | apply below_drew1 | refine below_set ?_ GE144.out) | exact HB.out)⟩⟩
                                  · rw [if_neg c42] at H
                                    exact absurd H (by simp)
                                · rw [if_neg c41] at H
                                  exact absurd H (by simp)
                              · rw [if_neg c40] at H
                                have c40b0 : (((rd_T55 l0 x21_2).f0) == 5) = false := beq_eq_false_iff_ne.mpr c40
                                have c40b1 : (((rd_T55 l0 x21_2).f0) != 5) = true := bne_iff_ne.mpr c40
                                by_cases c47 : ((rd_T55 l0 x21_2).f0) = 6
                                · rw [if_pos c47] at H
                                  have c47b0 : (((rd_T55 l0 x21_2).f0) == 6) = true := beq_iff_eq.mpr c47
                                  have c47b1 : (((rd_T55 l0 x21_2).f0) != 6) = false := bne_eq_false_iff_eq.mpr c47
                                  clear c47
                                  by_cases c48 : 0 ≤ ((rd_T55 l0 x21_2).f2.f0)
                                  · rw [if_pos c48] at H
                                    have c48b0 : decide (0 ≤ ((rd_T55 l0 x21_2).f2.f0)) = true := decide_eq_true c48
                                    clear c48
                                    by_cases c49 : ((rd_T55 l0 x21_2).f2.f0) < (x3_2.length : Int)
                                    · rw [if_pos c49] at H
                                      have c49b0 : decide (((rd_T55 l0 x21_2).f2.f0) < (x3_2.length : Int)) = true := decide_eq_true c49
                                      clear c49
                                      obtain ⟨y149, hy149⟩ : ∃ y_ : List Int, y_ = (x3_2.set (((rd_T55 l0 x21_2).f2.f0) : Int).toNat x21_2) := ⟨_, rfl⟩
                                      replace H : (match_parents.l1 kj15 y149 l0 (l0.length : Int) (wrap64 (x21_2 + 1))) = some r := by first | (rw [hy149]; with_reducible exact H) | (have H2_ := (Option.bind_some _ _).symm.trans H; rw [hy149]; with_reducible exact H2_) | (have H2_ := (Option.bind_some _ _).symm.trans H; with_reducible exact H2_) | with_reducible exact H | (rw [hy149]; exact H) | exact H
                                      have Ny149 := Aside0.mk hy149
                                      clear hy149
                                      have H' := Aside0.mk H
                                      clear H
                                      have hcz51_0 : wc.cell? ⟨gb144, 0, none⟩ = some (.int .i64 ((rd_T55 l0 x21_2).f0)) := (blk_cell BK144.out 0).trans rfl
                                      have hcz51_1 : wc.cell? ⟨gb144, 1, none⟩ = some (.int .u64 ((rd_T55 l0 x21_2).f1.f0)) := (blk_cell BK144.out 1).trans rfl
                                      have hcz51_2 : wc.cell? ⟨gb144, 2, none⟩ = some (.int .u64 ((rd_T55 l0 x21_2).f1.f1)) := (blk_cell BK144.out 2).trans rfl
                                      have hcz51_3 : wc.cell? ⟨gb144, 3, none⟩ = some (.int .u64 ((rd_T55 l0 x21_2).f1.f2)) := (blk_cell BK144.out 3).trans rfl
                                      have hcz51_4 : wc.cell? ⟨gb144, 4, none⟩ = some (.int .u64 ((rd_T55 l0 x21_2).f1.f3)) := (blk_cell BK144.out 4).trans rfl
                                      have hcz51_5 : wc.cell? ⟨gb144, 5, none⟩ = some (.int .i64 ((rd_T55 l0 x21_2).f2.f0)) := (blk_cell BK144.out 5).trans rfl
                                      have hcz51_6 : wc.cell? ⟨gb144, 6, none⟩ = some (.int .i64 ((rd_T55 l0 x21_2).f2.f1)) := (blk_cell BK144.out 6).trans rfl
                                      have hfz51_0 := blk_frozen BK144.out 0
                                      have hfz51_1 := blk_frozen BK144.out 1
                                      have hfz51_2 := blk_frozen BK144.out 2
                                      have hfz51_3 := blk_frozen BK144.out 3
                                      have hfz51_4 := blk_frozen BK144.out 4
                                      have hfz51_5 := blk_frozen BK144.out 5
                                      have hfz51_6 := blk_frozen BK144.out 6
                                      have p50 : 0 ≤ (((rd_T55 l0 x21_2).f2.f0) : Int) := of_decide_eq_true (by first | (with_reducible assumption) | assumption)
                                      have q50 : (((rd_T55 l0 x21_2).f2.f0) : Int) < ((x3_2.length : Int) : Int) := of_decide_eq_true (by first | (with_reducible assumption) | assumption)
                                      obtain ⟨go50, co50, eo50, gb50, gl50, cl50, HG50⟩ := Kd.R_form HO_3.out (by omega)
                                      (first | cases eo50 | (injection eo50 with ea_ en_ ec_; (first | subst ea_ | (injection ea_ with ea_; subst ea_)); subst ec_; clear en_))
                                      have GB50 := Aside0.mk gb50
                                      have GG50 := Aside0.mk HG50
                                      clear gb50 gl50 HG50
                                      obtain ⟨hx50_0, hf50_0⟩ := Kd.R_celln 0 HO_3.out (((rd_T55 l0 x21_2).f2.f0) : Int) p50 q50
                                      replace p50 := eq_true p50
                                      replace q50 := eq_true q50
                                      have HP52 := Kd.R_putg HO_3.out (((rd_T55 l0 x21_2).f2.f0) : Int) x21_2
                                      go_wp2_with (first | ((with_reducible refine gate_store (t := 3) (p := 52) rfl ?_); refine store_event (t := 3) (p := 52) (v := ?vo_w53) (w1 := (wc.setCell ⟨go50, (((rd_T55 l0 x21_2).f2.f0) : Int).toNat, none⟩ (.int .i64 x21_2))) ?hg ?ho ?hn ?hr ?_; (case ho => rfl); (case hg => rfl); (case hn => rfl); (case hr => first | (go_simp; done) | (go_simp; rfl)); intro w53 hw; have hg : wc.grownBy w53 (some go50) := (by rw [hw]; exact HP52.2); have hp_ : Kd.R (Kd.int .i64) 3 w53 w.heap.size (fun _ => True) (.slice (some ⟨go50, 0, none⟩) x3_2.length co6) y149 := (by rw [hw, Ny149.out]; exact HP52.1); clear HP52; have n0_ := Aside0.mk (hp_); have n1_ := Aside0.mk (blk_grown (g := gb144) (o := .cells #[.int .i64 ((rd_T55 l0 x21_2).f0), .int .u64 ((rd_T55 l0 x21_2).f1.f0), .int .u64 ((rd_T55 l0 x21_2).f1.f1), .int .u64 ((rd_T55 l0 x21_2).f1.f2), .int .u64 ((rd_T55 l0 x21_2).f1.f3), .int .i64 ((rd_T55 l0 x21_2).f2.f0), .int .i64 ((rd_T55 l0 x21_2).f2.f1)] 55 (0, 0)) (by (with_reducible repeat (first | refine blk_drewN ?_ _ | refine blk_drew ?_ | refine blk_alloc ?_ _)); exact BK144.out) hg (Kd.R_ne HO_3.out BK144.out (by decide))); have n2_ := Aside0.mk ((by rw [hw]; exact below_set (HB.out) GB50.out : Below w.heap.size w w53)); clear HO_3; clear BK144; clear HB; have HO_3 := n0_; have BK144 := n1_; have HB := n2_; clear n0_ n1_ n2_; clear hg hw hp_))
                                      (try simp only [← hl3_2])
                                      go_roundg kj15
                                      case measure => have := HK1.out; have := HK2.out; have := HJ15.out; omega
                                      case rel => exact ⟨(y149), (wrap64 (x21_2 + 1)), (by first | rfl | (simp; done) | (simp [*]; done)), H', ⟨by have := HK1.out; have := HK2.out; have := HJ15.out; omega⟩, ⟨by (try simp only [hl3_1]); (try simp only [hl3_2]); (with_reducible repeat (first | apply Kd.R_alloc | apply Kd.R_drewN | apply Kd.R_drew)); exact HO_3.out⟩, ⟨by repeat (first | (with_reducible first | exact HB.out | apply below_alloc | apply pw_below_drewN | apply below_drew1 | refine below_set ?_ GE144.out) | exact HB.out)⟩⟩
                                    · rw [if_neg c49] at H
                                      exact absurd H (by simp)
                                  · rw [if_neg c48] at H
                                    exact absurd H (by simp)
                                · rw [if_neg c47] at H
                                  have c47b0 : (((rd_T55 l0 x21_2).f0) == 6) = false := beq_eq_false_iff_ne.mpr c47
                                  have c47b1 : (((rd_T55 l0 x21_2).f0) != 6) = true := bne_iff_ne.mpr c47
                                  have H' := Aside0.mk H
                                  clear H
                                  go_wp2
                                  (try simp only [← hl3_2])
                                  go_roundg kj15
                                  case measure => have := HK1.out; have := HK2.out; have := HJ15.out; omega
                                  case rel => exact ⟨(x3_2), (wrap64 (x21_2 + 1)), (by first | rfl | (simp; done) | (simp [*]; done)), H', ⟨by have := HK1.out; have := HK2.out; have := HJ15.out; omega⟩, ⟨by (try simp only [hl3_1]); (try simp only [hl3_2]); (with_reducible repeat (first | apply Kd.R_alloc | apply Kd.R_drewN | apply Kd.R_drew)); exact HO_3.out⟩, ⟨by repeat (first | (with_reducible first | exact HB.out | apply below_alloc | apply pw_below_drewN | apply below_drew1 | refine below_set ?_ GE144.out) | exact HB.out)⟩⟩
                    · rw [if_neg c15] at H
                      exact absurd H (by simp)
                  · rw [if_neg c14] at H
                    exact absurd H (by simp)
                · rw [if_neg c13] at H
                  have c13b0 : decide (x21_2 < (l0.length : Int)) = false := decide_eq_false c13
                  clear c13
                  obtain rfl := Option.some.inj H
                  go_wp2
                  go_ret
                  exact ⟨_, by first | rfl | (simp [errW_none, errW_some] <;> rfl) | (simp [*, errW_none, errW_some] <;> rfl), by (with_reducible repeat (first | apply Kd.R_alloc | apply Kd.R_drewN | apply Kd.R_drew)); exact HO_3.out, by repeat (first | (with_reducible first | exact HB.out | apply below_alloc | apply pw_below_drewN | apply below_drew1) | exact HB.out)⟩
    · rw [if_neg c3] at H
      exact absurd H (by simp)
  · rw [if_neg c2] at H
    exact absurd H (by simp)

/-! ### dragomanref01_Digit: function 55 -/
mutual
def dragomanref01_Digit.j0 : Nat → Int → Bool → Option (Int)
  | 0, _, _ => none
  | k + 1, x0, x8 => if x8 = true then (some (wrap64 ((wrap64 (x0)) - 48))) else (if x0 ≥ 97 then (dragomanref01_Digit.j1 k x0 (decide (x0 ≤ 102))) else (dragomanref01_Digit.j1 k x0 false))
def dragomanref01_Digit.j1 : Nat → Int → Bool → Option (Int)
  | 0, _, _ => none
  | k + 1, x0, x17 => if x17 = true then (some (wrap64 ((wrap64 (x0)) - 87))) else (if x0 ≥ 65 then (if x0 ≤ 70 then (some (wrap64 ((wrap64 (x0)) - 55))) else (some (-1))) else (some (-1)))
end
def dragomanref01_Digit.f (k : Nat) (a0 : Int) : Option (Int) := if a0 ≥ 48 then (dragomanref01_Digit.j0 k a0 (decide (a0 ≤ 57))) else (dragomanref01_Digit.j0 k a0 false)
set_option maxHeartbeats 8000000 in
set_option maxRecDepth 100000 in
theorem dragomanref01_Digit.calls (k : Nat) (a0 : Int) (r : Int) (w : World) (h : dragomanref01_Digit.f k a0 = some r) :
    Calls Try.prog 55 #[.int .u8 a0] w fun e w' => e = .returned (.int .i64 r) ∧ Drawn0 w w' := by
  have H : (if a0 ≥ 48 then (dragomanref01_Digit.j0 k a0 (decide (a0 ≤ 57))) else (dragomanref01_Digit.j0 k a0 false)) = some r := h
  clear h
  have HC2 := Aside0.mk H
  clear H
  go_enter Try.func55, Try.ntmps55
  go_upto_region 1 with (fail)
  go_cut [8] (fun v8 wc => ∃ (kq : Nat) (x8_1 : Bool), v8 = .bool x8_1 ∧ Aside0 (dragomanref01_Digit.j0 kq a0 x8_1 = some r) ∧ Aside0 (kq ≤ k) ∧ Drawn0 w wc)
  case first =>
    have H := HC2.out
    clear HC2
    by_cases c3 : a0 ≥ 48
    · rw [if_pos c3] at H
      have c3b0 : decide (48 ≤ a0) = true := decide_eq_true c3
      clear c3
      (first | rw [c3b0] | (simp only [i64_w, i32_w]; rw [c3b0]) | skip)
      have H' := Aside0.mk H
      clear H
      go_wp2
      go_meet
      case rel => exact ⟨_, (decide (a0 ≤ 57)), (by first | rfl | (simp; done) | (simp [*]; done)), H', ⟨by first | omega | exact Nat.le_refl _⟩, by repeat (first | exact Drawn0.refl _ | apply Drawn0.step)⟩
    · rw [if_neg c3] at H
      have c3b0 : decide (48 ≤ a0) = false := decide_eq_false c3
      clear c3
      (first | rw [c3b0] | (simp only [i64_w, i32_w]; rw [c3b0]) | skip)
      have H' := Aside0.mk H
      clear H
      go_wp2
      go_meet
      case rel => exact ⟨_, (false), (by first | rfl | (simp; done) | (simp [*]; done)), H', ⟨by first | omega | exact Nat.le_refl _⟩, by repeat (first | exact Drawn0.refl _ | apply Drawn0.step)⟩
  case rest =>
    clear HC2
    try clear p2
    try clear c3
    try clear c3b0
    obtain ⟨kq, x8_1, rfl, HA, HJ1, ⟨mc1, rfl⟩⟩ := hcut
    cases kq with
    | zero => exact absurd HA.out (by simp [dragomanref01_Digit.j0])
    | succ kj1 =>
      have H := HA.out
      clear HA
      simp only [dragomanref01_Digit.j0] at H
      by_cases c4 : x8_1 = true
      · subst c4
        have H1 : (some (wrap64 ((wrap64 (a0)) - 48))) = some r := by rw [if_pos rfl] at H; exact H
        clear H
        have H := H1
        clear H1
        obtain rfl := Option.some.inj H
        go_wp2
        go_ret
        exact ⟨by first | rfl | (simp; done) | (simp [*]; done), by repeat (first | exact Drawn0.refl _ | apply Drawn0.step)⟩
      · replace c4 := Bool.eq_false_iff.mpr c4
        subst c4
        have H1 : (if a0 ≥ 97 then (dragomanref01_Digit.j1 kj1 a0 (decide (a0 ≤ 102))) else (dragomanref01_Digit.j1 kj1 a0 false)) = some r := by rw [if_neg (show ¬ (false = true) by decide)] at H; exact H
        clear H
        have H := H1
        clear H1
        have HC5 := Aside0.mk H
        clear H
        go_upto_region 3 with (fail)
        go_cut [17] (fun v17 wc => ∃ (kq : Nat) (x17_4 : Bool), v17 = .bool x17_4 ∧ Aside0 (dragomanref01_Digit.j1 kq a0 x17_4 = some r) ∧ Aside0 (kq ≤ kj1) ∧ Drawn0 w wc)
        case first =>
          have H := HC5.out
          clear HC5
          by_cases c6 : a0 ≥ 97
          · rw [if_pos c6] at H
            have c6b0 : decide (97 ≤ a0) = true := decide_eq_true c6
            clear c6
            (first | rw [c6b0] | (simp only [i64_w, i32_w]; rw [c6b0]) | skip)
            have H' := Aside0.mk H
            clear H
            go_wp2
            go_meet
            case rel => exact ⟨_, (decide (a0 ≤ 102)), (by first | rfl | (simp; done) | (simp [*]; done)), H', ⟨by have := HJ1.out; first | omega | exact Nat.le_refl _⟩, by repeat (first | exact Drawn0.refl _ | apply Drawn0.step)⟩
          · rw [if_neg c6] at H
            have c6b0 : decide (97 ≤ a0) = false := decide_eq_false c6
            clear c6
            (first | rw [c6b0] | (simp only [i64_w, i32_w]; rw [c6b0]) | skip)
            have H' := Aside0.mk H
            clear H
            go_wp2
            go_meet
            case rel => exact ⟨_, (false), (by first | rfl | (simp; done) | (simp [*]; done)), H', ⟨by have := HJ1.out; first | omega | exact Nat.le_refl _⟩, by repeat (first | exact Drawn0.refl _ | apply Drawn0.step)⟩
        case rest =>
          clear HC5
          try clear c1
          try clear p2
          try clear c3
          try clear c3b0
          try clear c4
          try clear c5
          try clear c6
          try clear c6b0
          try clear p6
          try clear p2
          obtain ⟨kq, x17_4, rfl, HA, HJ4, ⟨mc4, rfl⟩⟩ := hcut
          cases kq with
          | zero => exact absurd HA.out (by simp [dragomanref01_Digit.j1])
          | succ kj4 =>
            have H := HA.out
            clear HA
            simp only [dragomanref01_Digit.j1] at H
            by_cases c7 : x17_4 = true
            · subst c7
              have H1 : (some (wrap64 ((wrap64 (a0)) - 87))) = some r := by rw [if_pos rfl] at H; exact H
              clear H
              have H := H1
              clear H1
              obtain rfl := Option.some.inj H
              go_wp2
              go_ret
              exact ⟨by first | rfl | (simp; done) | (simp [*]; done), by repeat (first | exact Drawn0.refl _ | apply Drawn0.step)⟩
            · replace c7 := Bool.eq_false_iff.mpr c7
              subst c7
              have H1 : (if a0 ≥ 65 then (if a0 ≤ 70 then (some (wrap64 ((wrap64 (a0)) - 55))) else (some (-1))) else (some (-1))) = some r := by rw [if_neg (show ¬ (false = true) by decide)] at H; exact H
              clear H
              have H := H1
              clear H1
              by_cases c8 : a0 ≥ 65
              · rw [if_pos c8] at H
                have c8b0 : decide (65 ≤ a0) = true := decide_eq_true c8
                clear c8
                by_cases c9 : a0 ≤ 70
                · rw [if_pos c9] at H
                  have c9b0 : decide (a0 ≤ 70) = true := decide_eq_true c9
                  clear c9
                  obtain rfl := Option.some.inj H
                  go_wp2
                  go_ret
                  exact ⟨by first | rfl | (simp; done) | (simp [*]; done), by repeat (first | exact Drawn0.refl _ | apply Drawn0.step)⟩
                · rw [if_neg c9] at H
                  have c9b0 : decide (a0 ≤ 70) = false := decide_eq_false c9
                  clear c9
                  obtain rfl := Option.some.inj H
                  go_wp2
                  go_ret
                  exact ⟨by first | rfl | (simp; done) | (simp [*]; done), by repeat (first | exact Drawn0.refl _ | apply Drawn0.step)⟩
              · rw [if_neg c8] at H
                have c8b0 : decide (65 ≤ a0) = false := decide_eq_false c8
                clear c8
                obtain rfl := Option.some.inj H
                go_wp2
                go_ret
                exact ⟨by first | rfl | (simp; done) | (simp [*]; done), by repeat (first | exact Drawn0.refl _ | apply Drawn0.step)⟩

end Go.Proofs.Ythnfmpieoondaaa.QA
