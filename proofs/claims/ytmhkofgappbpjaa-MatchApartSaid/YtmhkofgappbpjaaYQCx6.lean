/- The Go functions of this part as Lean functions, each with a proof that a call of it comes to just what the Lean function does. Written by a program of the session's. Conditions: none but those in each theorem. -/
import Derived.Test.YtmhkofgappbpjaaYQCx0
import Derived.Test.YtmhkofgappbpjaaYQCx2
namespace Go.Proofs.Ytmhkofgappbpjaa.QC
open Go.Proofs.Ytmhkofgappbpjaa.G Go.Proofs.Ytmhkofgappbpjaa.QA Go.Proofs.Ytmhkofgappbpjaa.QB
open Go.RowKit Go.Proofs.YtmhkofgappbpjaaW.PrintWords Go.Proofs.YtmhkofgappbpjaaW.PrintLast Go.Proofs.YtmhkofgappbpjaaW.PrintMore
attribute [local go_sem] max2_int min2_int max_two min_two max_three min_three max_four min_four   -- for this text's walks alone
attribute [local go_sem ↓] ix40_0 ix40_1 ia40_0 ia40_1
set_option linter.unusedVariables false
set_option linter.unusedSimpArgs false

/-! ### dragomanlaw06_MatchApart: function 8 -/
mutual
def dragomanlaw06_MatchApart.l0 : Nat → List (S42) → ByteArray → Bool → List (S40) → Int → Int → Option (Bool)
  | 0, _, _, _, _, _, _ => none
  | k + 1, x0, x1, x5, x7, x8, x9 => if x9 < (x7.length : Int) then (if 0 ≤ x9 then (if ((rd_T40 x7 x9).f0) < x8 then (dragomanlaw06_MatchApart.j1 k x0 x1 x5 x7 x9 ((rd_T40 x7 x9).f0) ((rd_T40 x7 x9).f1) true) else (if ((rd_T40 x7 x9).f1) < ((rd_T40 x7 x9).f0) then (dragomanlaw06_MatchApart.j1 k x0 x1 x5 x7 x9 ((rd_T40 x7 x9).f0) ((rd_T40 x7 x9).f1) true) else (if ((rd_T40 x7 x9).f1) > (x1.size : Int) then (dragomanlaw06_MatchApart.j1 k x0 x1 x5 x7 x9 ((rd_T40 x7 x9).f0) ((rd_T40 x7 x9).f1) true) else (if x9 > 0 then (if ((rd_T40 x7 x9).f0) = ((rd_T40 x7 x9).f1) then (dragomanlaw06_MatchApart.j1 k x0 x1 x5 x7 x9 ((rd_T40 x7 x9).f0) ((rd_T40 x7 x9).f1) (((rd_T40 x7 x9).f0) == x8)) else (dragomanlaw06_MatchApart.j1 k x0 x1 x5 x7 x9 ((rd_T40 x7 x9).f0) ((rd_T40 x7 x9).f1) false)) else (dragomanlaw06_MatchApart.j1 k x0 x1 x5 x7 x9 ((rd_T40 x7 x9).f0) ((rd_T40 x7 x9).f1) false))))) else (none)) else (if x5 = true then ((match_Is.f k x0 x1).bind fun t291 => (some ((decide ((x7.length : Int) > 0)) == t291))) else (some false))
def dragomanlaw06_MatchApart.j1 : Nat → List (S42) → ByteArray → Bool → List (S40) → Int → Int → Int → Bool → Option (Bool)
  | 0, _, _, _, _, _, _, _, _ => none
  | k + 1, x0, x1, x5, x7, x9, x10, x11, x66 => if x66 = true then (some false) else ((match_Ends.f k x0 x1 x10).bind fun t294 => (if (t294.length : Int) = 0 then (some false) else (if 0 ≤ (wrap64 ((t294.length : Int) - 1)) then (if (wrap64 ((t294.length : Int) - 1)) < (t294.length : Int) then (if (rd t294 (wrap64 ((t294.length : Int) - 1))) = x11 then (dragomanlaw06_MatchApart.l0 k x0 x1 x5 x7 x11 (wrap64 (x9 + 1))) else (some false)) else (none)) else (none))))
end
def dragomanlaw06_MatchApart.f (k : Nat) (l0 : List (S42)) (a1 : ByteArray) : Option (Bool) := (dragomanlaw06_shown.f k).bind fun t286 => ((dragomanlaw06_few.f k l0 a1).bind fun t287 => (if t287 = true then ((match_Spans.f k l0 a1).bind fun t288 => (dragomanlaw06_MatchApart.l0 k l0 a1 t286 t288 0 0)) else (some t286)))
set_option maxHeartbeats 8000000 in
set_option maxRecDepth 100000 in
theorem dragomanlaw06_MatchApart.calls (k : Nat) (A0 : Option Addr) (c0 : Nat) (l0 : List (S42)) (a1 : ByteArray) (r : Bool) (w : World) (hr0 : Kd.C k42 w A0 l0.length l0) (hc0 : l0.length ≤ c0) (h : dragomanlaw06_MatchApart.f k l0 a1 = some r) :
    Calls Try.prog 8 #[.slice A0 l0.length c0, .string a1] w fun e w' => e = .returned (.bool r) ∧ Below w.heap.size w w' := by
  have HR0 := Aside0.mk hr0
  have HC0 := Aside0.mk hc0
  clear hr0 hc0
  have HB := Aside0.mk (Below.refl w.heap.size w)
  have H : ((dragomanlaw06_shown.f k).bind fun t286 => ((dragomanlaw06_few.f k l0 a1).bind fun t287 => (if t287 = true then ((match_Spans.f k l0 a1).bind fun t288 => (dragomanlaw06_MatchApart.l0 k l0 a1 t286 t288 0 0)) else (some t286)))) = some r := h
  clear h
  replace H := Option.bind_eq_some_iff.mp H
  obtain ⟨t286, A30, H⟩ := H
  replace H : ((dragomanlaw06_few.f k l0 a1).bind fun t287 => (if t287 = true then ((match_Spans.f k l0 a1).bind fun t288 => (dragomanlaw06_MatchApart.l0 k l0 a1 t286 t288 0 0)) else (some t286))) = some r := H
  have A3 := Aside0.mk A30
  clear A30
  replace H := Option.bind_eq_some_iff.mp H
  obtain ⟨t287, A40, H⟩ := H
  replace H : (if t287 = true then ((match_Spans.f k l0 a1).bind fun t288 => (dragomanlaw06_MatchApart.l0 k l0 a1 t286 t288 0 0)) else (some t286)) = some r := H
  have A4 := Aside0.mk A40
  clear A40
  by_cases c5 : t287 = true
  · subst c5
    have H1 : ((match_Spans.f k l0 a1).bind fun t288 => (dragomanlaw06_MatchApart.l0 k l0 a1 t286 t288 0 0)) = some r := by rw [if_pos rfl] at H; exact H
    clear H
    have H := H1
    clear H1
    replace H := Option.bind_eq_some_iff.mp H
    obtain ⟨t288, A60, H⟩ := H
    replace H : (dragomanlaw06_MatchApart.l0 k l0 a1 t286 t288 0 0) = some r := H
    have A6 := Aside0.mk A60
    clear A60
    have H' := Aside0.mk H
    clear H
    go_enter Try.func8, Try.ntmps8
    go_wp2_with (first | ((with_reducible refine gate_callee (f := 9) rfl ?_); refine goesL_ (some 13) rfl rfl Try.func9 (by kernel_rfl) rfl #[] rfl (by (try simp only [List.map_toArray, List.map_cons, List.map_nil]); first | done | rfl | (simp only [List.length_drop, List.length_take]; rfl)) ?_; (with_reducible refine (dragomanlaw06_shown.calls k  t286 _ A3.out).mono ?_); rintro e w7 ⟨rfl, hb⟩; refine ⟨_, rfl, ?_⟩; have n0_ := Aside0.mk (below_step (by repeat (first | (with_reducible first | exact HB.out | apply below_alloc | apply pw_below_drewN | apply below_drew1) | exact HB.out)) hb); clear HB; have HB := n0_; clear n0_; (try clear hb); (try clear hb2); (try clear hk); (try clear hi)) | ((with_reducible refine gate_callee (f := 10) rfl ?_); refine goesL_ (some 16) rfl rfl Try.func10 (by kernel_rfl) rfl #[.slice A0 l0.length c0, .string a1] rfl (by (try simp only [List.map_toArray, List.map_cons, List.map_nil]); first | done | rfl | (simp only [List.length_drop, List.length_take]; rfl)) ?_; (with_reducible refine (dragomanlaw06_few.calls k _ _ l0 a1 true _ ?side1 ?side2 A4.out).mono ?_); (case side1 => repeat (first | exact (Kd.C_below HR0.out HB.out) | (with_reducible refine Kd.C_alloc ?_ _) | (with_reducible refine Kd.C_drewN ?_ _) | (with_reducible refine Kd.C_drew ?_))); (case side2 => exact HC0.out); rintro e w8 ⟨rfl, hb⟩; refine ⟨_, rfl, ?_⟩; have n0_ := Aside0.mk (below_step (by repeat (first | (with_reducible first | exact HB.out | apply below_alloc | apply pw_below_drewN | apply below_drew1) | exact HB.out)) hb); clear HB; have HB := n0_; clear n0_; (try clear hb); (try clear hb2); (try clear hk); (try clear hi)) | ((with_reducible refine gate_callee (f := 12) rfl ?_); refine goesL_ (some 22) rfl rfl Try.func12 (by kernel_rfl) rfl #[.slice A0 l0.length c0, .string a1] rfl (by (try simp only [List.map_toArray, List.map_cons, List.map_nil]); first | done | rfl | (simp only [List.length_drop, List.length_take]; rfl)) ?_; (with_reducible refine (match_Spans.calls k _ _ l0 a1 t288 _ ?side1 ?side2 A6.out).mono ?_); (case side1 => repeat (first | exact (Kd.C_below HR0.out HB.out) | (with_reducible refine Kd.C_alloc ?_ _) | (with_reducible refine Kd.C_drewN ?_ _) | (with_reducible refine Kd.C_drew ?_))); (case side2 => exact HC0.out); rintro e w9 ⟨v289, rfl, ho0, hb⟩; refine ⟨_, rfl, ?_⟩; have n0_ := Aside0.mk (Kd.R_lower ho0 (below_size (by repeat (first | (with_reducible first | exact HB.out | apply below_alloc | apply pw_below_drewN | apply below_drew1) | exact HB.out)))); have n1_ := Aside0.mk (below_step (by repeat (first | (with_reducible first | exact HB.out | apply below_alloc | apply pw_below_drewN | apply below_drew1) | exact HB.out)) hb); clear HB; have HO290 := n0_; have HB := n1_; clear n0_ n1_; (try clear hb); (try clear hb2); (try clear hk); (try clear hi); (try clear ho0)))
    go_loopg [8, 9] k (fun kq v8 v9 w' => ∃ (x8_1 : Int) (x9_1 : Int), v8 = .int .i64 x8_1 ∧ v9 = .int .i64 x9_1 ∧ Aside0 (dragomanlaw06_MatchApart.l0 kq l0 a1 t286 t288 x8_1 x9_1 = some r) ∧ Aside0 (kq ≤ k) ∧ Aside0 (Kd.R k40 40 w' w.heap.size (fun _ => True) v289 t288) ∧ Aside0 (Below w.heap.size w w'))
    case atStart => exact ⟨(0), (0), (by first | rfl | (simp; done) | (simp [*]; done)), (by first | rfl | (simp; done) | (simp [*]; done)), H', ⟨Nat.le_refl _⟩, ⟨by (with_reducible repeat (first | apply Kd.R_alloc | apply Kd.R_drewN | apply Kd.R_drew)); exact HO290.out⟩, ⟨by repeat (first | (with_reducible first | exact HB.out | apply below_alloc | apply pw_below_drewN | apply below_drew1) | exact HB.out)⟩⟩
    case round =>
      clear H'
      try clear c1
      try clear p2
      try clear c5
      try clear c8
      try clear c9
      obtain ⟨x8_1, x9_1, rfl, rfl, HA, HK1, HO_7, HB⟩ := hrel
      cases gk with
      | zero => exact absurd HA.out (by simp [dragomanlaw06_MatchApart.l0])
      | succ k1 =>
        have H := HA.out
        clear HA
        simp only [dragomanlaw06_MatchApart.l0] at H
        by_cases c10 : x9_1 < (t288.length : Int)
        · rw [if_pos c10] at H
          have c10b0 : decide (x9_1 < (t288.length : Int)) = true := decide_eq_true c10
          clear c10
          by_cases c11 : 0 ≤ x9_1
          · rw [if_pos c11] at H
            have c11b0 : decide (0 ≤ x9_1) = true := decide_eq_true c11
            clear c11
            have HC12 := Aside0.mk H
            clear H
            obtain ⟨Ao13, co13, eo13⟩ := Kd.R_slice HO_7.out
            subst eo13
            have p292 : 0 ≤ (x9_1 : Int) := of_decide_eq_true (by first | (with_reducible assumption) | assumption)
            have q292 : x9_1 < (t288.length : Int) := of_decide_eq_true (by first | (with_reducible assumption) | assumption)
            obtain ⟨ad292, e292, hx292_0, hx292_1⟩ := at_T40 (Kd.R_reads' HO_7.out).2.2 x9_1 p292 q292
            cases e292
            replace p292 := eq_true p292
            replace q292 := eq_true q292
            have p293 : 0 ≤ (x9_1 : Int) := of_decide_eq_true (by first | (with_reducible assumption) | assumption)
            have q293 : x9_1 < (t288.length : Int) := of_decide_eq_true (by first | (with_reducible assumption) | assumption)
            obtain ⟨ad293, e293, hx293_0, hx293_1⟩ := at_T40 (Kd.R_reads' HO_7.out).2.2 x9_1 p293 q293
            obtain rfl : ad292 = ad293 := (by injection e293)
            replace p293 := eq_true p293
            replace q293 := eq_true q293
            go_upto_region 12 with (fail)
            go_cut [66] (fun v66 wc => ∃ (kq : Nat) (x66_11 : Bool), v66 = .bool x66_11 ∧ Aside0 (dragomanlaw06_MatchApart.j1 kq l0 a1 t286 t288 x9_1 ((rd_T40 t288 x9_1).f0) ((rd_T40 t288 x9_1).f1) x66_11 = some r) ∧ Aside0 (kq ≤ k1) ∧ Aside0 (Kd.R k40 40 wc w.heap.size (fun _ => True) (.slice (some ad292) t288.length co13) t288) ∧ Aside0 (Below w.heap.size w wc))
            case first =>
              have H := HC12.out
              clear HC12
              by_cases c14 : ((rd_T40 t288 x9_1).f0) < x8_1
              · rw [if_pos c14] at H
                have c14b0 : decide (((rd_T40 t288 x9_1).f0) < x8_1) = true := decide_eq_true c14
                clear c14
                (first | rw [c14b0] | (simp only [i64_w, i32_w]; rw [c14b0]) | skip)
                have H' := Aside0.mk H
                clear H
                go_wp2
                go_meet
                case rel => exact ⟨_, (true), (by first | rfl | (simp; done) | (simp [*]; done)), H', ⟨by have := HK1.out; first | omega | exact Nat.le_refl _⟩, ⟨by (with_reducible repeat (first | apply Kd.R_alloc | apply Kd.R_drewN | apply Kd.R_drew)); exact HO_7.out⟩, ⟨by repeat (first | (with_reducible first | exact HB.out | apply below_alloc | apply pw_below_drewN | apply below_drew1) | exact HB.out)⟩⟩
              · rw [if_neg c14] at H
                have c14b0 : decide (((rd_T40 t288 x9_1).f0) < x8_1) = false := decide_eq_false c14
                clear c14
                (first | rw [c14b0] | (simp only [i64_w, i32_w]; rw [c14b0]) | skip)
                by_cases c15 : ((rd_T40 t288 x9_1).f1) < ((rd_T40 t288 x9_1).f0)
                · rw [if_pos c15] at H
                  have c15b0 : decide (((rd_T40 t288 x9_1).f1) < ((rd_T40 t288 x9_1).f0)) = true := decide_eq_true c15
                  clear c15
                  have H' := Aside0.mk H
                  clear H
                  go_wp2
                  go_meet
                  case rel => exact ⟨_, (true), (by first | rfl | (simp; done) | (simp [*]; done)), H', ⟨by have := HK1.out; first | omega | exact Nat.le_refl _⟩, ⟨by (with_reducible repeat (first | apply Kd.R_alloc | apply Kd.R_drewN | apply Kd.R_drew)); exact HO_7.out⟩, ⟨by repeat (first | (with_reducible first | exact HB.out | apply below_alloc | apply pw_below_drewN | apply below_drew1) | exact HB.out)⟩⟩
                · rw [if_neg c15] at H
                  have c15b0 : decide (((rd_T40 t288 x9_1).f1) < ((rd_T40 t288 x9_1).f0)) = false := decide_eq_false c15
                  clear c15
                  by_cases c16 : ((rd_T40 t288 x9_1).f1) > (a1.size : Int)
                  · rw [if_pos c16] at H
                    have c16b0 : decide ((a1.size : Int) < ((rd_T40 t288 x9_1).f1)) = true := decide_eq_true c16
                    clear c16
                    have H' := Aside0.mk H
                    clear H
                    go_wp2
                    go_meet
                    case rel => exact ⟨_, (true), (by first | rfl | (simp; done) | (simp [*]; done)), H', ⟨by have := HK1.out; first | omega | exact Nat.le_refl _⟩, ⟨by (with_reducible repeat (first | apply Kd.R_alloc | apply Kd.R_drewN | apply Kd.R_drew)); exact HO_7.out⟩, ⟨by repeat (first | (with_reducible first | exact HB.out | apply below_alloc | apply pw_below_drewN | apply below_drew1) | exact HB.out)⟩⟩
                  · rw [if_neg c16] at H
                    have c16b0 : decide ((a1.size : Int) < ((rd_T40 t288 x9_1).f1)) = false := decide_eq_false c16
                    clear c16
                    by_cases c17 : x9_1 > 0
                    · rw [if_pos c17] at H
                      have c17b0 : decide (0 < x9_1) = true := decide_eq_true c17
                      clear c17
                      by_cases c18 : ((rd_T40 t288 x9_1).f0) = ((rd_T40 t288 x9_1).f1)
                      · rw [if_pos c18] at H
                        have c18b0 : (((rd_T40 t288 x9_1).f0) == ((rd_T40 t288 x9_1).f1)) = true := beq_iff_eq.mpr c18
                        have c18b1 : (((rd_T40 t288 x9_1).f0) != ((rd_T40 t288 x9_1).f1)) = false := bne_eq_false_iff_eq.mpr c18
                        clear c18
                        have H' := Aside0.mk H
                        clear H
                        go_wp2
                        go_meet
                        case rel => exact ⟨_, ((((rd_T40 t288 x9_1).f0) == x8_1)), (by first | rfl | (simp; done) | (simp [*]; done)), H', ⟨by have := HK1.out; first | omega | exact Nat.le_refl _⟩, ⟨by (with_reducible repeat (first | apply Kd.R_alloc | apply Kd.R_drewN | apply Kd.R_drew)); exact HO_7.out⟩, ⟨by repeat (first | (with_reducible first | exact HB.out | apply below_alloc | apply pw_below_drewN | apply below_drew1) | exact HB.out)⟩⟩
                      · rw [if_neg c18] at H
                        have c18b0 : (((rd_T40 t288 x9_1).f0) == ((rd_T40 t288 x9_1).f1)) = false := beq_eq_false_iff_ne.mpr c18
                        have c18b1 : (((rd_T40 t288 x9_1).f0) != ((rd_T40 t288 x9_1).f1)) = true := bne_iff_ne.mpr c18
                        have H' := Aside0.mk H
                        clear H
                        go_wp2
                        go_meet
                        case rel => exact ⟨_, (false), (by first | rfl | (simp; done) | (simp [*]; done)), H', ⟨by have := HK1.out; first | omega | exact Nat.le_refl _⟩, ⟨by (with_reducible repeat (first | apply Kd.R_alloc | apply Kd.R_drewN | apply Kd.R_drew)); exact HO_7.out⟩, ⟨by repeat (first | (with_reducible first | exact HB.out | apply below_alloc | apply pw_below_drewN | apply below_drew1) | exact HB.out)⟩⟩
                    · rw [if_neg c17] at H
                      have c17b0 : decide (0 < x9_1) = false := decide_eq_false c17
                      clear c17
                      have H' := Aside0.mk H
                      clear H
                      go_wp2
                      go_meet
                      case rel => exact ⟨_, (false), (by first | rfl | (simp; done) | (simp [*]; done)), H', ⟨by have := HK1.out; first | omega | exact Nat.le_refl _⟩, ⟨by (with_reducible repeat (first | apply Kd.R_alloc | apply Kd.R_drewN | apply Kd.R_drew)); exact HO_7.out⟩, ⟨by repeat (first | (with_reducible first | exact HB.out | apply below_alloc | apply pw_below_drewN | apply below_drew1) | exact HB.out)⟩⟩
            case rest =>
              clear HC12
              try clear c1
              try clear p2
              try clear q2
              try clear hx2
              try clear c5
              try clear c8
              try clear c9
              try clear c10
              try clear c10b0
              try clear c11
              try clear c11b0
              try clear c12
              try clear c14
              try clear c14b0
              try clear c15
              try clear c15b0
              try clear c16
              try clear c16b0
              try clear c17
              try clear c17b0
              try clear c18
              try clear c18b0
              try clear c18b1
              try clear hx292_0
              try clear hx292_1
              try clear hx293_0
              try clear hx293_1
              try clear p2
              try clear p292
              try clear p293
              try clear q292
              try clear q293
              obtain ⟨kq, x66_11, rfl, HA, HJ11, HO_7, HB⟩ := hcut
              cases kq with
              | zero => exact absurd HA.out (by simp [dragomanlaw06_MatchApart.j1])
              | succ kj11 =>
                have H := HA.out
                clear HA
                simp only [dragomanlaw06_MatchApart.j1] at H
                by_cases c19 : x66_11 = true
                · subst c19
                  have H1 : (some false) = some r := by rw [if_pos rfl] at H; exact H
                  clear H
                  have H := H1
                  clear H1
                  obtain rfl := Option.some.inj H
                  go_wp2
                  go_ret
                  exact ⟨by first | rfl | (simp [errW_none, errW_some] <;> rfl) | (simp [*, errW_none, errW_some] <;> rfl), by repeat (first | (with_reducible first | exact HB.out | apply below_alloc | apply pw_below_drewN | apply below_drew1) | exact HB.out)⟩
                · replace c19 := Bool.eq_false_iff.mpr c19
                  subst c19
                  have H1 : ((match_Ends.f kj11 l0 a1 ((rd_T40 t288 x9_1).f0)).bind fun t294 => (if (t294.length : Int) = 0 then (some false) else (if 0 ≤ (wrap64 ((t294.length : Int) - 1)) then (if (wrap64 ((t294.length : Int) - 1)) < (t294.length : Int) then (if (rd t294 (wrap64 ((t294.length : Int) - 1))) = ((rd_T40 t288 x9_1).f1) then (dragomanlaw06_MatchApart.l0 kj11 l0 a1 t286 t288 ((rd_T40 t288 x9_1).f1) (wrap64 (x9_1 + 1))) else (some false)) else (none)) else (none)))) = some r := by rw [if_neg (show ¬ (false = true) by decide)] at H; exact H
                  clear H
                  have H := H1
                  clear H1
                  replace H := Option.bind_eq_some_iff.mp H
                  obtain ⟨t294, A200, H⟩ := H
                  replace H : (if (t294.length : Int) = 0 then (some false) else (if 0 ≤ (wrap64 ((t294.length : Int) - 1)) then (if (wrap64 ((t294.length : Int) - 1)) < (t294.length : Int) then (if (rd t294 (wrap64 ((t294.length : Int) - 1))) = ((rd_T40 t288 x9_1).f1) then (dragomanlaw06_MatchApart.l0 kj11 l0 a1 t286 t288 ((rd_T40 t288 x9_1).f1) (wrap64 (x9_1 + 1))) else (some false)) else (none)) else (none))) = some r := H
                  have A20 := Aside0.mk A200
                  clear A200
                  by_cases c21 : (t294.length : Int) = 0
                  · rw [if_pos c21] at H
                    have c21b0 : ((t294.length : Int) == 0) = true := beq_iff_eq.mpr c21
                    have c21b1 : ((t294.length : Int) != 0) = false := bne_eq_false_iff_eq.mpr c21
                    clear c21
                    obtain rfl := Option.some.inj H
                    go_wp2_with (first | ((with_reducible refine gate_callee (f := 15) rfl ?_); refine goesL_ (some 70) rfl rfl Try.func15 (by kernel_rfl) rfl #[.slice A0 l0.length c0, .string a1, .int .i64 ((rd_T40 t288 x9_1).f0)] rfl (by (try simp only [List.map_toArray, List.map_cons, List.map_nil]); first | done | rfl | (simp only [List.length_drop, List.length_take]; rfl)) ?_; (with_reducible refine (match_Ends.calls kj11 _ _ l0 a1 ((rd_T40 t288 x9_1).f0) t294 _ ?side1 ?side2 A20.out).mono ?_); (case side1 => repeat (first | exact (Kd.C_below HR0.out HB.out) | (with_reducible refine Kd.C_alloc ?_ _) | (with_reducible refine Kd.C_drewN ?_ _) | (with_reducible refine Kd.C_drew ?_))); (case side2 => exact HC0.out); rintro e w22 ⟨v295, rfl, ho0, hb⟩; refine ⟨_, rfl, ?_⟩; have n0_ := Aside0.mk (Kd.R_below (by (with_reducible repeat (first | apply Kd.R_alloc | apply Kd.R_drewN | apply Kd.R_drew)); exact HO_7.out) hb); have n1_ := Aside0.mk (Kd.R_lower ho0 (below_size (by repeat (first | (with_reducible first | exact HB.out | apply below_alloc | apply pw_below_drewN | apply below_drew1) | exact HB.out)))); have n2_ := Aside0.mk (below_step (by repeat (first | (with_reducible first | exact HB.out | apply below_alloc | apply pw_below_drewN | apply below_drew1) | exact HB.out)) hb); clear HO_7; clear HB; have HO_7 := n0_; have HO296 := n1_; have HB := n2_; clear n0_ n1_ n2_; (try clear hb); (try clear hb2); (try clear hk); (try clear hi); (try clear ho0); obtain ⟨Ao23, co23, eo23⟩ := Kd.R_slice HO296.out; subst eo23))
                    go_ret
                    exact ⟨by first | rfl | (simp [errW_none, errW_some] <;> rfl) | (simp [*, errW_none, errW_some] <;> rfl), by repeat (first | (with_reducible first | exact HB.out | apply below_alloc | apply pw_below_drewN | apply below_drew1) | exact HB.out)⟩
                  · rw [if_neg c21] at H
                    have c21b0 : ((t294.length : Int) == 0) = false := beq_eq_false_iff_ne.mpr c21
                    have c21b1 : ((t294.length : Int) != 0) = true := bne_iff_ne.mpr c21
                    have c21b2 : ¬ (t294 = []) := fun h_ => c21 (by rw [h_]; rfl)
                    obtain ⟨ji24, hji24⟩ : ∃ j_ : Int, (wrap64 ((t294.length : Int) - 1)) = j_ := ⟨_, rfl⟩
                    replace H : (if 0 ≤ (ji24) then (if (ji24) < (t294.length : Int) then (if (rd t294 (ji24)) = ((rd_T40 t288 x9_1).f1) then (dragomanlaw06_MatchApart.l0 kj11 l0 a1 t286 t288 ((rd_T40 t288 x9_1).f1) (wrap64 (x9_1 + 1))) else (some false)) else (none)) else (none)) = some r := by first | (rw [hji24] at H; exact H) | (simp only [hji24] at H ⊢; exact H)
                    (try rw [hji24] at A20)
                    have hji24w : (IntKind.i64.wrap ((t294.length : Int) - 1)) = ji24 := (i64_w _).trans hji24
                    by_cases c25 : 0 ≤ (ji24)
                    · rw [if_pos c25] at H
                      have c25b0 : decide (0 ≤ (ji24)) = true := decide_eq_true c25
                      clear c25
                      by_cases c26 : (ji24) < (t294.length : Int)
                      · rw [if_pos c26] at H
                        have c26b0 : decide ((ji24) < (t294.length : Int)) = true := decide_eq_true c26
                        clear c26
                        by_cases c27 : (rd t294 (ji24)) = ((rd_T40 t288 x9_1).f1)
                        · rw [if_pos c27] at H
                          have c27b0 : ((rd t294 (ji24)) == ((rd_T40 t288 x9_1).f1)) = true := beq_iff_eq.mpr c27
                          have c27b1 : ((rd t294 (ji24)) != ((rd_T40 t288 x9_1).f1)) = false := bne_eq_false_iff_eq.mpr c27
                          clear c27
                          have H' := Aside0.mk H
                          clear H
                          go_wp2_with (first | ((with_reducible refine gate_callee (f := 15) rfl ?_); refine goesL_ (some 70) rfl rfl Try.func15 (by kernel_rfl) rfl #[.slice A0 l0.length c0, .string a1, .int .i64 ((rd_T40 t288 x9_1).f0)] rfl (by (try simp only [List.map_toArray, List.map_cons, List.map_nil]); first | done | rfl | (simp only [List.length_drop, List.length_take]; rfl)) ?_; (with_reducible refine (match_Ends.calls kj11 _ _ l0 a1 ((rd_T40 t288 x9_1).f0) t294 _ ?side1 ?side2 A20.out).mono ?_); (case side1 => repeat (first | exact (Kd.C_below HR0.out HB.out) | (with_reducible refine Kd.C_alloc ?_ _) | (with_reducible refine Kd.C_drewN ?_ _) | (with_reducible refine Kd.C_drew ?_))); (case side2 => exact HC0.out); rintro e w28 ⟨v295, rfl, ho0, hb⟩; refine ⟨_, rfl, ?_⟩; have n0_ := Aside0.mk (Kd.R_below (by (with_reducible repeat (first | apply Kd.R_alloc | apply Kd.R_drewN | apply Kd.R_drew)); exact HO_7.out) hb); have n1_ := Aside0.mk (Kd.R_lower ho0 (below_size (by repeat (first | (with_reducible first | exact HB.out | apply below_alloc | apply pw_below_drewN | apply below_drew1) | exact HB.out)))); have n2_ := Aside0.mk (below_step (by repeat (first | (with_reducible first | exact HB.out | apply below_alloc | apply pw_below_drewN | apply below_drew1) | exact HB.out)) hb); clear HO_7; clear HB; have HO_7 := n0_; have HO296 := n1_; have HB := n2_; clear n0_ n1_ n2_; (try clear hb); (try clear hb2); (try clear hk); (try clear hi); (try clear ho0); obtain ⟨Ao29, co29, eo29⟩ := Kd.R_slice HO296.out; subst eo29; have p297 : 0 ≤ ((ji24) : Int) := of_decide_eq_true (by first | (with_reducible assumption) | assumption); have q297 : (ji24) < (t294.length : Int) := of_decide_eq_true (by first | (with_reducible assumption) | assumption); obtain ⟨ad297, e297, hx297_0⟩ := Kd.at_int (Kd.R_reads' HO296.out).2.2 (ji24) p297 q297; cases e297; (try simp only [Int.toNat_natCast] at hx297_0); replace p297 := eq_true p297; replace q297 := eq_true q297))
                          go_roundg kj11
                          case measure => have := HK1.out; have := HJ11.out; omega
                          case rel => exact ⟨(((rd_T40 t288 x9_1).f1)), (wrap64 (x9_1 + 1)), (by first | rfl | (simp; done) | (simp [*]; done)), (by first | rfl | (simp; done) | (simp [*]; done)), H', ⟨by have := HK1.out; have := HJ11.out; omega⟩, ⟨by (with_reducible repeat (first | apply Kd.R_alloc | apply Kd.R_drewN | apply Kd.R_drew)); exact HO_7.out⟩, ⟨by repeat (first | (with_reducible first | exact HB.out | apply below_alloc | apply pw_below_drewN | apply below_drew1) | exact HB.out)⟩⟩
                        · rw [if_neg c27] at H
                          have c27b0 : ((rd t294 (ji24)) == ((rd_T40 t288 x9_1).f1)) = false := beq_eq_false_iff_ne.mpr c27
                          have c27b1 : ((rd t294 (ji24)) != ((rd_T40 t288 x9_1).f1)) = true := bne_iff_ne.mpr c27
                          obtain rfl := Option.some.inj H
                          go_wp2_with (first | ((with_reducible refine gate_callee (f := 15) rfl ?_); refine goesL_ (some 70) rfl rfl Try.func15 (by kernel_rfl) rfl #[.slice A0 l0.length c0, .string a1, .int .i64 ((rd_T40 t288 x9_1).f0)] rfl (by (try simp only [List.map_toArray, List.map_cons, List.map_nil]); first | done | rfl | (simp only [List.length_drop, List.length_take]; rfl)) ?_; (with_reducible refine (match_Ends.calls kj11 _ _ l0 a1 ((rd_T40 t288 x9_1).f0) t294 _ ?side1 ?side2 A20.out).mono ?_); (case side1 => repeat (first | exact (Kd.C_below HR0.out HB.out) | (with_reducible refine Kd.C_alloc ?_ _) | (with_reducible refine Kd.C_drewN ?_ _) | (with_reducible refine Kd.C_drew ?_))); (case side2 => exact HC0.out); rintro e w30 ⟨v295, rfl, ho0, hb⟩; refine ⟨_, rfl, ?_⟩; have n0_ := Aside0.mk (Kd.R_below (by (with_reducible repeat (first | apply Kd.R_alloc | apply Kd.R_drewN | apply Kd.R_drew)); exact HO_7.out) hb); have n1_ := Aside0.mk (Kd.R_lower ho0 (below_size (by repeat (first | (with_reducible first | exact HB.out | apply below_alloc | apply pw_below_drewN | apply below_drew1) | exact HB.out)))); have n2_ := Aside0.mk (below_step (by repeat (first | (with_reducible first | exact HB.out | apply below_alloc | apply pw_below_drewN | apply below_drew1) | exact HB.out)) hb); clear HO_7; clear HB; have HO_7 := n0_; have HO296 := n1_; have HB := n2_; clear n0_ n1_ n2_; (try clear hb); (try clear hb2); (try clear hk); (try clear hi); (try clear ho0); obtain ⟨Ao31, co31, eo31⟩ := Kd.R_slice HO296.out; subst eo31; have p297 : 0 ≤ ((ji24) : Int) := of_decide_eq_true (by first | (with_reducible assumption) | assumption); have q297 : (ji24) < (t294.length : Int) := of_decide_eq_true (by first | (with_reducible assumption) | assumption); obtain ⟨ad297, e297, hx297_0⟩ := Kd.at_int (Kd.R_reads' HO296.out).2.2 (ji24) p297 q297; cases e297; (try simp only [Int.toNat_natCast] at hx297_0); replace p297 := eq_true p297; replace q297 := eq_true q297))
                          go_ret
                          exact ⟨by first | rfl | (simp [errW_none, errW_some] <;> rfl) | (simp only [← hji24]; first | rfl | (simp [errW_none, errW_some] <;> rfl)) | (simp [*, errW_none, errW_some] <;> rfl), by repeat (first | (with_reducible first | exact HB.out | apply below_alloc | apply pw_below_drewN | apply below_drew1) | exact HB.out)⟩
                      · rw [if_neg c26] at H
                        exact absurd H (by simp)
                    · rw [if_neg c25] at H
                      exact absurd H (by simp)
          · rw [if_neg c11] at H
            exact absurd H (by simp)
        · rw [if_neg c10] at H
          have c10b0 : decide (x9_1 < (t288.length : Int)) = false := decide_eq_false c10
          clear c10
          by_cases c32 : t286 = true
          · subst c32
            have H1 : ((match_Is.f k1 l0 a1).bind fun t291 => (some ((decide ((t288.length : Int) > 0)) == t291))) = some r := by rw [if_pos rfl] at H; exact H
            clear H
            have H := H1
            clear H1
            replace H := Option.bind_eq_some_iff.mp H
            obtain ⟨t291, A330, H⟩ := H
            replace H : (some ((decide ((t288.length : Int) > 0)) == t291)) = some r := H
            have A33 := Aside0.mk A330
            clear A330
            obtain rfl := Option.some.inj H
            obtain ⟨Ao34, co34, eo34⟩ := Kd.R_slice HO_7.out
            subst eo34
            go_wp2_with (first | (go_at_call 22; (with_reducible refine (match_Is.calls k1 _ _ l0 a1 t291 _ ?side1 ?side2 A33.out).mono ?_); (case side1 => repeat (first | exact (Kd.C_below HR0.out HB.out) | (with_reducible refine Kd.C_alloc ?_ _) | (with_reducible refine Kd.C_drewN ?_ _) | (with_reducible refine Kd.C_drew ?_))); (case side2 => exact HC0.out); rintro e w35 ⟨rfl, hb⟩; have n0_ := Aside0.mk (Kd.R_below (by (with_reducible repeat (first | apply Kd.R_alloc | apply Kd.R_drewN | apply Kd.R_drew)); exact HO_7.out) hb); have n1_ := Aside0.mk (below_step (by repeat (first | (with_reducible first | exact HB.out | apply below_alloc | apply pw_below_drewN | apply below_drew1) | exact HB.out)) hb); clear HO_7; clear HB; have HO_7 := n0_; have HB := n1_; clear n0_ n1_; (try clear hb); (try clear hb2); (try clear hk); (try clear hi)))
            go_ret
            exact ⟨by first | rfl | (simp [errW_none, errW_some] <;> rfl) | (simp [*, errW_none, errW_some] <;> rfl), by repeat (first | (with_reducible first | exact HB.out | apply below_alloc | apply pw_below_drewN | apply below_drew1) | exact HB.out)⟩
          · replace c32 := Bool.eq_false_iff.mpr c32
            subst c32
            have H1 : (some false) = some r := by rw [if_neg (show ¬ (false = true) by decide)] at H; exact H
            clear H
            have H := H1
            clear H1
            obtain rfl := Option.some.inj H
            obtain ⟨Ao36, co36, eo36⟩ := Kd.R_slice HO_7.out
            subst eo36
            go_wp2
            go_ret
            exact ⟨by first | rfl | (simp [errW_none, errW_some] <;> rfl) | (simp [*, errW_none, errW_some] <;> rfl), by repeat (first | (with_reducible first | exact HB.out | apply below_alloc | apply pw_below_drewN | apply below_drew1) | exact HB.out)⟩
  · replace c5 := Bool.eq_false_iff.mpr c5
    subst c5
    have H1 : (some t286) = some r := by rw [if_neg (show ¬ (false = true) by decide)] at H; exact H
    clear H
    have H := H1
    clear H1
    obtain rfl := Option.some.inj H
    go_enter Try.func8, Try.ntmps8
    go_wp2_with (first | ((with_reducible refine gate_callee (f := 9) rfl ?_); refine goesL_ (some 13) rfl rfl Try.func9 (by kernel_rfl) rfl #[] rfl (by (try simp only [List.map_toArray, List.map_cons, List.map_nil]); first | done | rfl | (simp only [List.length_drop, List.length_take]; rfl)) ?_; (with_reducible refine (dragomanlaw06_shown.calls k  t286 _ A3.out).mono ?_); rintro e w37 ⟨rfl, hb⟩; refine ⟨_, rfl, ?_⟩; have n0_ := Aside0.mk (below_step (by repeat (first | (with_reducible first | exact HB.out | apply below_alloc | apply pw_below_drewN | apply below_drew1) | exact HB.out)) hb); clear HB; have HB := n0_; clear n0_; (try clear hb); (try clear hb2); (try clear hk); (try clear hi)) | ((with_reducible refine gate_callee (f := 10) rfl ?_); refine goesL_ (some 16) rfl rfl Try.func10 (by kernel_rfl) rfl #[.slice A0 l0.length c0, .string a1] rfl (by (try simp only [List.map_toArray, List.map_cons, List.map_nil]); first | done | rfl | (simp only [List.length_drop, List.length_take]; rfl)) ?_; (with_reducible refine (dragomanlaw06_few.calls k _ _ l0 a1 false _ ?side1 ?side2 A4.out).mono ?_); (case side1 => repeat (first | exact (Kd.C_below HR0.out HB.out) | (with_reducible refine Kd.C_alloc ?_ _) | (with_reducible refine Kd.C_drewN ?_ _) | (with_reducible refine Kd.C_drew ?_))); (case side2 => exact HC0.out); rintro e w38 ⟨rfl, hb⟩; refine ⟨_, rfl, ?_⟩; have n0_ := Aside0.mk (below_step (by repeat (first | (with_reducible first | exact HB.out | apply below_alloc | apply pw_below_drewN | apply below_drew1) | exact HB.out)) hb); clear HB; have HB := n0_; clear n0_; (try clear hb); (try clear hb2); (try clear hk); (try clear hi)))
    go_ret
    exact ⟨by first | rfl | (simp [errW_none, errW_some] <;> rfl) | (simp [*, errW_none, errW_some] <;> rfl), by repeat (first | (with_reducible first | exact HB.out | apply below_alloc | apply pw_below_drewN | apply below_drew1) | exact HB.out)⟩

end Go.Proofs.Ytmhkofgappbpjaa.QC
