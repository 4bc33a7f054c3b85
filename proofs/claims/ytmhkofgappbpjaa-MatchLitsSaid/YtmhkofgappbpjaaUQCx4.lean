/- The Go functions of this part as Lean functions, each with a proof that a call of it comes to just what the Lean function does. Written by a program of the session's. Conditions: none but those in each theorem. -/
import Derived.Laws.DeepStrings4
import Derived.Test.YtmhkofgappbpjaaUQCx0
import Derived.Test.YtmhkofgappbpjaaUQCx2
namespace Go.Proofs.Ytmhkofgappbpjaa.QC
open Go.Proofs.Ytmhkofgappbpjaa.G Go.Proofs.Ytmhkofgappbpjaa.QA Go.Proofs.Ytmhkofgappbpjaa.QB
open Go.RowKit Go.Proofs.YtmhkofgappbpjaaW.PrintWords Go.Proofs.YtmhkofgappbpjaaW.PrintLast Go.Proofs.YtmhkofgappbpjaaW.PrintMore
attribute [local go_sem] max2_int min2_int max_two min_two max_three min_three max_four min_four   -- for this text's walks alone
attribute [local go_sem ↓] ix40_0 ix40_1 ia40_0 ia40_1
set_option linter.unusedVariables false
set_option linter.unusedSimpArgs false

-- NOT PRINTED: function 5 (dragomanlaw06_MatchBytes)

/-! ### dragomanlaw06_MatchLits: function 6 -/
mutual
def dragomanlaw06_MatchLits.j0 : Nat → ByteArray → ByteArray → ByteArray → Bool → Bool → Option (Bool)
  | 0, _, _, _, _, _ => none
  | k + 1, x0, x1, x2, x7, x26 => if x26 = true then (some x7) else ((dragomanref05_Lit.f k x0).bind fun bt243 => (if x2.size + x0.size ≤ 9223372036854775807 then (if (x2 ++ x0).size + x1.size ≤ 9223372036854775807 then ((match_Span.f k bt243.1 ((x2 ++ x0) ++ x1) 0).bind fun bt247 => (if bt247.2.2 = true then (if bt247.1 > (x2.size : Int) then (dragomanlaw06_MatchLits.j1 k x0 x1 x2 x7 bt243.1 bt247.1 bt247.2.1 true) else (dragomanlaw06_MatchLits.j1 k x0 x1 x2 x7 bt243.1 bt247.1 bt247.2.1 (bt247.2.1 != (wrap64 (bt247.1 + (x0.size : Int)))))) else (dragomanlaw06_MatchLits.j1 k x0 x1 x2 x7 bt243.1 bt247.1 bt247.2.1 true))) else (none)) else (none)))
def dragomanlaw06_MatchLits.j1 : Nat → ByteArray → ByteArray → ByteArray → Bool → List (S42) → Int → Int → Bool → Option (Bool)
  | 0, _, _, _, _, _, _, _, _ => none
  | k + 1, x0, x1, x2, x7, x8, x10, x11, x59 => if x59 = true then (some false) else (if x7 = true then ((match_Whole.f k x8 x0).bind fun t250 => (if t250 = true then ((match_Whole.f k x8 x1).bind fun t251 => (if (t251 == (x0.toList == x1.toList)) = true then (if x2.size + x0.size ≤ 9223372036854775807 then (if (x2 ++ x0).size + x1.size ≤ 9223372036854775807 then (if 0 ≤ x10 then (if x10 ≤ x11 then (if x11 ≤ (((x2 ++ x0) ++ x1).size : Int) then (some ((((x2 ++ x0) ++ x1).extract (x10 : Int).toNat (x11 : Int).toNat).toList == x0.toList)) else (none)) else (none)) else (none)) else (none)) else (none)) else (some false))) else (some false))) else (some false))
end
def dragomanlaw06_MatchLits.f (k : Nat) (a0 : ByteArray) (a1 : ByteArray) (a2 : ByteArray) : Option (Bool) := (dragomanlaw06_shown.f k).bind fun t242 => (if (a0.size : Int) > 25 then (dragomanlaw06_MatchLits.j0 k a0 a1 a2 t242 true) else (if (a1.size : Int) > 25 then (dragomanlaw06_MatchLits.j0 k a0 a1 a2 t242 true) else (dragomanlaw06_MatchLits.j0 k a0 a1 a2 t242 (decide ((a2.size : Int) > 25)))))
set_option maxHeartbeats 8000000 in
set_option maxRecDepth 100000 in
theorem dragomanlaw06_MatchLits.calls (k : Nat) (a0 : ByteArray) (a1 : ByteArray) (a2 : ByteArray) (r : Bool) (w : World) (h : dragomanlaw06_MatchLits.f k a0 a1 a2 = some r) :
    Calls Try.prog 6 #[.string a0, .string a1, .string a2] w fun e w' => e = .returned (.bool r) ∧ Below w.heap.size w w' := by
  have HB := Aside0.mk (Below.refl w.heap.size w)
  have H : ((dragomanlaw06_shown.f k).bind fun t242 => (if (a0.size : Int) > 25 then (dragomanlaw06_MatchLits.j0 k a0 a1 a2 t242 true) else (if (a1.size : Int) > 25 then (dragomanlaw06_MatchLits.j0 k a0 a1 a2 t242 true) else (dragomanlaw06_MatchLits.j0 k a0 a1 a2 t242 (decide ((a2.size : Int) > 25)))))) = some r := h
  clear h
  replace H := Option.bind_eq_some_iff.mp H
  obtain ⟨t242, A40, H⟩ := H
  replace H : (if (a0.size : Int) > 25 then (dragomanlaw06_MatchLits.j0 k a0 a1 a2 t242 true) else (if (a1.size : Int) > 25 then (dragomanlaw06_MatchLits.j0 k a0 a1 a2 t242 true) else (dragomanlaw06_MatchLits.j0 k a0 a1 a2 t242 (decide ((a2.size : Int) > 25))))) = some r := H
  have A4 := Aside0.mk A40
  clear A40
  have HC5 := Aside0.mk H
  clear H
  go_enter Try.func6, Try.ntmps6
  go_upto_region 2 with (first | ((with_reducible refine gate_callee (f := 9) rfl ?_); refine goesL_ (some 13) rfl rfl Try.func9 (by kernel_rfl) rfl #[] rfl (by (try simp only [List.map_toArray, List.map_cons, List.map_nil]); first | done | rfl | (simp only [List.length_drop, List.length_take]; rfl)) ?_; (with_reducible refine (dragomanlaw06_shown.calls k  t242 _ A4.out).mono ?_); rintro e w6 ⟨rfl, hb⟩; refine ⟨_, rfl, ?_⟩; have n0_ := Aside0.mk (below_step (by repeat (first | (with_reducible first | exact HB.out | apply below_alloc | apply pw_below_drewN | apply below_drew1) | exact HB.out)) hb); clear HB; have HB := n0_; clear n0_; (try clear hb); (try clear hb2); (try clear hk); (try clear hi)))
  (try simp only [Act.put, List.setIfInBounds_toArray, List.set_cons_zero, List.set_cons_succ])
  go_cut [26] (fun v26 wc => ∃ (kq : Nat) (x26_4 : Bool), v26 = .bool x26_4 ∧ Aside0 (dragomanlaw06_MatchLits.j0 kq a0 a1 a2 t242 x26_4 = some r) ∧ Aside0 (kq ≤ k) ∧ Aside0 (Below w.heap.size w wc))
  case first =>
    have H := HC5.out
    clear HC5
    by_cases c7 : (a0.size : Int) > 25
    · rw [if_pos c7] at H
      have c7b0 : decide (25 < (a0.size : Int)) = true := decide_eq_true c7
      have c7b1 : decide (25 < a0.size) = true := decide_eq_true (by omega)
      clear c7
      (first | rw [c7b0] | (simp only [i64_w, i32_w]; rw [c7b0]) | skip)
      have H' := Aside0.mk H
      clear H
      go_wp2
      go_meet
      case rel => exact ⟨_, (true), (by first | rfl | (simp; done) | (simp [*]; done)), H', ⟨by first | omega | exact Nat.le_refl _⟩, ⟨by repeat (first | (with_reducible first | exact HB.out | apply below_alloc | apply pw_below_drewN | apply below_drew1) | exact HB.out)⟩⟩
    · rw [if_neg c7] at H
      have c7b0 : decide (25 < (a0.size : Int)) = false := decide_eq_false c7
      have c7b1 : decide (25 < a0.size) = false := decide_eq_false (by omega)
      clear c7
      (first | rw [c7b0] | (simp only [i64_w, i32_w]; rw [c7b0]) | skip)
      by_cases c8 : (a1.size : Int) > 25
      · rw [if_pos c8] at H
        have c8b0 : decide (25 < (a1.size : Int)) = true := decide_eq_true c8
        have c8b1 : decide (25 < a1.size) = true := decide_eq_true (by omega)
        clear c8
        have H' := Aside0.mk H
        clear H
        go_wp2
        go_meet
        case rel => exact ⟨_, (true), (by first | rfl | (simp; done) | (simp [*]; done)), H', ⟨by first | omega | exact Nat.le_refl _⟩, ⟨by repeat (first | (with_reducible first | exact HB.out | apply below_alloc | apply pw_below_drewN | apply below_drew1) | exact HB.out)⟩⟩
      · rw [if_neg c8] at H
        have c8b0 : decide (25 < (a1.size : Int)) = false := decide_eq_false c8
        have c8b1 : decide (25 < a1.size) = false := decide_eq_false (by omega)
        clear c8
        have H' := Aside0.mk H
        clear H
        go_wp2
        go_meet
        case rel => exact ⟨_, (decide ((a2.size : Int) > 25)), (by first | rfl | (simp; done) | (simp [*]; done)), H', ⟨by first | omega | exact Nat.le_refl _⟩, ⟨by repeat (first | (with_reducible first | exact HB.out | apply below_alloc | apply pw_below_drewN | apply below_drew1) | exact HB.out)⟩⟩
  case rest =>
    clear HC5
    try clear p2
    try clear c6
    try clear c7
    try clear c7b0
    try clear c7b1
    try clear c8
    try clear c8b0
    try clear c8b1
    obtain ⟨kq, x26_4, rfl, HA, HJ4, HB⟩ := hcut
    cases kq with
    | zero => exact absurd HA.out (by simp [dragomanlaw06_MatchLits.j0])
    | succ kj4 =>
      have H := HA.out
      clear HA
      simp only [dragomanlaw06_MatchLits.j0] at H
      by_cases c9 : x26_4 = true
      · subst c9
        have H1 : (some t242) = some r := by rw [if_pos rfl] at H; exact H
        clear H
        have H := H1
        clear H1
        obtain rfl := Option.some.inj H
        go_wp2
        go_ret
        exact ⟨by first | rfl | (simp [errW_none, errW_some] <;> rfl) | (simp [*, errW_none, errW_some] <;> rfl), by repeat (first | (with_reducible first | exact HB.out | apply below_alloc | apply pw_below_drewN | apply below_drew1) | exact HB.out)⟩
      · replace c9 := Bool.eq_false_iff.mpr c9
        subst c9
        have H1 : ((dragomanref05_Lit.f kj4 a0).bind fun bt243 => (if a2.size + a0.size ≤ 9223372036854775807 then (if (a2 ++ a0).size + a1.size ≤ 9223372036854775807 then ((match_Span.f kj4 bt243.1 ((a2 ++ a0) ++ a1) 0).bind fun bt247 => (if bt247.2.2 = true then (if bt247.1 > (a2.size : Int) then (dragomanlaw06_MatchLits.j1 kj4 a0 a1 a2 t242 bt243.1 bt247.1 bt247.2.1 true) else (dragomanlaw06_MatchLits.j1 kj4 a0 a1 a2 t242 bt243.1 bt247.1 bt247.2.1 (bt247.2.1 != (wrap64 (bt247.1 + (a0.size : Int)))))) else (dragomanlaw06_MatchLits.j1 kj4 a0 a1 a2 t242 bt243.1 bt247.1 bt247.2.1 true))) else (none)) else (none))) = some r := by rw [if_neg (show ¬ (false = true) by decide)] at H; exact H
        clear H
        have H := H1
        clear H1
        replace H := Option.bind_eq_some_iff.mp H
        obtain ⟨⟨t243, t244⟩, A100, H⟩ := H
        replace H : (if a2.size + a0.size ≤ 9223372036854775807 then (if (a2 ++ a0).size + a1.size ≤ 9223372036854775807 then ((match_Span.f kj4 t243 ((a2 ++ a0) ++ a1) 0).bind fun bt247 => (if bt247.2.2 = true then (if bt247.1 > (a2.size : Int) then (dragomanlaw06_MatchLits.j1 kj4 a0 a1 a2 t242 t243 bt247.1 bt247.2.1 true) else (dragomanlaw06_MatchLits.j1 kj4 a0 a1 a2 t242 t243 bt247.1 bt247.2.1 (bt247.2.1 != (wrap64 (bt247.1 + (a0.size : Int)))))) else (dragomanlaw06_MatchLits.j1 kj4 a0 a1 a2 t242 t243 bt247.1 bt247.2.1 true))) else (none)) else (none)) = some r := H
        have A10 := Aside0.mk A100
        clear A100
        by_cases c11 : a2.size + a0.size ≤ 9223372036854775807
        · rw [if_pos c11] at H
          have c11b0 := eq_true c11
          have c11b1 : decide (a2.size + a0.size ≤ 9223372036854775807) = true := decide_eq_true c11
          try have c11b2 : (9223372036854775807 < a2.size + a0.size) = False := eq_false (Nat.not_lt.2 c11)
          try (have c11b3 := c11b2; simp only [ByteArray.size_append, ByteArray.size_extract, Nat.min_self] at c11b3)
          by_cases c12 : (a2 ++ a0).size + a1.size ≤ 9223372036854775807
          · rw [if_pos c12] at H
            have c12b0 := eq_true c12
            have c12b1 : decide ((a2 ++ a0).size + a1.size ≤ 9223372036854775807) = true := decide_eq_true c12
            try have c12b2 : (9223372036854775807 < (a2 ++ a0).size + a1.size) = False := eq_false (Nat.not_lt.2 c12)
            try (have c12b3 := c12b2; simp only [ByteArray.size_append, ByteArray.size_extract, Nat.min_self] at c12b3)
            replace H := Option.bind_eq_some_iff.mp H
            obtain ⟨⟨t247, t248, t249⟩, A130, H⟩ := H
            replace H : (if t249 = true then (if t247 > (a2.size : Int) then (dragomanlaw06_MatchLits.j1 kj4 a0 a1 a2 t242 t243 t247 t248 true) else (dragomanlaw06_MatchLits.j1 kj4 a0 a1 a2 t242 t243 t247 t248 (t248 != (wrap64 (t247 + (a0.size : Int)))))) else (dragomanlaw06_MatchLits.j1 kj4 a0 a1 a2 t242 t243 t247 t248 true)) = some r := H
            have A13 := Aside0.mk A130
            clear A130
            have HC14 := Aside0.mk H
            clear H
            go_upto_region 6 with (first | ((with_reducible refine gate_callee (f := 18) rfl ?_); refine goesL_ (some 30) rfl rfl Try.func18 (by kernel_rfl) rfl #[.string a0] rfl (by (try simp only [List.map_toArray, List.map_cons, List.map_nil]); first | done | rfl | (simp only [List.length_drop, List.length_take]; rfl)) ?_; (with_reducible refine (dragomanref05_Lit.calls kj4 a0 t243 t244 _ A10.out).mono ?_); rintro e w15 ⟨v245, rfl, ho0, hb⟩; refine ⟨_, rfl, ?_⟩; have n0_ := Aside0.mk (Kd.R_lower ho0 (below_size (by repeat (first | (with_reducible first | exact HB.out | apply below_alloc | apply pw_below_drewN | apply below_drew1) | exact HB.out)))); have n1_ := Aside0.mk (below_step (by repeat (first | (with_reducible first | exact HB.out | apply below_alloc | apply pw_below_drewN | apply below_drew1) | exact HB.out)) hb); clear HB; have HO246 := n0_; have HB := n1_; clear n0_ n1_; (try clear hb); (try clear hb2); (try clear hk); (try clear hi); (try clear ho0); obtain ⟨Ao16, co16, eo16⟩ := Kd.R_slice HO246.out; subst eo16) | ((with_reducible refine gate_callee (f := 19) rfl ?_); refine goesL_ (some 40) rfl rfl Try.func19 (by kernel_rfl) rfl #[.slice Ao16 t243.length co16, .string ((a2 ++ a0) ++ a1), .int .i64 0] rfl (by (try simp only [List.map_toArray, List.map_cons, List.map_nil]); first | done | rfl | (simp only [List.length_drop, List.length_take]; rfl)) ?_; (with_reducible refine (match_Span.calls kj4 _ _ t243 ((a2 ++ a0) ++ a1) 0 t247 t248 t249 _ ?side1 ?side2 A13.out).mono ?_); (case side1 => repeat (first | exact (Kd.R_reads' HO246.out).2.2 | (with_reducible refine Kd.C_alloc ?_ _) | (with_reducible refine Kd.C_drewN ?_ _) | (with_reducible refine Kd.C_drew ?_))); (case side2 => exact (Kd.R_reads' HO246.out).2.1); rintro e w17 ⟨rfl, hb⟩; refine ⟨_, rfl, ?_⟩; have n0_ := Aside0.mk (Kd.R_below (by (with_reducible repeat (first | apply Kd.R_alloc | apply Kd.R_drewN | apply Kd.R_drew)); exact HO246.out) hb); have n1_ := Aside0.mk (below_step (by repeat (first | (with_reducible first | exact HB.out | apply below_alloc | apply pw_below_drewN | apply below_drew1) | exact HB.out)) hb); clear HO246; clear HB; have HO246 := n0_; have HB := n1_; clear n0_ n1_; (try clear hb); (try clear hb2); (try clear hk); (try clear hi)))
            (try simp only [Act.put, List.setIfInBounds_toArray, List.set_cons_zero, List.set_cons_succ])
            go_cut [59] (fun v59 wc => ∃ (kq : Nat) (x59_13 : Bool), v59 = .bool x59_13 ∧ Aside0 (dragomanlaw06_MatchLits.j1 kq a0 a1 a2 t242 t243 t247 t248 x59_13 = some r) ∧ Aside0 (kq ≤ kj4) ∧ Aside0 (Kd.R k42 42 wc w.heap.size (fun _ => True) (.slice Ao16 t243.length co16) t243) ∧ Aside0 (Below w.heap.size w wc))
            case first =>
              have H := HC14.out
              clear HC14
              by_cases c18 : t249 = true
              · subst c18
                have H1 : (if t247 > (a2.size : Int) then (dragomanlaw06_MatchLits.j1 kj4 a0 a1 a2 t242 t243 t247 t248 true) else (dragomanlaw06_MatchLits.j1 kj4 a0 a1 a2 t242 t243 t247 t248 (t248 != (wrap64 (t247 + (a0.size : Int)))))) = some r := by rw [if_pos rfl] at H; exact H
                clear H
                have H := H1
                clear H1
                by_cases c19 : t247 > (a2.size : Int)
                · rw [if_pos c19] at H
                  have c19b0 : decide ((a2.size : Int) < t247) = true := decide_eq_true c19
                  clear c19
                  (first | rw [c19b0] | (simp only [i64_w, i32_w]; rw [c19b0]) | skip)
                  have H' := Aside0.mk H
                  clear H
                  go_wp2
                  go_meet
                  case rel => exact ⟨_, (true), (by first | rfl | (simp; done) | (simp [*]; done)), H', ⟨by have := HJ4.out; first | omega | exact Nat.le_refl _⟩, ⟨by (with_reducible repeat (first | apply Kd.R_alloc | apply Kd.R_drewN | apply Kd.R_drew)); exact HO246.out⟩, ⟨by repeat (first | (with_reducible first | exact HB.out | apply below_alloc | apply pw_below_drewN | apply below_drew1) | exact HB.out)⟩⟩
                · rw [if_neg c19] at H
                  have c19b0 : decide ((a2.size : Int) < t247) = false := decide_eq_false c19
                  clear c19
                  (first | rw [c19b0] | (simp only [i64_w, i32_w]; rw [c19b0]) | skip)
                  have H' := Aside0.mk H
                  clear H
                  go_wp2
                  go_meet
                  case rel => exact ⟨_, ((t248 != (wrap64 (t247 + (a0.size : Int))))), (by first | rfl | (simp; done) | (simp [*]; done)), H', ⟨by have := HJ4.out; first | omega | exact Nat.le_refl _⟩, ⟨by (with_reducible repeat (first | apply Kd.R_alloc | apply Kd.R_drewN | apply Kd.R_drew)); exact HO246.out⟩, ⟨by repeat (first | (with_reducible first | exact HB.out | apply below_alloc | apply pw_below_drewN | apply below_drew1) | exact HB.out)⟩⟩
              · replace c18 := Bool.eq_false_iff.mpr c18
                subst c18
                have H1 : (dragomanlaw06_MatchLits.j1 kj4 a0 a1 a2 t242 t243 t247 t248 true) = some r := by rw [if_neg (show ¬ (false = true) by decide)] at H; exact H
                clear H
                have H := H1
                clear H1
                have H' := Aside0.mk H
                clear H
                go_wp2
                go_meet
                case rel => exact ⟨_, (true), (by first | rfl | (simp; done) | (simp [*]; done)), H', ⟨by have := HJ4.out; first | omega | exact Nat.le_refl _⟩, ⟨by (with_reducible repeat (first | apply Kd.R_alloc | apply Kd.R_drewN | apply Kd.R_drew)); exact HO246.out⟩, ⟨by repeat (first | (with_reducible first | exact HB.out | apply below_alloc | apply pw_below_drewN | apply below_drew1) | exact HB.out)⟩⟩
            case rest =>
              clear HC14
              try clear c1
              try clear p2
              try clear c6
              try clear p6
              try clear c7
              try clear c7b0
              try clear c7b1
              try clear c8
              try clear c8b0
              try clear c8b1
              try clear c9
              try clear c11
              try clear c11b0
              try clear c11b1
              try clear c11b2
              try clear c12
              try clear c12b0
              try clear c12b1
              try clear c12b2
              try clear c18
              try clear c19
              try clear c19b0
              try clear p2
              obtain ⟨kq, x59_13, rfl, HA, HJ13, HO_8, HB⟩ := hcut
              cases kq with
              | zero => exact absurd HA.out (by simp [dragomanlaw06_MatchLits.j1])
              | succ kj13 =>
                have H := HA.out
                clear HA
                simp only [dragomanlaw06_MatchLits.j1] at H
                by_cases c20 : x59_13 = true
                · subst c20
                  have H1 : (some false) = some r := by rw [if_pos rfl] at H; exact H
                  clear H
                  have H := H1
                  clear H1
                  obtain rfl := Option.some.inj H
                  go_wp2
                  go_ret
                  exact ⟨by first | rfl | (simp [errW_none, errW_some] <;> rfl) | (simp [*, errW_none, errW_some] <;> rfl), by repeat (first | (with_reducible first | exact HB.out | apply below_alloc | apply pw_below_drewN | apply below_drew1) | exact HB.out)⟩
                · replace c20 := Bool.eq_false_iff.mpr c20
                  subst c20
                  have H1 : (if t242 = true then ((match_Whole.f kj13 t243 a0).bind fun t250 => (if t250 = true then ((match_Whole.f kj13 t243 a1).bind fun t251 => (if (t251 == (a0.toList == a1.toList)) = true then (if a2.size + a0.size ≤ 9223372036854775807 then (if (a2 ++ a0).size + a1.size ≤ 9223372036854775807 then (if 0 ≤ t247 then (if t247 ≤ t248 then (if t248 ≤ (((a2 ++ a0) ++ a1).size : Int) then (some ((((a2 ++ a0) ++ a1).extract (t247 : Int).toNat (t248 : Int).toNat).toList == a0.toList)) else (none)) else (none)) else (none)) else (none)) else (none)) else (some false))) else (some false))) else (some false)) = some r := by rw [if_neg (show ¬ (false = true) by decide)] at H; exact H
                  clear H
                  have H := H1
                  clear H1
                  by_cases c21 : t242 = true
                  · subst c21
                    have H1 : ((match_Whole.f kj13 t243 a0).bind fun t250 => (if t250 = true then ((match_Whole.f kj13 t243 a1).bind fun t251 => (if (t251 == (a0.toList == a1.toList)) = true then (if a2.size + a0.size ≤ 9223372036854775807 then (if (a2 ++ a0).size + a1.size ≤ 9223372036854775807 then (if 0 ≤ t247 then (if t247 ≤ t248 then (if t248 ≤ (((a2 ++ a0) ++ a1).size : Int) then (some ((((a2 ++ a0) ++ a1).extract (t247 : Int).toNat (t248 : Int).toNat).toList == a0.toList)) else (none)) else (none)) else (none)) else (none)) else (none)) else (some false))) else (some false))) = some r := by rw [if_pos rfl] at H; exact H
                    clear H
                    have H := H1
                    clear H1
                    replace H := Option.bind_eq_some_iff.mp H
                    obtain ⟨t250, A220, H⟩ := H
                    replace H : (if t250 = true then ((match_Whole.f kj13 t243 a1).bind fun t251 => (if (t251 == (a0.toList == a1.toList)) = true then (if a2.size + a0.size ≤ 9223372036854775807 then (if (a2 ++ a0).size + a1.size ≤ 9223372036854775807 then (if 0 ≤ t247 then (if t247 ≤ t248 then (if t248 ≤ (((a2 ++ a0) ++ a1).size : Int) then (some ((((a2 ++ a0) ++ a1).extract (t247 : Int).toNat (t248 : Int).toNat).toList == a0.toList)) else (none)) else (none)) else (none)) else (none)) else (none)) else (some false))) else (some false)) = some r := H
                    have A22 := Aside0.mk A220
                    clear A220
                    by_cases c23 : t250 = true
                    · subst c23
                      have H1 : ((match_Whole.f kj13 t243 a1).bind fun t251 => (if (t251 == (a0.toList == a1.toList)) = true then (if a2.size + a0.size ≤ 9223372036854775807 then (if (a2 ++ a0).size + a1.size ≤ 9223372036854775807 then (if 0 ≤ t247 then (if t247 ≤ t248 then (if t248 ≤ (((a2 ++ a0) ++ a1).size : Int) then (some ((((a2 ++ a0) ++ a1).extract (t247 : Int).toNat (t248 : Int).toNat).toList == a0.toList)) else (none)) else (none)) else (none)) else (none)) else (none)) else (some false))) = some r := by rw [if_pos rfl] at H; exact H
                      clear H
                      have H := H1
                      clear H1
                      replace H := Option.bind_eq_some_iff.mp H
                      obtain ⟨t251, A240, H⟩ := H
                      replace H : (if (t251 == (a0.toList == a1.toList)) = true then (if a2.size + a0.size ≤ 9223372036854775807 then (if (a2 ++ a0).size + a1.size ≤ 9223372036854775807 then (if 0 ≤ t247 then (if t247 ≤ t248 then (if t248 ≤ (((a2 ++ a0) ++ a1).size : Int) then (some ((((a2 ++ a0) ++ a1).extract (t247 : Int).toNat (t248 : Int).toNat).toList == a0.toList)) else (none)) else (none)) else (none)) else (none)) else (none)) else (some false)) = some r := H
                      have A24 := Aside0.mk A240
                      clear A240
                      by_cases c25 : (t251 == (a0.toList == a1.toList)) = true
                      · rw [if_pos c25] at H
                        have c25b0 : (t251 == (a0.toList == a1.toList)) = true := c25
                        (try (have c25b1 : decide (t251 = (a0.toList == a1.toList)) = true := by simpa using c25))
                        (try (have c25b2 : (t251 == (a0.toList == a1.toList)) = true := by simpa using c25))
                        clear c25
                        by_cases c26 : a2.size + a0.size ≤ 9223372036854775807
                        · rw [if_pos c26] at H
                          have c26b0 := eq_true c26
                          have c26b1 : decide (a2.size + a0.size ≤ 9223372036854775807) = true := decide_eq_true c26
                          try have c26b2 : (9223372036854775807 < a2.size + a0.size) = False := eq_false (Nat.not_lt.2 c26)
                          try (have c26b3 := c26b2; simp only [ByteArray.size_append, ByteArray.size_extract, Nat.min_self] at c26b3)
                          by_cases c27 : (a2 ++ a0).size + a1.size ≤ 9223372036854775807
                          · rw [if_pos c27] at H
                            have c27b0 := eq_true c27
                            have c27b1 : decide ((a2 ++ a0).size + a1.size ≤ 9223372036854775807) = true := decide_eq_true c27
                            try have c27b2 : (9223372036854775807 < (a2 ++ a0).size + a1.size) = False := eq_false (Nat.not_lt.2 c27)
                            try (have c27b3 := c27b2; simp only [ByteArray.size_append, ByteArray.size_extract, Nat.min_self] at c27b3)
                            by_cases c28 : 0 ≤ t247
                            · rw [if_pos c28] at H
                              have c28b0 := eq_true c28
                              have c28b1 : decide (0 ≤ t247) = true := decide_eq_true c28
                              clear c28
                              by_cases c29 : t247 ≤ t248
                              · rw [if_pos c29] at H
                                have c29b0 := eq_true c29
                                have c29b1 : decide (t247 ≤ t248) = true := decide_eq_true c29
                                clear c29
                                by_cases c30 : t248 ≤ (((a2 ++ a0) ++ a1).size : Int)
                                · rw [if_pos c30] at H
                                  have c30b0 := eq_true c30
                                  have c30b1 : decide (t248 ≤ (((a2 ++ a0) ++ a1).size : Int)) = true := decide_eq_true c30
                                  have c30z1 : decide (t248 ≤ ((a2.size + a0.size + a1.size : Nat) : Int)) = true := by
                                    have z_ := of_decide_eq_true c30b1
                                    rw [ByteArray.size_append, ByteArray.size_append] at z_
                                    exact decide_eq_true z_
                                  have c30z2 : decide (t248 ≤ (a2.size : Int) + (a0.size : Int) + (a1.size : Int)) = true := decide_eq_true (by have z_ := of_decide_eq_true c30z1; omega)
                                  have hsl : ∀ wx, (Instr.slice 9 (.string (a2 ++ a0 ++ a1)) (some (.int .i64 t247)) (some (.int .i64 t248)) none).run Try.prog wx = .ok (.string ((a2 ++ a0 ++ a1).extract t247.toNat t248.toNat)) wx := fun wx => by
                                    have e1 : t248 ≤ ((a2 ++ a0 ++ a1).size : Int) := of_decide_eq_true c30b1
                                    have e2 : 0 ≤ t247 := of_decide_eq_true c28b1
                                    have e3 : t247 ≤ t248 := of_decide_eq_true c29b1
                                    rw [run_slice_string_if wx 9 _ .i64 .i64 t247 t248 Try.underlying9, if_pos ⟨by omega, e1⟩, if_pos ⟨e2, e3⟩]
                                  obtain rfl := Option.some.inj H
                                  go_wp2_with (first | (go_at_call 20; (with_reducible refine (match_Whole.calls kj13 _ _ t243 a0 true _ ?side1 ?side2 A22.out).mono ?_); (case side1 => repeat (first | exact (Kd.R_reads' HO_8.out).2.2 | (with_reducible refine Kd.C_alloc ?_ _) | (with_reducible refine Kd.C_drewN ?_ _) | (with_reducible refine Kd.C_drew ?_))); (case side2 => exact (Kd.R_reads' HO_8.out).2.1); rintro e w31 ⟨rfl, hb⟩; have n0_ := Aside0.mk (Kd.R_below (by (with_reducible repeat (first | apply Kd.R_alloc | apply Kd.R_drewN | apply Kd.R_drew)); exact HO_8.out) hb); have n1_ := Aside0.mk (below_step (by repeat (first | (with_reducible first | exact HB.out | apply below_alloc | apply pw_below_drewN | apply below_drew1) | exact HB.out)) hb); clear HO_8; clear HB; have HO_8 := n0_; have HB := n1_; clear n0_ n1_; (try clear hb); (try clear hb2); (try clear hk); (try clear hi)) | (go_at_call 20; (with_reducible refine (match_Whole.calls kj13 _ _ t243 a1 t251 _ ?side1 ?side2 A24.out).mono ?_); (case side1 => repeat (first | exact (Kd.R_reads' HO_8.out).2.2 | (with_reducible refine Kd.C_alloc ?_ _) | (with_reducible refine Kd.C_drewN ?_ _) | (with_reducible refine Kd.C_drew ?_))); (case side2 => exact (Kd.R_reads' HO_8.out).2.1); rintro e w32 ⟨rfl, hb⟩; have n0_ := Aside0.mk (Kd.R_below (by (with_reducible repeat (first | apply Kd.R_alloc | apply Kd.R_drewN | apply Kd.R_drew)); exact HO_8.out) hb); have n1_ := Aside0.mk (below_step (by repeat (first | (with_reducible first | exact HB.out | apply below_alloc | apply pw_below_drewN | apply below_drew1) | exact HB.out)) hb); clear HO_8; clear HB; have HO_8 := n0_; have HB := n1_; clear n0_ n1_; (try clear hb); (try clear hb2); (try clear hk); (try clear hi)))
                                  go_ret
                                  exact ⟨by first | rfl | (simp [errW_none, errW_some] <;> rfl) | (simp [*, errW_none, errW_some] <;> rfl), by repeat (first | (with_reducible first | exact HB.out | apply below_alloc | apply pw_below_drewN | apply below_drew1) | exact HB.out)⟩
                                · rw [if_neg c30] at H
                                  exact absurd H (by simp)
                              · rw [if_neg c29] at H
                                exact absurd H (by simp)
                            · rw [if_neg c28] at H
                              exact absurd H (by simp)
                          · rw [if_neg c27] at H
                            exact absurd H (by simp)
                        · rw [if_neg c26] at H
                          exact absurd H (by simp)
                      · rw [if_neg c25] at H
                        have c25b0 : (t251 == (a0.toList == a1.toList)) = false := by simpa using c25
                        (try (have c25b1 : decide (t251 = (a0.toList == a1.toList)) = false := by simpa using c25))
                        (try (have c25b2 : (t251 == (a0.toList == a1.toList)) = false := by simpa using c25))
                        (try (have c25b3 : ¬ (t251 = (a0.toList == a1.toList)) := by simpa using c25))
                        clear c25
                        obtain rfl := Option.some.inj H
                        go_wp2_with (first | (go_at_call 20; (with_reducible refine (match_Whole.calls kj13 _ _ t243 a0 true _ ?side1 ?side2 A22.out).mono ?_); (case side1 => repeat (first | exact (Kd.R_reads' HO_8.out).2.2 | (with_reducible refine Kd.C_alloc ?_ _) | (with_reducible refine Kd.C_drewN ?_ _) | (with_reducible refine Kd.C_drew ?_))); (case side2 => exact (Kd.R_reads' HO_8.out).2.1); rintro e w33 ⟨rfl, hb⟩; have n0_ := Aside0.mk (Kd.R_below (by (with_reducible repeat (first | apply Kd.R_alloc | apply Kd.R_drewN | apply Kd.R_drew)); exact HO_8.out) hb); have n1_ := Aside0.mk (below_step (by repeat (first | (with_reducible first | exact HB.out | apply below_alloc | apply pw_below_drewN | apply below_drew1) | exact HB.out)) hb); clear HO_8; clear HB; have HO_8 := n0_; have HB := n1_; clear n0_ n1_; (try clear hb); (try clear hb2); (try clear hk); (try clear hi)) | (go_at_call 20; (with_reducible refine (match_Whole.calls kj13 _ _ t243 a1 t251 _ ?side1 ?side2 A24.out).mono ?_); (case side1 => repeat (first | exact (Kd.R_reads' HO_8.out).2.2 | (with_reducible refine Kd.C_alloc ?_ _) | (with_reducible refine Kd.C_drewN ?_ _) | (with_reducible refine Kd.C_drew ?_))); (case side2 => exact (Kd.R_reads' HO_8.out).2.1); rintro e w34 ⟨rfl, hb⟩; have n0_ := Aside0.mk (Kd.R_below (by (with_reducible repeat (first | apply Kd.R_alloc | apply Kd.R_drewN | apply Kd.R_drew)); exact HO_8.out) hb); have n1_ := Aside0.mk (below_step (by repeat (first | (with_reducible first | exact HB.out | apply below_alloc | apply pw_below_drewN | apply below_drew1) | exact HB.out)) hb); clear HO_8; clear HB; have HO_8 := n0_; have HB := n1_; clear n0_ n1_; (try clear hb); (try clear hb2); (try clear hk); (try clear hi)))
                        go_ret
                        exact ⟨by first | rfl | (simp [errW_none, errW_some] <;> rfl) | (simp [*, errW_none, errW_some] <;> rfl), by repeat (first | (with_reducible first | exact HB.out | apply below_alloc | apply pw_below_drewN | apply below_drew1) | exact HB.out)⟩
                    · replace c23 := Bool.eq_false_iff.mpr c23
                      subst c23
                      have H1 : (some false) = some r := by rw [if_neg (show ¬ (false = true) by decide)] at H; exact H
                      clear H
                      have H := H1
                      clear H1
                      obtain rfl := Option.some.inj H
                      go_wp2_with (first | (go_at_call 20; (with_reducible refine (match_Whole.calls kj13 _ _ t243 a0 false _ ?side1 ?side2 A22.out).mono ?_); (case side1 => repeat (first | exact (Kd.R_reads' HO_8.out).2.2 | (with_reducible refine Kd.C_alloc ?_ _) | (with_reducible refine Kd.C_drewN ?_ _) | (with_reducible refine Kd.C_drew ?_))); (case side2 => exact (Kd.R_reads' HO_8.out).2.1); rintro e w35 ⟨rfl, hb⟩; have n0_ := Aside0.mk (Kd.R_below (by (with_reducible repeat (first | apply Kd.R_alloc | apply Kd.R_drewN | apply Kd.R_drew)); exact HO_8.out) hb); have n1_ := Aside0.mk (below_step (by repeat (first | (with_reducible first | exact HB.out | apply below_alloc | apply pw_below_drewN | apply below_drew1) | exact HB.out)) hb); clear HO_8; clear HB; have HO_8 := n0_; have HB := n1_; clear n0_ n1_; (try clear hb); (try clear hb2); (try clear hk); (try clear hi)))
                      go_ret
                      exact ⟨by first | rfl | (simp [errW_none, errW_some] <;> rfl) | (simp [*, errW_none, errW_some] <;> rfl), by repeat (first | (with_reducible first | exact HB.out | apply below_alloc | apply pw_below_drewN | apply below_drew1) | exact HB.out)⟩
                  · replace c21 := Bool.eq_false_iff.mpr c21
                    subst c21
                    have H1 : (some false) = some r := by rw [if_neg (show ¬ (false = true) by decide)] at H; exact H
                    clear H
                    have H := H1
                    clear H1
                    obtain rfl := Option.some.inj H
                    go_wp2
                    go_ret
                    exact ⟨by first | rfl | (simp [errW_none, errW_some] <;> rfl) | (simp [*, errW_none, errW_some] <;> rfl), by repeat (first | (with_reducible first | exact HB.out | apply below_alloc | apply pw_below_drewN | apply below_drew1) | exact HB.out)⟩
          · rw [if_neg c12] at H
            exact absurd H (by simp)
        · rw [if_neg c11] at H
          exact absurd H (by simp)

end Go.Proofs.Ytmhkofgappbpjaa.QC
