/- The Go functions of this part as Lean functions, each with a proof that a call of it comes to just what the Lean function does. Written by a program of the session's. Conditions: none but those in each theorem. -/
import Derived.Test.YtmhkofgappbpjaaXQCx0
import Derived.Test.YtmhkofgappbpjaaXQCx2
namespace Go.Proofs.Ytmhkofgappbpjaa.QC
open Go.Proofs.Ytmhkofgappbpjaa.G Go.Proofs.Ytmhkofgappbpjaa.QA Go.Proofs.Ytmhkofgappbpjaa.QB
open Go.RowKit Go.Proofs.YtmhkofgappbpjaaW.PrintWords Go.Proofs.YtmhkofgappbpjaaW.PrintLast Go.Proofs.YtmhkofgappbpjaaW.PrintMore
attribute [local go_sem] max2_int min2_int max_two min_two max_three min_three max_four min_four   -- for this text's walks alone
attribute [local go_sem ↓] ix40_0 ix40_1 ia40_0 ia40_1
set_option linter.unusedVariables false
set_option linter.unusedSimpArgs false

/-! ### dragomanlaw06_MatchStars: function 7 -/
mutual
def dragomanlaw06_MatchStars.j0 : Nat → List (S42) → ByteArray → Int → Bool → Bool → Option (Bool)
  | 0, _, _, _, _, _ => none
  | k + 1, x0, x1, x2, x7, x37 => if x37 = true then (some x7) else ((some (([] : List (S42)) : List (S42))).bind fun y254 => (if y254.length + x0.length < 2513169434916 then ((some (y254 ++ x0 : List (S42))).bind fun y257 => (if y257.length < 2513169434916 then ((match_Ends.f k (y257 ++ [(⟨4, (⟨0, 0, 0, 0⟩ : S39), (⟨wrap64 ((x0.length : Int) - 1), 0⟩ : S40)⟩ : S42)]) x1 x2).bind fun t263 => (if 0 ≤ (wrap64 ((x1.size : Int) + 1)) then (if (wrap64 ((x1.size : Int) + 1) : Int).toNat ≤ 281474976710656 then (dragomanlaw06_MatchStars.l0 k x0 x1 x2 x7 t263 (List.replicate (wrap64 ((x1.size : Int) + 1) : Int).toNat false) 0) else (none)) else (none))) else (none))) else (none)))
def dragomanlaw06_MatchStars.l0 : Nat → List (S42) → ByteArray → Int → Bool → List Int → List Bool → Int → Option (Bool)
  | 0, _, _, _, _, _, _, _ => none
  | k + 1, x0, x1, x2, x7, x10, x11, x12 => if x12 < (x10.length : Int) then (if 0 ≤ x12 then (if 0 ≤ (rd x10 x12) then (if (rd x10 x12) < (x11.length : Int) then (dragomanlaw06_MatchStars.l0 k x0 x1 x2 x7 x10 (x11.set ((rd x10 x12) : Int).toNat true) (wrap64 (x12 + 1))) else (none)) else (none)) else (none)) else (dragomanlaw06_MatchStars.l1 k x0 x1 x2 x7 x10 x11 0)
def dragomanlaw06_MatchStars.l1 : Nat → List (S42) → ByteArray → Int → Bool → List Int → List Bool → Int → Option (Bool)
  | 0, _, _, _, _, _, _, _ => none
  | k + 1, x0, x1, x2, x7, x10, x11, x13 => if x13 < (x10.length : Int) then (if 0 ≤ x13 then ((match_Ends.f k x0 x1 (rd x10 x13)).bind fun t281 => (dragomanlaw06_MatchStars.l2 k x0 x1 x2 x7 x10 x11 x13 t281 0)) else (none)) else ((dragomanref04_Not.f k 0 0 0 0).bind fun bt271 => (if x7 = true then (if 0 ≤ x2 then (if x2 < (x11.length : Int) then (if rdOf false x11 x2 = true then ((match_Whole.f k (([(⟨1, (⟨bt271.1, bt271.2.1, bt271.2.2.1, bt271.2.2.2⟩ : S39), (⟨0, 0⟩ : S40)⟩ : S42), (⟨4, (⟨0, 0, 0, 0⟩ : S39), (⟨0, 0⟩ : S40)⟩ : S42)] : List (S42))) x1).bind fun t279 => (some t279)) else (some false)) else (none)) else (none)) else (some false)))
def dragomanlaw06_MatchStars.l2 : Nat → List (S42) → ByteArray → Int → Bool → List Int → List Bool → Int → List Int → Int → Option (Bool)
  | 0, _, _, _, _, _, _, _, _, _ => none
  | k + 1, x0, x1, x2, x7, x10, x11, x13, x14, x15 => if x15 < (x14.length : Int) then (if 0 ≤ x15 then (if 0 ≤ (rd x14 x15) then (if (rd x14 x15) < (x11.length : Int) then (if (rdOf false x11 (rd x14 x15) = true) then (dragomanlaw06_MatchStars.l2 k x0 x1 x2 x7 x10 x11 x13 x14 (wrap64 (x15 + 1))) else (some false)) else (none)) else (none)) else (none)) else (dragomanlaw06_MatchStars.l1 k x0 x1 x2 x7 x10 x11 (wrap64 (x13 + 1)))
end
def dragomanlaw06_MatchStars.f (k : Nat) (l0 : List (S42)) (a1 : ByteArray) (a2 : Int) : Option (Bool) := (dragomanlaw06_shown.f k).bind fun t252 => ((dragomanlaw06_few.f k l0 a1).bind fun t253 => (if t253 = true then (if (l0.length : Int) > 58 then (dragomanlaw06_MatchStars.j0 k l0 a1 a2 t252 true) else (if a2 < 0 then (dragomanlaw06_MatchStars.j0 k l0 a1 a2 t252 true) else (dragomanlaw06_MatchStars.j0 k l0 a1 a2 t252 (decide (a2 > (a1.size : Int)))))) else (dragomanlaw06_MatchStars.j0 k l0 a1 a2 t252 true)))
set_option maxHeartbeats 8000000 in
set_option maxRecDepth 100000 in
theorem dragomanlaw06_MatchStars.calls (k : Nat) (A0 : Option Addr) (c0 : Nat) (l0 : List (S42)) (a1 : ByteArray) (a2 : Int) (r : Bool) (w : World) (hr0 : Kd.C k42 w A0 l0.length l0) (hc0 : l0.length ≤ c0) (h : dragomanlaw06_MatchStars.f k l0 a1 a2 = some r) :
    Calls Try.prog 7 #[.slice A0 l0.length c0, .string a1, .int .i64 a2] w fun e w' => e = .returned (.bool r) ∧ Below w.heap.size w w' := by
  have hu40 := Try.underlying40
  have hu42 := Try.underlying42
  have hu39 := Try.underlying39
  have HR0 := Aside0.mk hr0
  have HC0 := Aside0.mk hc0
  clear hr0 hc0
  have HB := Aside0.mk (Below.refl w.heap.size w)
  have H : ((dragomanlaw06_shown.f k).bind fun t252 => ((dragomanlaw06_few.f k l0 a1).bind fun t253 => (if t253 = true then (if (l0.length : Int) > 58 then (dragomanlaw06_MatchStars.j0 k l0 a1 a2 t252 true) else (if a2 < 0 then (dragomanlaw06_MatchStars.j0 k l0 a1 a2 t252 true) else (dragomanlaw06_MatchStars.j0 k l0 a1 a2 t252 (decide (a2 > (a1.size : Int)))))) else (dragomanlaw06_MatchStars.j0 k l0 a1 a2 t252 true)))) = some r := h
  clear h
  replace H := Option.bind_eq_some_iff.mp H
  obtain ⟨t252, A40, H⟩ := H
  replace H : ((dragomanlaw06_few.f k l0 a1).bind fun t253 => (if t253 = true then (if (l0.length : Int) > 58 then (dragomanlaw06_MatchStars.j0 k l0 a1 a2 t252 true) else (if a2 < 0 then (dragomanlaw06_MatchStars.j0 k l0 a1 a2 t252 true) else (dragomanlaw06_MatchStars.j0 k l0 a1 a2 t252 (decide (a2 > (a1.size : Int)))))) else (dragomanlaw06_MatchStars.j0 k l0 a1 a2 t252 true))) = some r := H
  have A4 := Aside0.mk A40
  clear A40
  replace H := Option.bind_eq_some_iff.mp H
  obtain ⟨t253, A50, H⟩ := H
  replace H : (if t253 = true then (if (l0.length : Int) > 58 then (dragomanlaw06_MatchStars.j0 k l0 a1 a2 t252 true) else (if a2 < 0 then (dragomanlaw06_MatchStars.j0 k l0 a1 a2 t252 true) else (dragomanlaw06_MatchStars.j0 k l0 a1 a2 t252 (decide (a2 > (a1.size : Int)))))) else (dragomanlaw06_MatchStars.j0 k l0 a1 a2 t252 true)) = some r := H
  have A5 := Aside0.mk A50
  clear A50
  have HC6 := Aside0.mk H
  clear H
  go_enter Try.func7, Try.ntmps7
  go_upto_region 3 with (first | ((with_reducible refine gate_callee (f := 9) rfl ?_); refine goesL_ (some 17) rfl rfl Try.func9 (by kernel_rfl) rfl #[] rfl (by (try simp only [List.map_toArray, List.map_cons, List.map_nil]); first | done | rfl | (simp only [List.length_drop, List.length_take]; rfl)) ?_; (with_reducible refine (dragomanlaw06_shown.calls k  t252 _ A4.out).mono ?_); rintro e w7 ⟨rfl, hb⟩; refine ⟨_, rfl, ?_⟩; have n0_ := Aside0.mk (below_step (by repeat (first | (with_reducible first | exact HB.out | apply below_alloc | apply pw_below_drewN | apply below_drew1) | exact HB.out)) hb); clear HB; have HB := n0_; clear n0_; (try clear hb); (try clear hb2); (try clear hk); (try clear hi)) | ((with_reducible refine gate_callee (f := 10) rfl ?_); refine goesL_ (some 20) rfl rfl Try.func10 (by kernel_rfl) rfl #[.slice A0 l0.length c0, .string a1] rfl (by (try simp only [List.map_toArray, List.map_cons, List.map_nil]); first | done | rfl | (simp only [List.length_drop, List.length_take]; rfl)) ?_; (with_reducible refine (dragomanlaw06_few.calls k _ _ l0 a1 t253 _ ?side1 ?side2 A5.out).mono ?_); (case side1 => repeat (first | exact (Kd.C_below HR0.out HB.out) | (with_reducible refine Kd.C_alloc ?_ _) | (with_reducible refine Kd.C_drewN ?_ _) | (with_reducible refine Kd.C_drew ?_))); (case side2 => exact HC0.out); rintro e w8 ⟨rfl, hb⟩; refine ⟨_, rfl, ?_⟩; have n0_ := Aside0.mk (below_step (by repeat (first | (with_reducible first | exact HB.out | apply below_alloc | apply pw_below_drewN | apply below_drew1) | exact HB.out)) hb); clear HB; have HB := n0_; clear n0_; (try clear hb); (try clear hb2); (try clear hk); (try clear hi)))
  (try simp only [Act.put, List.setIfInBounds_toArray, List.set_cons_zero, List.set_cons_succ])
  go_cut [37] (fun v37 wc => ∃ (kq : Nat) (x37_5 : Bool), v37 = .bool x37_5 ∧ Aside0 (dragomanlaw06_MatchStars.j0 kq l0 a1 a2 t252 x37_5 = some r) ∧ Aside0 (kq ≤ k) ∧ Aside0 (Below w.heap.size w wc))
  case first =>
    have H := HC6.out
    clear HC6
    by_cases c9 : t253 = true
    · subst c9
      have H1 : (if (l0.length : Int) > 58 then (dragomanlaw06_MatchStars.j0 k l0 a1 a2 t252 true) else (if a2 < 0 then (dragomanlaw06_MatchStars.j0 k l0 a1 a2 t252 true) else (dragomanlaw06_MatchStars.j0 k l0 a1 a2 t252 (decide (a2 > (a1.size : Int)))))) = some r := by rw [if_pos rfl] at H; exact H
      clear H
      have H := H1
      clear H1
      by_cases c10 : (l0.length : Int) > 58
      · rw [if_pos c10] at H
        have c10b0 : decide (58 < (l0.length : Int)) = true := decide_eq_true c10
        have c10b1 : decide (58 < l0.length) = true := decide_eq_true (by omega)
        clear c10
        (first | rw [c10b0] | (simp only [i64_w, i32_w]; rw [c10b0]) | skip)
        have H' := Aside0.mk H
        clear H
        go_wp2
        go_meet
        case rel => exact ⟨_, (true), (by first | rfl | (simp; done) | (simp [*]; done)), H', ⟨by first | omega | exact Nat.le_refl _⟩, ⟨by repeat (first | (with_reducible first | exact HB.out | apply below_alloc | apply pw_below_drewN | apply below_drew1) | exact HB.out)⟩⟩
      · rw [if_neg c10] at H
        have c10b0 : decide (58 < (l0.length : Int)) = false := decide_eq_false c10
        have c10b1 : decide (58 < l0.length) = false := decide_eq_false (by omega)
        clear c10
        (first | rw [c10b0] | (simp only [i64_w, i32_w]; rw [c10b0]) | skip)
        by_cases c11 : a2 < 0
        · rw [if_pos c11] at H
          have c11b0 : decide (a2 < 0) = true := decide_eq_true c11
          clear c11
          have H' := Aside0.mk H
          clear H
          go_wp2
          go_meet
          case rel => exact ⟨_, (true), (by first | rfl | (simp; done) | (simp [*]; done)), H', ⟨by first | omega | exact Nat.le_refl _⟩, ⟨by repeat (first | (with_reducible first | exact HB.out | apply below_alloc | apply pw_below_drewN | apply below_drew1) | exact HB.out)⟩⟩
        · rw [if_neg c11] at H
          have c11b0 : decide (a2 < 0) = false := decide_eq_false c11
          clear c11
          have H' := Aside0.mk H
          clear H
          go_wp2
          go_meet
          case rel => exact ⟨_, (decide (a2 > (a1.size : Int))), (by first | rfl | (simp; done) | (simp [*]; done)), H', ⟨by first | omega | exact Nat.le_refl _⟩, ⟨by repeat (first | (with_reducible first | exact HB.out | apply below_alloc | apply pw_below_drewN | apply below_drew1) | exact HB.out)⟩⟩
    · replace c9 := Bool.eq_false_iff.mpr c9
      subst c9
      have H1 : (dragomanlaw06_MatchStars.j0 k l0 a1 a2 t252 true) = some r := by rw [if_neg (show ¬ (false = true) by decide)] at H; exact H
      clear H
      have H := H1
      clear H1
      have H' := Aside0.mk H
      clear H
      go_wp2
      go_meet
      case rel => exact ⟨_, (true), (by first | rfl | (simp; done) | (simp [*]; done)), H', ⟨by first | omega | exact Nat.le_refl _⟩, ⟨by repeat (first | (with_reducible first | exact HB.out | apply below_alloc | apply pw_below_drewN | apply below_drew1) | exact HB.out)⟩⟩
  case rest =>
    clear HC6
    try clear c1
    try clear p2
    try clear c7
    try clear c9
    try clear c10
    try clear c10b0
    try clear c10b1
    try clear c11
    try clear c11b0
    obtain ⟨kq, x37_5, rfl, HA, HJ5, HB⟩ := hcut
    cases kq with
    | zero => exact absurd HA.out (by simp [dragomanlaw06_MatchStars.j0])
    | succ kj5 =>
      have H := HA.out
      clear HA
      simp only [dragomanlaw06_MatchStars.j0] at H
      by_cases c12 : x37_5 = true
      · subst c12
        have H1 : (some t252) = some r := by rw [if_pos rfl] at H; exact H
        clear H
        have H := H1
        clear H1
        obtain rfl := Option.some.inj H
        go_wp2
        go_ret
        exact ⟨by first | rfl | (simp [errW_none, errW_some] <;> rfl) | (simp [*, errW_none, errW_some] <;> rfl), by repeat (first | (with_reducible first | exact HB.out | apply below_alloc | apply pw_below_drewN | apply below_drew1) | exact HB.out)⟩
      · replace c12 := Bool.eq_false_iff.mpr c12
        subst c12
        have H1 : ((some (([] : List (S42)) : List (S42))).bind fun y254 => (if y254.length + l0.length < 2513169434916 then ((some (y254 ++ l0 : List (S42))).bind fun y257 => (if y257.length < 2513169434916 then ((match_Ends.f kj5 (y257 ++ [(⟨4, (⟨0, 0, 0, 0⟩ : S39), (⟨wrap64 ((l0.length : Int) - 1), 0⟩ : S40)⟩ : S42)]) a1 a2).bind fun t263 => (if 0 ≤ (wrap64 ((a1.size : Int) + 1)) then (if (wrap64 ((a1.size : Int) + 1) : Int).toNat ≤ 281474976710656 then (dragomanlaw06_MatchStars.l0 kj5 l0 a1 a2 t252 t263 (List.replicate (wrap64 ((a1.size : Int) + 1) : Int).toNat false) 0) else (none)) else (none))) else (none))) else (none))) = some r := by rw [if_neg (show ¬ (false = true) by decide)] at H; exact H
        clear H
        have H := H1
        clear H1
        obtain ⟨y254, hy254⟩ : ∃ y_ : List (S42), y_ = (([] : List (S42))) := ⟨_, rfl⟩
        replace H : (if y254.length + l0.length < 2513169434916 then ((some (y254 ++ l0 : List (S42))).bind fun y257 => (if y257.length < 2513169434916 then ((match_Ends.f kj5 (y257 ++ [(⟨4, (⟨0, 0, 0, 0⟩ : S39), (⟨wrap64 ((l0.length : Int) - 1), 0⟩ : S40)⟩ : S42)]) a1 a2).bind fun t263 => (if 0 ≤ (wrap64 ((a1.size : Int) + 1)) then (if (wrap64 ((a1.size : Int) + 1) : Int).toNat ≤ 281474976710656 then (dragomanlaw06_MatchStars.l0 kj5 l0 a1 a2 t252 t263 (List.replicate (wrap64 ((a1.size : Int) + 1) : Int).toNat false) 0) else (none)) else (none))) else (none))) else (none)) = some r := by first | (rw [hy254]; with_reducible exact H) | (have H2_ := (Option.bind_some _ _).symm.trans H; rw [hy254]; with_reducible exact H2_) | (have H2_ := (Option.bind_some _ _).symm.trans H; with_reducible exact H2_) | with_reducible exact H | (rw [hy254]; exact H) | exact H
        have Ny254 := Aside0.mk hy254
        clear hy254
        by_cases c13 : y254.length + l0.length < 2513169434916
        · rw [if_pos c13] at H
          have LMc13 := Aside0.mk c13
          clear c13
          obtain ⟨y257, hy257⟩ : ∃ y_ : List (S42), y_ = (y254 ++ l0) := ⟨_, rfl⟩
          replace H : (if y257.length < 2513169434916 then ((match_Ends.f kj5 (y257 ++ [(⟨4, (⟨0, 0, 0, 0⟩ : S39), (⟨wrap64 ((l0.length : Int) - 1), 0⟩ : S40)⟩ : S42)]) a1 a2).bind fun t263 => (if 0 ≤ (wrap64 ((a1.size : Int) + 1)) then (if (wrap64 ((a1.size : Int) + 1) : Int).toNat ≤ 281474976710656 then (dragomanlaw06_MatchStars.l0 kj5 l0 a1 a2 t252 t263 (List.replicate (wrap64 ((a1.size : Int) + 1) : Int).toNat false) 0) else (none)) else (none))) else (none)) = some r := by first | (rw [hy257]; with_reducible exact H) | (have H2_ := (Option.bind_some _ _).symm.trans H; rw [hy257]; with_reducible exact H2_) | (have H2_ := (Option.bind_some _ _).symm.trans H; with_reducible exact H2_) | with_reducible exact H | (rw [hy257]; exact H) | exact H
          have Ny257 := Aside0.mk hy257
          clear hy257
          by_cases c14 : y257.length < 2513169434916
          · rw [if_pos c14] at H
            have LMc14 := Aside0.mk c14
            clear c14
            obtain ⟨y260, hy260⟩ : ∃ y_ : List (S42), y_ = (y257 ++ [(⟨4, (⟨0, 0, 0, 0⟩ : S39), (⟨wrap64 ((l0.length : Int) - 1), 0⟩ : S40)⟩ : S42)]) := ⟨_, rfl⟩
            replace H : ((match_Ends.f kj5 y260 a1 a2).bind fun t263 => (if 0 ≤ (wrap64 ((a1.size : Int) + 1)) then (if (wrap64 ((a1.size : Int) + 1) : Int).toNat ≤ 281474976710656 then (dragomanlaw06_MatchStars.l0 kj5 l0 a1 a2 t252 t263 (List.replicate (wrap64 ((a1.size : Int) + 1) : Int).toNat false) 0) else (none)) else (none))) = some r := by first | (rw [hy260]; with_reducible exact H) | (have H2_ := (Option.bind_some _ _).symm.trans H; rw [hy260]; with_reducible exact H2_) | (have H2_ := (Option.bind_some _ _).symm.trans H; with_reducible exact H2_) | with_reducible exact H | (rw [hy260]; exact H) | exact H
            have Ny260 := Aside0.mk hy260
            clear hy260
            replace H := Option.bind_eq_some_iff.mp H
            obtain ⟨t263, A150, H⟩ := H
            replace H : (if 0 ≤ (wrap64 ((a1.size : Int) + 1)) then (if (wrap64 ((a1.size : Int) + 1) : Int).toNat ≤ 281474976710656 then (dragomanlaw06_MatchStars.l0 kj5 l0 a1 a2 t252 t263 (List.replicate (wrap64 ((a1.size : Int) + 1) : Int).toNat false) 0) else (none)) else (none)) = some r := H
            have A15 := Aside0.mk A150
            clear A150
            obtain ⟨ji16, hji16⟩ : ∃ j_ : Int, (wrap64 ((a1.size : Int) + 1)) = j_ := ⟨_, rfl⟩
            replace H : (if 0 ≤ (ji16) then (if (ji16 : Int).toNat ≤ 281474976710656 then (dragomanlaw06_MatchStars.l0 kj5 l0 a1 a2 t252 t263 (List.replicate (ji16 : Int).toNat false) 0) else (none)) else (none)) = some r := by first | (rw [hji16] at H; exact H) | (simp only [hji16] at H ⊢; exact H)
            (try rw [hji16] at A15)
            have hji16w : (IntKind.i64.wrap ((a1.size : Int) + 1)) = ji16 := (i64_w _).trans hji16
            by_cases c17 : 0 ≤ (ji16)
            · rw [if_pos c17] at H
              have c17b0 := eq_true c17
              have c17b1 : decide (0 ≤ (ji16)) = true := decide_eq_true c17
              clear c17
              by_cases c18 : (ji16 : Int).toNat ≤ 281474976710656
              · rw [if_pos c18] at H
                have c18b0 := eq_true c18
                have c18b1 : decide ((ji16 : Int).toNat ≤ 281474976710656) = true := decide_eq_true c18
                clear c18
                obtain ⟨y266, hy266⟩ : ∃ y_ : List Bool, y_ = (List.replicate (ji16 : Int).toNat false) := ⟨_, rfl⟩
                replace H : (dragomanlaw06_MatchStars.l0 kj5 l0 a1 a2 t252 t263 y266 0) = some r := by first | (rw [hy266]; with_reducible exact H) | (have H2_ := (Option.bind_some _ _).symm.trans H; rw [hy266]; with_reducible exact H2_) | (have H2_ := (Option.bind_some _ _).symm.trans H; with_reducible exact H2_) | with_reducible exact H | (rw [hy266]; exact H) | exact H
                have Ny266 := Aside0.mk hy266
                clear hy266
                have H' := Aside0.mk H
                clear H
                go_wp2_with (first | ((with_reducible refine gate_dst (N := 39) rfl ?_); (try (refine gate_guard (by rfl) ?_; dsimp only)); refine Kd.R_lit k42 _ 42 ?hg (N := 39) ?hd (xs := ([] : List (S42))) (inner := []) (ok := fun _ => True) (okp := fun _ => True) ?hr ?hp (fun _ hk => hk) trivial (Below.refl _ _) (Nat.le_refl _) (by simp) ?_; (case hd => rfl); (case hg => rfl); (case hr => first | (go_simp; done) | (go_simp; rfl)); (case hp => exact (Reps.none _ _)); intro v255 w19 ho20 hb hg_ hnew_; clear hg_ hnew_; (first | rw [← Ny254.out] at ho20 | (simp only [Int.reduceToNat] at ho20; rw [← Ny254.out] at ho20)); have n0_ := Aside0.mk (Kd.R_lower ho20 (below_size (by repeat (first | (with_reducible first | exact HB.out | apply below_alloc | apply pw_below_drewN | apply below_drew1) | exact HB.out)))); have n1_ := Aside0.mk (below_step (by repeat (first | (with_reducible first | exact HB.out | apply below_alloc | apply pw_below_drewN | apply below_drew1) | exact HB.out)) hb); clear HB; have HO256 := n0_; have HB := n1_; clear n0_ n1_; clear hb ho20) | ((with_reducible refine gate_builtin (b := .append) (xs := #[.tmp 39, .tmp 40]) rfl ?_); (try (refine gate_guard (by rfl) ?_; dsimp only)); at_builtin; refine Kd.R_append_rows k42 (w0 := w) w.heap.size rfl (.tmp 39) (.tmp 40) 22 42 (.agg #[(.int .i64 0), (.int .u64 0), (.int .u64 0), (.int .u64 0), (.int .u64 0), (.int .i64 0), (.int .i64 0)]) 56 rfl Try.underlying22 info42 rfl (by decide) (by omega) v255 y254 l0 _ _ _ (fun _ => True) (fun _ => False) rfl rfl ?aO ?aR (fun _ _ h => h) (fun _ h => h.elim) ?aF ?aB ?aS ?aL ?_; (case aR => repeat (first | exact (Kd.C_below HR0.out HB.out) | (with_reducible refine Kd.C_alloc ?_ _) | (with_reducible refine Kd.C_drewN ?_ _) | (with_reducible refine Kd.C_drew ?_))); (case aB => exact (by repeat (first | (with_reducible first | exact HB.out | apply below_alloc | apply pw_below_drewN | apply below_drew1) | exact HB.out))); (case aF => exact (fun _ _ => trivial)); (case aO => exact (by (with_reducible repeat (first | apply Kd.R_alloc | apply Kd.R_drewN | apply Kd.R_drew)); exact HO256.out)); (case aS => exact (below_size (by repeat (first | (with_reducible first | exact HB.out | apply below_alloc | apply pw_below_drewN | apply below_drew1) | exact HB.out)))); (case aL => have := LMc13.out; omega); intro v258 w21 ho hb hg hat; rw [← Ny257.out] at ho; have n0_ := Aside0.mk (hb); have n1_ := Aside0.mk (ho); clear HB; clear HO256; have HB := n0_; have HO259 := n1_; clear n0_ n1_; clear ho hb hg hat) | ((with_reducible refine gate_builtin (b := .append) (xs := #[.tmp 41, .tmp 47]) rfl ?_); (try (refine gate_guard (by rfl) ?_; dsimp only)); at_builtin; refine Kd.R_append k42 (w0 := w) w.heap.size rfl (.tmp 41) (.tmp 47) 22 42 (.agg #[(.int .i64 0), (.int .u64 0), (.int .u64 0), (.int .u64 0), (.int .u64 0), (.int .i64 0), (.int .i64 0)]) 56 rfl Try.underlying22 info42 rfl (by decide) (by omega) v258 y257 (⟨4, (⟨0, 0, 0, 0⟩ : S39), (⟨wrap64 ((l0.length : Int) - 1), 0⟩ : S40)⟩ : S42) [.int .i64 4, .int .u64 0, .int .u64 0, .int .u64 0, .int .u64 0, .int .i64 (wrap64 ((l0.length : Int) - 1)), .int .i64 0] (fun _ => True) (fun _ => False) rfl rfl ?aP (fun _ hk => hk.elim) ?aF ?aO ?aB ?aS ?aL ?_; (case aP => exact k42_mkM _ _ _ (⟨4, (⟨0, 0, 0, 0⟩ : S39), (⟨wrap64 ((l0.length : Int) - 1), 0⟩ : S40)⟩ : S42)); (case aB => exact (by repeat (first | (with_reducible first | exact HB.out | apply below_alloc | apply pw_below_drewN | apply below_drew1) | exact HB.out))); (case aF => exact (fun _ _ => trivial)); (case aO => exact (by (with_reducible repeat (first | apply Kd.R_alloc | apply Kd.R_drewN | apply Kd.R_drew)); exact HO259.out)); (case aS => exact (below_size (by repeat (first | (with_reducible first | exact HB.out | apply below_alloc | apply pw_below_drewN | apply below_drew1) | exact HB.out)))); (case aL => have := LMc14.out; omega); intro v261 w22 ho hb hg hat; rw [← Ny260.out] at ho; have n0_ := Aside0.mk (hb); have n1_ := Aside0.mk (ho); clear HB; clear HO259; have HB := n0_; have HO262 := n1_; clear n0_ n1_; clear ho hb hg hat; obtain ⟨Ao23, co23, eo23⟩ := Kd.R_slice HO262.out; subst eo23) | ((with_reducible refine gate_callee (f := 15) rfl ?_); refine goesL_ (some 52) rfl rfl Try.func15 (by kernel_rfl) rfl #[.slice Ao23 y260.length co23, .string a1, .int .i64 a2] rfl (by (try simp only [List.map_toArray, List.map_cons, List.map_nil]); first | done | rfl | (simp only [List.length_drop, List.length_take]; rfl)) ?_; (with_reducible refine (match_Ends.calls kj5 _ _ y260 a1 a2 t263 _ ?side1 ?side2 A15.out).mono ?_); (case side1 => repeat (first | exact (Kd.R_reads' HO262.out).2.2 | (with_reducible refine Kd.C_alloc ?_ _) | (with_reducible refine Kd.C_drewN ?_ _) | (with_reducible refine Kd.C_drew ?_))); (case side2 => exact (Kd.R_reads' HO262.out).2.1); rintro e w24 ⟨v264, rfl, ho0, hb⟩; refine ⟨_, rfl, ?_⟩; have n0_ := Aside0.mk (Kd.R_below (by (with_reducible repeat (first | apply Kd.R_alloc | apply Kd.R_drewN | apply Kd.R_drew)); exact HO262.out) hb); have n1_ := Aside0.mk (Kd.R_lower ho0 (below_size (by repeat (first | (with_reducible first | exact HB.out | apply below_alloc | apply pw_below_drewN | apply below_drew1) | exact HB.out)))); have n2_ := Aside0.mk (below_step (by repeat (first | (with_reducible first | exact HB.out | apply below_alloc | apply pw_below_drewN | apply below_drew1) | exact HB.out)) hb); clear HO262; clear HB; have HO262 := n0_; have HO265 := n1_; have HB := n2_; clear n0_ n1_ n2_; (try clear hb); (try clear hb2); (try clear hk); (try clear hi); (try clear ho0)) | ((with_reducible refine gate_dst (N := 56) rfl ?_); (try (refine gate_guard (by rfl) ?_; dsimp only)); refine Kd.R_make Kd.bool _ 4 rfl (N := 56) rfl 32 _ _ rfl ji16 rfl rfl Try.underlying32 (.bool false) 1 info4 rfl (by decide) (by omega) false (ok := fun _ => True) (okp := fun _ => True) rfl (fun _ hk => hk) trivial (of_decide_eq_true (by first | (with_reducible assumption) | assumption)) (Nat.le_trans (Nat.mul_le_mul_right _ (of_decide_eq_true (by first | (with_reducible assumption) | assumption) : ji16.toNat ≤ 281474976710656)) (by omega)) (Below.refl _ _) (Nat.le_refl _) ?_; intro v267 w25 ho26 hb hg_ hnew_; clear hg_ hnew_; (first | rw [← Ny266.out] at ho26 | (simp only [Int.reduceToNat] at ho26; rw [← Ny266.out] at ho26)); have n0_ := Aside0.mk (Kd.R_below (by (with_reducible repeat (first | apply Kd.R_alloc | apply Kd.R_drewN | apply Kd.R_drew)); exact HO262.out) hb); have n1_ := Aside0.mk (Kd.R_below (by (with_reducible repeat (first | apply Kd.R_alloc | apply Kd.R_drewN | apply Kd.R_drew)); exact HO265.out) hb); have n2_ := Aside0.mk (Kd.R_lower ho26 (below_size (by repeat (first | (with_reducible first | exact HB.out | apply below_alloc | apply pw_below_drewN | apply below_drew1) | exact HB.out)))); have n3_ := Aside0.mk (below_step (by repeat (first | (with_reducible first | exact HB.out | apply below_alloc | apply pw_below_drewN | apply below_drew1) | exact HB.out)) hb); clear HO262; clear HO265; clear HB; have HO262 := n0_; have HO265 := n1_; have HO268 := n2_; have HB := n3_; clear n0_ n1_ n2_ n3_; clear hb ho26))
                go_loopg [12] kj5 (fun kq v12 w' => ∃ (x11_2 : List Bool) (x12_2 : Int), v12 = .int .i64 x12_2 ∧ Aside0 (dragomanlaw06_MatchStars.l0 kq l0 a1 a2 t252 t263 x11_2 x12_2 = some r) ∧ Aside0 (kq ≤ kj5) ∧ Aside0 (Kd.R (Kd.int .i64) 3 w' w.heap.size (fun _ => True) v264 t263) ∧ Aside0 (Kd.R Kd.bool 4 w' w.heap.size (fun _ => True) v267 x11_2) ∧ Aside0 (Below w.heap.size w w'))
                case atStart => exact ⟨(y266), (0), (by first | rfl | (simp; done) | (simp [*]; done)), H', ⟨Nat.le_refl _⟩, ⟨by (with_reducible repeat (first | apply Kd.R_alloc | apply Kd.R_drewN | apply Kd.R_drew)); exact HO265.out⟩, ⟨by (with_reducible repeat (first | apply Kd.R_alloc | apply Kd.R_drewN | apply Kd.R_drew)); exact HO268.out⟩, ⟨by repeat (first | (with_reducible first | exact HB.out | apply below_alloc | apply pw_below_drewN | apply below_drew1) | exact HB.out)⟩⟩
                case round =>
                  clear H'
                  try clear c1
                  try clear p2
                  try clear p6
                  try clear c7
                  try clear c9
                  try clear c10
                  try clear c10b0
                  try clear c10b1
                  try clear c11
                  try clear c11b0
                  try clear c12
                  try clear c13
                  try clear c14
                  try clear c15
                  try clear c17
                  try clear c17b0
                  try clear c17b1
                  try clear c18
                  try clear c18b0
                  try clear c18b1
                  try clear p2
                  obtain ⟨x11_2, x12_2, rfl, HA, HK2, HO_10, HO_11, HB⟩ := hrel
                  cases gk with
                  | zero => exact absurd HA.out (by simp [dragomanlaw06_MatchStars.l0])
                  | succ k2 =>
                    have H := HA.out
                    clear HA
                    simp only [dragomanlaw06_MatchStars.l0] at H
                    by_cases c27 : x12_2 < (t263.length : Int)
                    · rw [if_pos c27] at H
                      have c27b0 : decide (x12_2 < (t263.length : Int)) = true := decide_eq_true c27
                      clear c27
                      by_cases c28 : 0 ≤ x12_2
                      · rw [if_pos c28] at H
                        have c28b0 : decide (0 ≤ x12_2) = true := decide_eq_true c28
                        clear c28
                        by_cases c29 : 0 ≤ (rd t263 x12_2)
                        · rw [if_pos c29] at H
                          have c29b0 : decide (0 ≤ (rd t263 x12_2)) = true := decide_eq_true c29
                          clear c29
                          by_cases c30 : (rd t263 x12_2) < (x11_2.length : Int)
                          · rw [if_pos c30] at H
                            have c30b0 : decide ((rd t263 x12_2) < (x11_2.length : Int)) = true := decide_eq_true c30
                            clear c30
                            obtain ⟨y270, hy270⟩ : ∃ y_ : List Bool, y_ = (x11_2.set ((rd t263 x12_2) : Int).toNat true) := ⟨_, rfl⟩
                            replace H : (dragomanlaw06_MatchStars.l0 k2 l0 a1 a2 t252 t263 y270 (wrap64 (x12_2 + 1))) = some r := by first | (rw [hy270]; with_reducible exact H) | (have H2_ := (Option.bind_some _ _).symm.trans H; rw [hy270]; with_reducible exact H2_) | (have H2_ := (Option.bind_some _ _).symm.trans H; with_reducible exact H2_) | with_reducible exact H | (rw [hy270]; exact H) | exact H
                            have Ny270 := Aside0.mk hy270
                            clear hy270
                            have H' := Aside0.mk H
                            clear H
                            obtain ⟨Ao32, co32, eo32⟩ := Kd.R_slice HO_10.out
                            subst eo32
                            have p269 : 0 ≤ (x12_2 : Int) := of_decide_eq_true (by first | (with_reducible assumption) | assumption)
                            have q269 : x12_2 < (t263.length : Int) := of_decide_eq_true (by first | (with_reducible assumption) | assumption)
                            obtain ⟨ad269, e269, hx269_0⟩ := Kd.at_int (Kd.R_reads' HO_10.out).2.2 x12_2 p269 q269
                            cases e269
                            replace p269 := eq_true p269
                            replace q269 := eq_true q269
                            have p31 : 0 ≤ ((rd t263 x12_2) : Int) := of_decide_eq_true (by first | (with_reducible assumption) | assumption)
                            have q31 : ((rd t263 x12_2) : Int) < ((x11_2.length : Int) : Int) := of_decide_eq_true (by first | (with_reducible assumption) | assumption)
                            obtain ⟨go31, co31, eo31, gb31, gl31, cl31, HG31⟩ := Kd.R_form HO_11.out (by omega)
                            (first | cases eo31 | (injection eo31 with ea_ en_ ec_; (first | subst ea_ | (injection ea_ with ea_; subst ea_)); subst ec_; clear en_))
                            have GB31 := Aside0.mk gb31
                            have GG31 := Aside0.mk HG31
                            clear gb31 gl31 HG31
                            obtain ⟨hx31_0, hf31_0⟩ := Kd.R_celln false HO_11.out ((rd t263 x12_2) : Int) p31 q31
                            replace p31 := eq_true p31
                            replace q31 := eq_true q31
                            have HP33 := Kd.R_putg HO_11.out ((rd t263 x12_2) : Int) true
                            go_wp2_with (first | ((with_reducible refine gate_store (t := 4) (p := 68) rfl ?_); refine store_event (t := 4) (p := 68) (v := ?vo_w34) (w1 := (wr.setCell ⟨go31, ((rd t263 x12_2) : Int).toNat, none⟩ (.bool true))) ?hg ?ho ?hn ?hr ?_; (case ho => rfl); (case hg => rfl); (case hn => rfl); (case hr => first | (go_simp; done) | (go_simp; rfl)); intro w34 hw; have hg : wr.grownBy w34 (some go31) := (by rw [hw]; exact HP33.2); have hp_ : Kd.R Kd.bool 4 w34 w.heap.size (fun _ => True) (.slice (some ⟨go31, 0, none⟩) x11_2.length co31) y270 := (by rw [hw, Ny270.out]; exact HP33.1); clear HP33; have n0_ := Aside0.mk (Kd.R_over' (v := (.slice (some ⟨go31, 0, none⟩) x11_2.length co31)) (by (with_reducible repeat (first | apply Kd.R_alloc | apply Kd.R_drewN | apply Kd.R_drew)); exact HO_10.out) (Kd.R_typed HO_11.out) (by decide) hg); have n1_ := Aside0.mk (hp_); have n2_ := Aside0.mk ((by rw [hw]; exact below_set (HB.out) GB31.out : Below w.heap.size w w34)); clear HO_10; clear HO_11; clear HB; have HO_10 := n0_; have HO_11 := n1_; have HB := n2_; clear n0_ n1_ n2_; clear hg hw hp_))
                            go_roundg k2
                            case measure => have := HJ5.out; have := HK2.out; omega
                            case rel => exact ⟨(y270), (wrap64 (x12_2 + 1)), (by first | rfl | (simp; done) | (simp [*]; done)), H', ⟨by have := HJ5.out; have := HK2.out; omega⟩, ⟨by (with_reducible repeat (first | apply Kd.R_alloc | apply Kd.R_drewN | apply Kd.R_drew)); exact HO_10.out⟩, ⟨by (with_reducible repeat (first | apply Kd.R_alloc | apply Kd.R_drewN | apply Kd.R_drew)); exact HO_11.out⟩, ⟨by repeat (first | (with_reducible first | exact HB.out | apply below_alloc | apply pw_below_drewN | apply below_drew1) | exact HB.out)⟩⟩
                          · rw [if_neg c30] at H
                            exact absurd H (by simp)
                        · rw [if_neg c29] at H
                          exact absurd H (by simp)
                      · rw [if_neg c28] at H
                        exact absurd H (by simp)
                    · rw [if_neg c27] at H
                      have c27b0 : decide (x12_2 < (t263.length : Int)) = false := decide_eq_false c27
                      clear c27
                      have H' := Aside0.mk H
                      clear H
                      obtain ⟨Ao35, co35, eo35⟩ := Kd.R_slice HO_10.out
                      subst eo35
                      go_wp2
                      go_loopg [13] k2 (fun kq v13 w' => ∃ (x13_3 : Int), v13 = .int .i64 x13_3 ∧ Aside0 (dragomanlaw06_MatchStars.l1 kq l0 a1 a2 t252 t263 x11_2 x13_3 = some r) ∧ Aside0 (kq ≤ k2) ∧ Aside0 (Kd.R (Kd.int .i64) 3 w' w.heap.size (fun _ => True) (.slice Ao35 t263.length co35) t263) ∧ Aside0 (Kd.R Kd.bool 4 w' w.heap.size (fun _ => True) v267 x11_2) ∧ Aside0 (Below w.heap.size w w'))
                      case atStart => exact ⟨(0), (by first | rfl | (simp; done) | (simp [*]; done)), H', ⟨Nat.le_refl _⟩, ⟨by (with_reducible repeat (first | apply Kd.R_alloc | apply Kd.R_drewN | apply Kd.R_drew)); exact HO_10.out⟩, ⟨by (with_reducible repeat (first | apply Kd.R_alloc | apply Kd.R_drewN | apply Kd.R_drew)); exact HO_11.out⟩, ⟨by repeat (first | (with_reducible first | exact HB.out | apply below_alloc | apply pw_below_drewN | apply below_drew1) | exact HB.out)⟩⟩
                      case round =>
                        clear H'
                        try clear c1
                        try clear c2
                        try clear p2
                        try clear q2
                        try clear hx2
                        try clear c3
                        try clear p3
                        try clear q3
                        try clear hx3
                        try clear hf3
                        try clear p6
                        try clear c7
                        try clear c9
                        try clear c10
                        try clear c10b0
                        try clear c10b1
                        try clear c11
                        try clear c11b0
                        try clear c12
                        try clear c13
                        try clear c14
                        try clear c15
                        try clear c17
                        try clear c17b0
                        try clear c17b1
                        try clear c18
                        try clear c18b0
                        try clear c18b1
                        try clear p26
                        try clear q26
                        try clear hx26
                        try clear c27
                        try clear c27b0
                        try clear c28
                        try clear c28b0
                        try clear c29
                        try clear c29b0
                        try clear c30
                        try clear c30b0
                        try clear p31
                        try clear q31
                        try clear hx31
                        try clear hf31
                        try clear hx269_0
                        try clear hx31_0
                        try clear p2
                        try clear p269
                        try clear p31
                        try clear p6
                        try clear q269
                        try clear q31
                        obtain ⟨x13_3, rfl, HA, HK3, HO_10, HO_11, HB⟩ := hrel
                        cases gk with
                        | zero => exact absurd HA.out (by simp [dragomanlaw06_MatchStars.l1])
                        | succ k3 =>
                          have H := HA.out
                          clear HA
                          simp only [dragomanlaw06_MatchStars.l1] at H
                          by_cases c36 : x13_3 < (t263.length : Int)
                          · rw [if_pos c36] at H
                            have c36b0 : decide (x13_3 < (t263.length : Int)) = true := decide_eq_true c36
                            clear c36
                            by_cases c37 : 0 ≤ x13_3
                            · rw [if_pos c37] at H
                              have c37b0 : decide (0 ≤ x13_3) = true := decide_eq_true c37
                              clear c37
                              replace H := Option.bind_eq_some_iff.mp H
                              obtain ⟨t281, A380, H⟩ := H
                              replace H : (dragomanlaw06_MatchStars.l2 k3 l0 a1 a2 t252 t263 x11_2 x13_3 t281 0) = some r := H
                              have A38 := Aside0.mk A380
                              clear A380
                              have H' := Aside0.mk H
                              clear H
                              have p280 : 0 ≤ (x13_3 : Int) := of_decide_eq_true (by first | (with_reducible assumption) | assumption)
                              have q280 : x13_3 < (t263.length : Int) := of_decide_eq_true (by first | (with_reducible assumption) | assumption)
                              obtain ⟨ad280, e280, hx280_0⟩ := Kd.at_int (Kd.R_reads' HO_10.out).2.2 x13_3 p280 q280
                              cases e280
                              replace p280 := eq_true p280
                              replace q280 := eq_true q280
                              go_wp2_with (first | ((with_reducible refine gate_callee (f := 15) rfl ?_); refine goesL_ (some 81) rfl rfl Try.func15 (by kernel_rfl) rfl #[.slice A0 l0.length c0, .string a1, .int .i64 (rd t263 x13_3)] rfl (by (try simp only [List.map_toArray, List.map_cons, List.map_nil]); first | done | rfl | (simp only [List.length_drop, List.length_take]; rfl)) ?_; (with_reducible refine (match_Ends.calls k3 _ _ l0 a1 (rd t263 x13_3) t281 _ ?side1 ?side2 A38.out).mono ?_); (case side1 => repeat (first | exact (Kd.C_below HR0.out HB.out) | (with_reducible refine Kd.C_alloc ?_ _) | (with_reducible refine Kd.C_drewN ?_ _) | (with_reducible refine Kd.C_drew ?_))); (case side2 => exact HC0.out); rintro e w39 ⟨v282, rfl, ho0, hb⟩; refine ⟨_, rfl, ?_⟩; have n0_ := Aside0.mk (Kd.R_elder' (by (with_reducible repeat (first | apply Kd.R_alloc | apply Kd.R_drewN | apply Kd.R_drew)); exact HO_10.out) (Kd.R_base ho0) hb); have n1_ := Aside0.mk (Kd.R_below (by (with_reducible repeat (first | apply Kd.R_alloc | apply Kd.R_drewN | apply Kd.R_drew)); exact HO_11.out) hb); have n2_ := Aside0.mk (Kd.R_lower (Kd.R_new' ho0 (Kd.R_lt (by (with_reducible repeat (first | apply Kd.R_alloc | apply Kd.R_drewN | apply Kd.R_drew)); exact HO_10.out))) (below_size (by repeat (first | (with_reducible first | exact HB.out | apply below_alloc | apply pw_below_drewN | apply below_drew1) | exact HB.out)))); have n3_ := Aside0.mk (below_step (by repeat (first | (with_reducible first | exact HB.out | apply below_alloc | apply pw_below_drewN | apply below_drew1) | exact HB.out)) hb); clear HO_10; clear HO_11; clear HB; have HO_10 := n0_; have HO_11 := n1_; have HO283 := n2_; have HB := n3_; clear n0_ n1_ n2_ n3_; (try clear hb); (try clear hb2); (try clear hk); (try clear hi); (try clear ho0)))
                              go_loopg [15] k3 (fun kq v15 w' => ∃ (x15_4 : Int), v15 = .int .i64 x15_4 ∧ Aside0 (dragomanlaw06_MatchStars.l2 kq l0 a1 a2 t252 t263 x11_2 x13_3 t281 x15_4 = some r) ∧ Aside0 (kq ≤ k3) ∧ Aside0 (Kd.R (Kd.int .i64) 3 w' w.heap.size (fun k_ => some k_ ≠ (v282 : Value).ownBlock) (.slice (some ad280) t263.length co35) t263) ∧ Aside0 (Kd.R Kd.bool 4 w' w.heap.size (fun _ => True) v267 x11_2) ∧ Aside0 (Kd.R (Kd.int .i64) 3 w' w.heap.size (fun k_ => some k_ ≠ ((.slice (some ad280) t263.length co35) : Value).ownBlock) v282 t281) ∧ Aside0 (Below w.heap.size w w'))
                              case atStart => exact ⟨(0), (by first | rfl | (simp; done) | (simp [*]; done)), H', ⟨Nat.le_refl _⟩, ⟨by (with_reducible repeat (first | apply Kd.R_alloc | apply Kd.R_drewN | apply Kd.R_drew)); exact Kd.R_mono HO_10.out (fun _ hk => hk.2)⟩, ⟨by (with_reducible repeat (first | apply Kd.R_alloc | apply Kd.R_drewN | apply Kd.R_drew)); exact HO_11.out⟩, ⟨by (with_reducible repeat (first | apply Kd.R_alloc | apply Kd.R_drewN | apply Kd.R_drew)); exact Kd.R_mono HO283.out (fun _ hk => hk.2)⟩, ⟨by repeat (first | (with_reducible first | exact HB.out | apply below_alloc | apply pw_below_drewN | apply below_drew1) | exact HB.out)⟩⟩
                              case round =>
                                clear H'
                                try clear c1
                                try clear c2
                                try clear p2
                                try clear q2
                                try clear hx2
                                try clear c3
                                try clear p3
                                try clear q3
                                try clear hx3
                                try clear hf3
                                try clear p6
                                try clear c7
                                try clear c9
                                try clear c10
                                try clear c10b0
                                try clear c10b1
                                try clear c11
                                try clear c11b0
                                try clear c12
                                try clear c13
                                try clear c14
                                try clear c15
                                try clear c17
                                try clear c17b0
                                try clear c17b1
                                try clear c18
                                try clear c18b0
                                try clear c18b1
                                try clear p26
                                try clear q26
                                try clear hx26
                                try clear c27
                                try clear c27b0
                                try clear c28
                                try clear c28b0
                                try clear p28
                                try clear q28
                                try clear hx28
                                try clear c29
                                try clear c29b0
                                try clear c30
                                try clear c30b0
                                try clear p31
                                try clear q31
                                try clear hx31
                                try clear hf31
                                try clear c36
                                try clear c36b0
                                try clear c37
                                try clear c37b0
                                try clear hx269_0
                                try clear hx280_0
                                try clear hx31_0
                                try clear p2
                                try clear p26
                                try clear p269
                                try clear p280
                                try clear p3
                                try clear p31
                                try clear p6
                                try clear q2
                                try clear q26
                                try clear q269
                                try clear q280
                                try clear q3
                                try clear q31
                                obtain ⟨x15_4, rfl, HA, HK4, HO_10, HO_11, HO_14, HB⟩ := hrel
                                cases gk with
                                | zero => exact absurd HA.out (by simp [dragomanlaw06_MatchStars.l2])
                                | succ k4 =>
                                  have H := HA.out
                                  clear HA
                                  simp only [dragomanlaw06_MatchStars.l2] at H
                                  by_cases c40 : x15_4 < (t281.length : Int)
                                  · rw [if_pos c40] at H
                                    have c40b0 : decide (x15_4 < (t281.length : Int)) = true := decide_eq_true c40
                                    clear c40
                                    by_cases c41 : 0 ≤ x15_4
                                    · rw [if_pos c41] at H
                                      have c41b0 : decide (0 ≤ x15_4) = true := decide_eq_true c41
                                      clear c41
                                      by_cases c42 : 0 ≤ (rd t281 x15_4)
                                      · rw [if_pos c42] at H
                                        have c42b0 : decide (0 ≤ (rd t281 x15_4)) = true := decide_eq_true c42
                                        clear c42
                                        by_cases c43 : (rd t281 x15_4) < (x11_2.length : Int)
                                        · rw [if_pos c43] at H
                                          have c43b0 : decide ((rd t281 x15_4) < (x11_2.length : Int)) = true := decide_eq_true c43
                                          clear c43
                                          obtain ⟨bq44, hbq44⟩ : ∃ b_ : Bool, b_ = (rdOf false x11_2 (rd t281 x15_4)) := ⟨_, rfl⟩
                                          replace H : (if (bq44 = true) then (dragomanlaw06_MatchStars.l2 k4 l0 a1 a2 t252 t263 x11_2 x13_3 t281 (wrap64 (x15_4 + 1))) else (some false)) = some r := by rw [← hbq44] at H; exact H
                                          have Nbq44 := Aside0.mk hbq44
                                          clear hbq44
                                          by_cases c45 : (bq44 = true)
                                          · subst c45
                                            have H1 : (dragomanlaw06_MatchStars.l2 k4 l0 a1 a2 t252 t263 x11_2 x13_3 t281 (wrap64 (x15_4 + 1))) = some r := by rw [if_pos rfl] at H; exact H
                                            clear H
                                            have H := H1
                                            clear H1
                                            have H' := Aside0.mk H
                                            clear H
                                            obtain ⟨Ao46, co46, eo46⟩ := Kd.R_slice HO_14.out
                                            subst eo46
                                            have p284 : 0 ≤ (x15_4 : Int) := of_decide_eq_true (by first | (with_reducible assumption) | assumption)
                                            have q284 : x15_4 < (t281.length : Int) := of_decide_eq_true (by first | (with_reducible assumption) | assumption)
                                            obtain ⟨ad284, e284, hx284_0⟩ := Kd.at_int (Kd.R_reads' HO_14.out).2.2 x15_4 p284 q284
                                            cases e284
                                            replace p284 := eq_true p284
                                            replace q284 := eq_true q284
                                            obtain ⟨Ao47, co47, eo47⟩ := Kd.R_slice HO_11.out
                                            subst eo47
                                            have p285 : 0 ≤ ((rd t281 x15_4) : Int) := of_decide_eq_true (by first | (with_reducible assumption) | assumption)
                                            have q285 : (rd t281 x15_4) < (x11_2.length : Int) := of_decide_eq_true (by first | (with_reducible assumption) | assumption)
                                            obtain ⟨ad285, e285, hx285_0⟩ := Kd.at_bool (Kd.R_reads' HO_11.out).2.2 (rd t281 x15_4) p285 q285
                                            (try rw [← Nbq44.out] at hx285_0)
                                            cases e285
                                            replace p285 := eq_true p285
                                            replace q285 := eq_true q285
                                            go_wp2
                                            go_roundg k4
                                            case measure => have := HJ5.out; have := HK2.out; have := HK3.out; have := HK4.out; omega
                                            case rel => exact ⟨(wrap64 (x15_4 + 1)), (by first | rfl | (simp; done) | (simp [*]; done)), H', ⟨by have := HJ5.out; have := HK2.out; have := HK3.out; have := HK4.out; omega⟩, ⟨by (with_reducible repeat (first | apply Kd.R_alloc | apply Kd.R_drewN | apply Kd.R_drew)); exact HO_10.out⟩, ⟨by (with_reducible repeat (first | apply Kd.R_alloc | apply Kd.R_drewN | apply Kd.R_drew)); exact HO_11.out⟩, ⟨by (with_reducible repeat (first | apply Kd.R_alloc | apply Kd.R_drewN | apply Kd.R_drew)); exact HO_14.out⟩, ⟨by repeat (first | (with_reducible first | exact HB.out | apply below_alloc | apply pw_below_drewN | apply below_drew1) | exact HB.out)⟩⟩
                                          · replace c45 := Bool.eq_false_iff.mpr c45
                                            subst c45
                                            have H1 : (some false) = some r := by rw [if_neg (show ¬ (false = true) by decide)] at H; exact H
                                            clear H
                                            have H := H1
                                            clear H1
                                            obtain rfl := Option.some.inj H
                                            obtain ⟨Ao48, co48, eo48⟩ := Kd.R_slice HO_14.out
                                            subst eo48
                                            have p284 : 0 ≤ (x15_4 : Int) := of_decide_eq_true (by first | (with_reducible assumption) | assumption)
                                            have q284 : x15_4 < (t281.length : Int) := of_decide_eq_true (by first | (with_reducible assumption) | assumption)
                                            obtain ⟨ad284, e284, hx284_0⟩ := Kd.at_int (Kd.R_reads' HO_14.out).2.2 x15_4 p284 q284
                                            cases e284
                                            replace p284 := eq_true p284
                                            replace q284 := eq_true q284
                                            obtain ⟨Ao49, co49, eo49⟩ := Kd.R_slice HO_11.out
                                            subst eo49
                                            have p285 : 0 ≤ ((rd t281 x15_4) : Int) := of_decide_eq_true (by first | (with_reducible assumption) | assumption)
                                            have q285 : (rd t281 x15_4) < (x11_2.length : Int) := of_decide_eq_true (by first | (with_reducible assumption) | assumption)
                                            obtain ⟨ad285, e285, hx285_0⟩ := Kd.at_bool (Kd.R_reads' HO_11.out).2.2 (rd t281 x15_4) p285 q285
                                            (try rw [← Nbq44.out] at hx285_0)
                                            cases e285
                                            replace p285 := eq_true p285
                                            replace q285 := eq_true q285
                                            go_wp2
                                            go_ret
                                            exact ⟨by first | rfl | (simp [errW_none, errW_some] <;> rfl) | (simp only [← hji16]; first | rfl | (simp [errW_none, errW_some] <;> rfl)) | (simp [*, errW_none, errW_some] <;> rfl), by repeat (first | (with_reducible first | exact HB.out | apply below_alloc | apply pw_below_drewN | apply below_drew1) | exact HB.out)⟩
                                        · rw [if_neg c43] at H
                                          exact absurd H (by simp)
                                      · rw [if_neg c42] at H
                                        exact absurd H (by simp)
                                    · rw [if_neg c41] at H
                                      exact absurd H (by simp)
                                  · rw [if_neg c40] at H
                                    have c40b0 : decide (x15_4 < (t281.length : Int)) = false := decide_eq_false c40
                                    clear c40
                                    have H' := Aside0.mk H
                                    clear H
                                    obtain ⟨Ao50, co50, eo50⟩ := Kd.R_slice HO_14.out
                                    subst eo50
                                    go_wp2
                                    go_roundg k4
                                    case measure => have := HJ5.out; have := HK2.out; have := HK3.out; have := HK4.out; omega
                                    case rel => exact ⟨(wrap64 (x13_3 + 1)), (by first | rfl | (simp; done) | (simp [*]; done)), H', ⟨by have := HJ5.out; have := HK2.out; have := HK3.out; have := HK4.out; omega⟩, ⟨by (with_reducible repeat (first | apply Kd.R_alloc | apply Kd.R_drewN | apply Kd.R_drew)); exact Kd.R_mono HO_10.out (fun _ hk => trivial)⟩, ⟨by (with_reducible repeat (first | apply Kd.R_alloc | apply Kd.R_drewN | apply Kd.R_drew)); exact HO_11.out⟩, ⟨by repeat (first | (with_reducible first | exact HB.out | apply below_alloc | apply pw_below_drewN | apply below_drew1) | exact HB.out)⟩⟩
                            · rw [if_neg c37] at H
                              exact absurd H (by simp)
                          · rw [if_neg c36] at H
                            have c36b0 : decide (x13_3 < (t263.length : Int)) = false := decide_eq_false c36
                            clear c36
                            replace H := Option.bind_eq_some_iff.mp H
                            obtain ⟨⟨t271, t272, t273, t274⟩, A510, H⟩ := H
                            replace H : (if t252 = true then (if 0 ≤ a2 then (if a2 < (x11_2.length : Int) then (if rdOf false x11_2 a2 = true then ((match_Whole.f k3 (([(⟨1, (⟨t271, t272, t273, t274⟩ : S39), (⟨0, 0⟩ : S40)⟩ : S42), (⟨4, (⟨0, 0, 0, 0⟩ : S39), (⟨0, 0⟩ : S40)⟩ : S42)] : List (S42))) a1).bind fun t279 => (some t279)) else (some false)) else (none)) else (none)) else (some false)) = some r := H
                            have A51 := Aside0.mk A510
                            clear A510
                            obtain ⟨y275, hy275⟩ : ∃ y_ : List (S42), y_ = (([(⟨1, (⟨t271, t272, t273, t274⟩ : S39), (⟨0, 0⟩ : S40)⟩ : S42), (⟨4, (⟨0, 0, 0, 0⟩ : S39), (⟨0, 0⟩ : S40)⟩ : S42)] : List (S42))) := ⟨_, rfl⟩
                            replace H : (if t252 = true then (if 0 ≤ a2 then (if a2 < (x11_2.length : Int) then (if rdOf false x11_2 a2 = true then ((match_Whole.f k3 y275 a1).bind fun t279 => (some t279)) else (some false)) else (none)) else (none)) else (some false)) = some r := by first | (rw [hy275]; with_reducible exact H) | (have H2_ := (Option.bind_some _ _).symm.trans H; rw [hy275]; with_reducible exact H2_) | (have H2_ := (Option.bind_some _ _).symm.trans H; with_reducible exact H2_) | with_reducible exact H | (rw [hy275]; exact H) | exact H
                            have Ny275 := Aside0.mk hy275
                            clear hy275
                            by_cases c52 : t252 = true
                            · subst c52
                              have H1 : (if 0 ≤ a2 then (if a2 < (x11_2.length : Int) then (if rdOf false x11_2 a2 = true then ((match_Whole.f k3 y275 a1).bind fun t279 => (some t279)) else (some false)) else (none)) else (none)) = some r := by rw [if_pos rfl] at H; exact H
                              clear H
                              have H := H1
                              clear H1
                              by_cases c53 : 0 ≤ a2
                              · rw [if_pos c53] at H
                                have c53b0 : decide (0 ≤ a2) = true := decide_eq_true c53
                                clear c53
                                by_cases c54 : a2 < (x11_2.length : Int)
                                · rw [if_pos c54] at H
                                  have c54b0 : decide (a2 < (x11_2.length : Int)) = true := decide_eq_true c54
                                  clear c54
                                  obtain ⟨bq55, hbq55⟩ : ∃ b_ : Bool, b_ = (rdOf false x11_2 a2) := ⟨_, rfl⟩
                                  replace H : (if bq55 = true then ((match_Whole.f k3 y275 a1).bind fun t279 => (some t279)) else (some false)) = some r := by rw [← hbq55] at H; exact H
                                  have Nbq55 := Aside0.mk hbq55
                                  clear hbq55
                                  by_cases c56 : bq55 = true
                                  · subst c56
                                    have H1 : ((match_Whole.f k3 y275 a1).bind fun t279 => (some t279)) = some r := by rw [if_pos rfl] at H; exact H
                                    clear H
                                    have H := H1
                                    clear H1
                                    replace H := Option.bind_eq_some_iff.mp H
                                    obtain ⟨t279, A570, H⟩ := H
                                    replace H : (some t279) = some r := H
                                    have A57 := Aside0.mk A570
                                    clear A570
                                    obtain rfl := Option.some.inj H
                                    go_wp2_with (first | ((with_reducible refine gate_callee (f := 21) rfl ?_); refine goesL_ (some 97) rfl rfl Try.func21 (by kernel_rfl) rfl #[.agg #[.int .u64 0, .int .u64 0, .int .u64 0, .int .u64 0]] rfl (by (try simp only [List.map_toArray, List.map_cons, List.map_nil]); first | done | rfl | (simp only [List.length_drop, List.length_take]; rfl)) ?_; (with_reducible refine (dragomanref04_Not.calls k3 0 0 0 0 t271 t272 t273 t274 _ A51.out).mono ?_); rintro e w58 ⟨rfl, hb⟩; refine ⟨_, rfl, ?_⟩; have n0_ := Aside0.mk (Kd.R_below (by (with_reducible repeat (first | apply Kd.R_alloc | apply Kd.R_drewN | apply Kd.R_drew)); exact HO_10.out) hb); have n1_ := Aside0.mk (Kd.R_below (by (with_reducible repeat (first | apply Kd.R_alloc | apply Kd.R_drewN | apply Kd.R_drew)); exact HO_11.out) hb); have n2_ := Aside0.mk (below_step (by repeat (first | (with_reducible first | exact HB.out | apply below_alloc | apply pw_below_drewN | apply below_drew1) | exact HB.out)) hb); clear HO_10; clear HO_11; clear HB; have HO_10 := n0_; have HO_11 := n1_; have HB := n2_; clear n0_ n1_ n2_; (try clear hb); (try clear hb2); (try clear hk); (try clear hi)) | ((with_reducible refine gate_dst (N := 100) rfl ?_); (try (refine gate_guard (by rfl) ?_; dsimp only)); refine Kd.R_lit k42 _ 42 ?hg (N := 100) ?hd (xs := ([(⟨1, (⟨t271, t272, t273, t274⟩ : S39), (⟨0, 0⟩ : S40)⟩ : S42), (⟨4, (⟨0, 0, 0, 0⟩ : S39), (⟨0, 0⟩ : S40)⟩ : S42)] : List (S42))) (inner := [.int .i64 1, .int .u64 t271, .int .u64 t272, .int .u64 t273, .int .u64 t274, .int .i64 0, .int .i64 0, .int .i64 4, .int .u64 0, .int .u64 0, .int .u64 0, .int .u64 0, .int .i64 0, .int .i64 0]) (ok := fun _ => True) (okp := fun _ => True) ?hr ?hp (fun _ hk => hk) trivial (Below.refl _ _) (Nat.le_refl _) (by simp) ?_; (case hd => rfl); (case hg => rfl); (case hr => first | (go_simp; done) | (go_simp; rfl)); (case hp => exact (Reps.c7 (show Kd.M k42 _ _ _ (⟨1, (⟨t271, t272, t273, t274⟩ : S39), (⟨0, 0⟩ : S40)⟩ : S42) [.int .i64 1, .int .u64 t271, .int .u64 t272, .int .u64 t273, .int .u64 t274, .int .i64 0, .int .i64 0] from (k42_mkM _ _ _ (⟨1, (⟨t271, t272, t273, t274⟩ : S39), (⟨0, 0⟩ : S40)⟩ : S42) )) (Reps.c7 (show Kd.M k42 _ _ _ (⟨4, (⟨0, 0, 0, 0⟩ : S39), (⟨0, 0⟩ : S40)⟩ : S42) [.int .i64 4, .int .u64 0, .int .u64 0, .int .u64 0, .int .u64 0, .int .i64 0, .int .i64 0] from (k42_mkM _ _ _ (⟨4, (⟨0, 0, 0, 0⟩ : S39), (⟨0, 0⟩ : S40)⟩ : S42) )) (Reps.none _ _)))); intro v276 w59 ho60 hb hg_ hnew_; clear hg_ hnew_; (first | rw [← Ny275.out] at ho60 | (simp only [Int.reduceToNat] at ho60; rw [← Ny275.out] at ho60)); have n0_ := Aside0.mk (Kd.R_below (by (with_reducible repeat (first | apply Kd.R_alloc | apply Kd.R_drewN | apply Kd.R_drew)); exact HO_10.out) hb); have n1_ := Aside0.mk (Kd.R_below (by (with_reducible repeat (first | apply Kd.R_alloc | apply Kd.R_drewN | apply Kd.R_drew)); exact HO_11.out) hb); have n2_ := Aside0.mk (Kd.R_lower ho60 (below_size (by repeat (first | (with_reducible first | exact HB.out | apply below_alloc | apply pw_below_drewN | apply below_drew1) | exact HB.out)))); have n3_ := Aside0.mk (below_step (by repeat (first | (with_reducible first | exact HB.out | apply below_alloc | apply pw_below_drewN | apply below_drew1) | exact HB.out)) hb); clear HO_10; clear HO_11; clear HB; have HO_10 := n0_; have HO_11 := n1_; have HO277 := n2_; have HB := n3_; clear n0_ n1_ n2_ n3_; clear hb ho60; obtain ⟨Ao61, co61, eo61⟩ := Kd.R_slice HO_11.out; subst eo61; have p278 : 0 ≤ (a2 : Int) := of_decide_eq_true (by first | (with_reducible assumption) | assumption); have q278 : a2 < (x11_2.length : Int) := of_decide_eq_true (by first | (with_reducible assumption) | assumption); obtain ⟨ad278, e278, hx278_0⟩ := Kd.at_bool (Kd.R_reads' HO_11.out).2.2 a2 p278 q278; (try rw [← Nbq55.out] at hx278_0); cases e278; (try simp only [Int.toNat_natCast] at hx278_0); replace p278 := eq_true p278; replace q278 := eq_true q278; obtain ⟨Ao62, co62, eo62⟩ := Kd.R_slice HO277.out; subst eo62) | (go_at_call 20; (with_reducible refine (match_Whole.calls k3 _ _ y275 a1 t279 _ ?side1 ?side2 A57.out).mono ?_); (case side1 => repeat (first | exact (Kd.R_reads' HO277.out).2.2 | (with_reducible refine Kd.C_alloc ?_ _) | (with_reducible refine Kd.C_drewN ?_ _) | (with_reducible refine Kd.C_drew ?_))); (case side2 => exact (Kd.R_reads' HO277.out).2.1); rintro e w63 ⟨rfl, hb⟩; have n0_ := Aside0.mk (Kd.R_below (by (with_reducible repeat (first | apply Kd.R_alloc | apply Kd.R_drewN | apply Kd.R_drew)); exact HO_10.out) hb); have n1_ := Aside0.mk (Kd.R_below (by (with_reducible repeat (first | apply Kd.R_alloc | apply Kd.R_drewN | apply Kd.R_drew)); exact HO_11.out) hb); have n2_ := Aside0.mk (Kd.R_below (by (with_reducible repeat (first | apply Kd.R_alloc | apply Kd.R_drewN | apply Kd.R_drew)); exact HO277.out) hb); have n3_ := Aside0.mk (below_step (by repeat (first | (with_reducible first | exact HB.out | apply below_alloc | apply pw_below_drewN | apply below_drew1) | exact HB.out)) hb); clear HO_10; clear HO_11; clear HO277; clear HB; have HO_10 := n0_; have HO_11 := n1_; have HO277 := n2_; have HB := n3_; clear n0_ n1_ n2_ n3_; (try clear hb); (try clear hb2); (try clear hk); (try clear hi)))
                                    go_ret
                                    exact ⟨by first | rfl | (simp [errW_none, errW_some] <;> rfl) | (simp only [← hji16]; first | rfl | (simp [errW_none, errW_some] <;> rfl)) | (simp [*, errW_none, errW_some] <;> rfl), by repeat (first | (with_reducible first | exact HB.out | apply below_alloc | apply pw_below_drewN | apply below_drew1) | exact HB.out)⟩
                                  · replace c56 := Bool.eq_false_iff.mpr c56
                                    subst c56
                                    have H1 : (some false) = some r := by rw [if_neg (show ¬ (false = true) by decide)] at H; exact H
                                    clear H
                                    have H := H1
                                    clear H1
                                    obtain rfl := Option.some.inj H
                                    go_wp2_with (first | ((with_reducible refine gate_callee (f := 21) rfl ?_); refine goesL_ (some 97) rfl rfl Try.func21 (by kernel_rfl) rfl #[.agg #[.int .u64 0, .int .u64 0, .int .u64 0, .int .u64 0]] rfl (by (try simp only [List.map_toArray, List.map_cons, List.map_nil]); first | done | rfl | (simp only [List.length_drop, List.length_take]; rfl)) ?_; (with_reducible refine (dragomanref04_Not.calls k3 0 0 0 0 t271 t272 t273 t274 _ A51.out).mono ?_); rintro e w64 ⟨rfl, hb⟩; refine ⟨_, rfl, ?_⟩; have n0_ := Aside0.mk (Kd.R_below (by (with_reducible repeat (first | apply Kd.R_alloc | apply Kd.R_drewN | apply Kd.R_drew)); exact HO_10.out) hb); have n1_ := Aside0.mk (Kd.R_below (by (with_reducible repeat (first | apply Kd.R_alloc | apply Kd.R_drewN | apply Kd.R_drew)); exact HO_11.out) hb); have n2_ := Aside0.mk (below_step (by repeat (first | (with_reducible first | exact HB.out | apply below_alloc | apply pw_below_drewN | apply below_drew1) | exact HB.out)) hb); clear HO_10; clear HO_11; clear HB; have HO_10 := n0_; have HO_11 := n1_; have HB := n2_; clear n0_ n1_ n2_; (try clear hb); (try clear hb2); (try clear hk); (try clear hi)) | ((with_reducible refine gate_dst (N := 100) rfl ?_); (try (refine gate_guard (by rfl) ?_; dsimp only)); refine Kd.R_lit k42 _ 42 ?hg (N := 100) ?hd (xs := ([(⟨1, (⟨t271, t272, t273, t274⟩ : S39), (⟨0, 0⟩ : S40)⟩ : S42), (⟨4, (⟨0, 0, 0, 0⟩ : S39), (⟨0, 0⟩ : S40)⟩ : S42)] : List (S42))) (inner := [.int .i64 1, .int .u64 t271, .int .u64 t272, .int .u64 t273, .int .u64 t274, .int .i64 0, .int .i64 0, .int .i64 4, .int .u64 0, .int .u64 0, .int .u64 0, .int .u64 0, .int .i64 0, .int .i64 0]) (ok := fun _ => True) (okp := fun _ => True) ?hr ?hp (fun _ hk => hk) trivial (Below.refl _ _) (Nat.le_refl _) (by simp) ?_; (case hd => rfl); (case hg => rfl); (case hr => first | (go_simp; done) | (go_simp; rfl)); (case hp => exact (Reps.c7 (show Kd.M k42 _ _ _ (⟨1, (⟨t271, t272, t273, t274⟩ : S39), (⟨0, 0⟩ : S40)⟩ : S42) [.int .i64 1, .int .u64 t271, .int .u64 t272, .int .u64 t273, .int .u64 t274, .int .i64 0, .int .i64 0] from (k42_mkM _ _ _ (⟨1, (⟨t271, t272, t273, t274⟩ : S39), (⟨0, 0⟩ : S40)⟩ : S42) )) (Reps.c7 (show Kd.M k42 _ _ _ (⟨4, (⟨0, 0, 0, 0⟩ : S39), (⟨0, 0⟩ : S40)⟩ : S42) [.int .i64 4, .int .u64 0, .int .u64 0, .int .u64 0, .int .u64 0, .int .i64 0, .int .i64 0] from (k42_mkM _ _ _ (⟨4, (⟨0, 0, 0, 0⟩ : S39), (⟨0, 0⟩ : S40)⟩ : S42) )) (Reps.none _ _)))); intro v276 w65 ho66 hb hg_ hnew_; clear hg_ hnew_; (first | rw [← Ny275.out] at ho66 | (simp only [Int.reduceToNat] at ho66; rw [← Ny275.out] at ho66)); have n0_ := Aside0.mk (Kd.R_below (by (with_reducible repeat (first | apply Kd.R_alloc | apply Kd.R_drewN | apply Kd.R_drew)); exact HO_10.out) hb); have n1_ := Aside0.mk (Kd.R_below (by (with_reducible repeat (first | apply Kd.R_alloc | apply Kd.R_drewN | apply Kd.R_drew)); exact HO_11.out) hb); have n2_ := Aside0.mk (Kd.R_lower ho66 (below_size (by repeat (first | (with_reducible first | exact HB.out | apply below_alloc | apply pw_below_drewN | apply below_drew1) | exact HB.out)))); have n3_ := Aside0.mk (below_step (by repeat (first | (with_reducible first | exact HB.out | apply below_alloc | apply pw_below_drewN | apply below_drew1) | exact HB.out)) hb); clear HO_10; clear HO_11; clear HB; have HO_10 := n0_; have HO_11 := n1_; have HO277 := n2_; have HB := n3_; clear n0_ n1_ n2_ n3_; clear hb ho66; obtain ⟨Ao67, co67, eo67⟩ := Kd.R_slice HO_11.out; subst eo67; have p278 : 0 ≤ (a2 : Int) := of_decide_eq_true (by first | (with_reducible assumption) | assumption); have q278 : a2 < (x11_2.length : Int) := of_decide_eq_true (by first | (with_reducible assumption) | assumption); obtain ⟨ad278, e278, hx278_0⟩ := Kd.at_bool (Kd.R_reads' HO_11.out).2.2 a2 p278 q278; (try rw [← Nbq55.out] at hx278_0); cases e278; (try simp only [Int.toNat_natCast] at hx278_0); replace p278 := eq_true p278; replace q278 := eq_true q278))
                                    go_ret
                                    exact ⟨by first | rfl | (simp [errW_none, errW_some] <;> rfl) | (simp only [← hji16]; first | rfl | (simp [errW_none, errW_some] <;> rfl)) | (simp [*, errW_none, errW_some] <;> rfl), by repeat (first | (with_reducible first | exact HB.out | apply below_alloc | apply pw_below_drewN | apply below_drew1) | exact HB.out)⟩
                                · rw [if_neg c54] at H
                                  exact absurd H (by simp)
                              · rw [if_neg c53] at H
                                exact absurd H (by simp)
                            · replace c52 := Bool.eq_false_iff.mpr c52
                              subst c52
                              have H1 : (some false) = some r := by rw [if_neg (show ¬ (false = true) by decide)] at H; exact H
                              clear H
                              have H := H1
                              clear H1
                              obtain rfl := Option.some.inj H
                              go_wp2_with (first | ((with_reducible refine gate_callee (f := 21) rfl ?_); refine goesL_ (some 97) rfl rfl Try.func21 (by kernel_rfl) rfl #[.agg #[.int .u64 0, .int .u64 0, .int .u64 0, .int .u64 0]] rfl (by (try simp only [List.map_toArray, List.map_cons, List.map_nil]); first | done | rfl | (simp only [List.length_drop, List.length_take]; rfl)) ?_; (with_reducible refine (dragomanref04_Not.calls k3 0 0 0 0 t271 t272 t273 t274 _ A51.out).mono ?_); rintro e w68 ⟨rfl, hb⟩; refine ⟨_, rfl, ?_⟩; have n0_ := Aside0.mk (Kd.R_below (by (with_reducible repeat (first | apply Kd.R_alloc | apply Kd.R_drewN | apply Kd.R_drew)); exact HO_10.out) hb); have n1_ := Aside0.mk (Kd.R_below (by (with_reducible repeat (first | apply Kd.R_alloc | apply Kd.R_drewN | apply Kd.R_drew)); exact HO_11.out) hb); have n2_ := Aside0.mk (below_step (by repeat (first | (with_reducible first | exact HB.out | apply below_alloc | apply pw_below_drewN | apply below_drew1) | exact HB.out)) hb); clear HO_10; clear HO_11; clear HB; have HO_10 := n0_; have HO_11 := n1_; have HB := n2_; clear n0_ n1_ n2_; (try clear hb); (try clear hb2); (try clear hk); (try clear hi)) | ((with_reducible refine gate_dst (N := 100) rfl ?_); (try (refine gate_guard (by rfl) ?_; dsimp only)); refine Kd.R_lit k42 _ 42 ?hg (N := 100) ?hd (xs := ([(⟨1, (⟨t271, t272, t273, t274⟩ : S39), (⟨0, 0⟩ : S40)⟩ : S42), (⟨4, (⟨0, 0, 0, 0⟩ : S39), (⟨0, 0⟩ : S40)⟩ : S42)] : List (S42))) (inner := [.int .i64 1, .int .u64 t271, .int .u64 t272, .int .u64 t273, .int .u64 t274, .int .i64 0, .int .i64 0, .int .i64 4, .int .u64 0, .int .u64 0, .int .u64 0, .int .u64 0, .int .i64 0, .int .i64 0]) (ok := fun _ => True) (okp := fun _ => True) ?hr ?hp (fun _ hk => hk) trivial (Below.refl _ _) (Nat.le_refl _) (by simp) ?_; (case hd => rfl); (case hg => rfl); (case hr => first | (go_simp; done) | (go_simp; rfl)); (case hp => exact (Reps.c7 (show Kd.M k42 _ _ _ (⟨1, (⟨t271, t272, t273, t274⟩ : S39), (⟨0, 0⟩ : S40)⟩ : S42) [.int .i64 1, .int .u64 t271, .int .u64 t272, .int .u64 t273, .int .u64 t274, .int .i64 0, .int .i64 0] from (k42_mkM _ _ _ (⟨1, (⟨t271, t272, t273, t274⟩ : S39), (⟨0, 0⟩ : S40)⟩ : S42) )) (Reps.c7 (show Kd.M k42 _ _ _ (⟨4, (⟨0, 0, 0, 0⟩ : S39), (⟨0, 0⟩ : S40)⟩ : S42) [.int .i64 4, .int .u64 0, .int .u64 0, .int .u64 0, .int .u64 0, .int .i64 0, .int .i64 0] from (k42_mkM _ _ _ (⟨4, (⟨0, 0, 0, 0⟩ : S39), (⟨0, 0⟩ : S40)⟩ : S42) )) (Reps.none _ _)))); intro v276 w69 ho70 hb hg_ hnew_; clear hg_ hnew_; (first | rw [← Ny275.out] at ho70 | (simp only [Int.reduceToNat] at ho70; rw [← Ny275.out] at ho70)); have n0_ := Aside0.mk (Kd.R_below (by (with_reducible repeat (first | apply Kd.R_alloc | apply Kd.R_drewN | apply Kd.R_drew)); exact HO_10.out) hb); have n1_ := Aside0.mk (Kd.R_below (by (with_reducible repeat (first | apply Kd.R_alloc | apply Kd.R_drewN | apply Kd.R_drew)); exact HO_11.out) hb); have n2_ := Aside0.mk (Kd.R_lower ho70 (below_size (by repeat (first | (with_reducible first | exact HB.out | apply below_alloc | apply pw_below_drewN | apply below_drew1) | exact HB.out)))); have n3_ := Aside0.mk (below_step (by repeat (first | (with_reducible first | exact HB.out | apply below_alloc | apply pw_below_drewN | apply below_drew1) | exact HB.out)) hb); clear HO_10; clear HO_11; clear HB; have HO_10 := n0_; have HO_11 := n1_; have HO277 := n2_; have HB := n3_; clear n0_ n1_ n2_ n3_; clear hb ho70))
                              go_ret
                              exact ⟨by first | rfl | (simp [errW_none, errW_some] <;> rfl) | (simp only [← hji16]; first | rfl | (simp [errW_none, errW_some] <;> rfl)) | (simp [*, errW_none, errW_some] <;> rfl), by repeat (first | (with_reducible first | exact HB.out | apply below_alloc | apply pw_below_drewN | apply below_drew1) | exact HB.out)⟩
              · rw [if_neg c18] at H
                exact absurd H (by simp)
            · rw [if_neg c17] at H
              exact absurd H (by simp)
          · rw [if_neg c14] at H
            exact absurd H (by simp)
        · rw [if_neg c13] at H
          exact absurd H (by simp)

end Go.Proofs.Ytmhkofgappbpjaa.QC
