/- The Go functions of this part as Lean functions, each with a proof that a call of it comes to just what the Lean function does. Written by a program of the session's. Conditions: none but those in each theorem. -/
import Derived.Test.YtpdihjedcplmnaaDoorQAx0
import Derived.Test.YtpdihjedcplmnaaDoorQAx1
namespace Go.Proofs.YtpdihjedcplmnaaDoor.QA
open Go.Proofs.YtpdihjedcplmnaaDoor.G
open Go.RowKit Go.Proofs.YtpdihjedcplmnaaDoorW.PrintWords Go.Proofs.YtpdihjedcplmnaaDoorW.PrintLast Go.Proofs.YtpdihjedcplmnaaDoorW.PrintMore
attribute [local go_sem] max2_int min2_int max_two min_two max_three min_three max_four min_four   -- for this text's walks alone
set_option linter.unusedVariables false
set_option linter.unusedSimpArgs false

/-! ### dec_Text: function 6 -/
def dec_Text.f (k : Nat) (a0 : Int) : Option (ByteArray) := (dec_split.f a0).bind fun bt116 => ((hex_Figures.f (wrap64 (IntKind.u64.wrap (Int.tdiv bt116.1 1000000)))).bind fun t118 => (if (Int.tmod bt116.1 1000000) = 0 then (if bt116.2 = true then (if 1 + t118.size ≤ 9223372036854775807 then (some ((⟨#[45]⟩ : ByteArray) ++ t118)) else (none)) else (some t118)) else ((hex_Figures.f (wrap64 (IntKind.u64.wrap (1000000 + (Int.tmod bt116.1 1000000))))).bind fun t119 => (if 1 ≤ (t119.size : Int) then ((strings_TrimRight.f k (t119.extract 1 t119.size) (⟨#[48]⟩ : ByteArray)).bind fun t120 => (if 1 + t120.size ≤ 9223372036854775807 then (if t118.size + ((⟨#[46]⟩ : ByteArray) ++ t120).size ≤ 9223372036854775807 then (if bt116.2 = true then (if 1 + (t118 ++ ((⟨#[46]⟩ : ByteArray) ++ t120)).size ≤ 9223372036854775807 then (some ((⟨#[45]⟩ : ByteArray) ++ (t118 ++ ((⟨#[46]⟩ : ByteArray) ++ t120)))) else (none)) else (some (t118 ++ ((⟨#[46]⟩ : ByteArray) ++ t120)))) else (none)) else (none))) else (none)))))
theorem dec_Text.mono : ∀ a0 k, LeO (dec_Text.f k a0) (dec_Text.f (k + 1) a0) := by
  intro a0 k
  unfold dec_Text.f
  repeat' first
      | (with_reducible exact strings_TrimRight.mono _ _ _)
      | (with_reducible exact LeO.refl _)
      | (with_reducible exact LeO.none _)
      | (with_reducible refine LeO.ite ?_ ?_)
      | (with_reducible refine LeO.bind ?_ (fun _ => ?_))
      | exact strings_TrimRight.mono _ _ _
      | exact LeO.none _
      | refine LeO.ite ?_ ?_
      | refine LeO.bind ?_ (fun _ => ?_)
set_option maxHeartbeats 8000000 in
set_option maxRecDepth 100000 in
theorem dec_Text.calls (k : Nat) (a0 : Int) (r : ByteArray) (w : World) (hG : GT w) (h : dec_Text.f k a0 = some r) :
    Calls Tryd.prog 6 #[.int .i64 a0] w fun e w' => e = .returned (.string r) ∧ Below w.heap.size w w' := by
  have HB := Aside0.mk (Below.refl w.heap.size w)
  have H : ((dec_split.f a0).bind fun bt116 => ((hex_Figures.f (wrap64 (IntKind.u64.wrap (Int.tdiv bt116.1 1000000)))).bind fun t118 => (if (Int.tmod bt116.1 1000000) = 0 then (if bt116.2 = true then (if 1 + t118.size ≤ 9223372036854775807 then (some ((⟨#[45]⟩ : ByteArray) ++ t118)) else (none)) else (some t118)) else ((hex_Figures.f (wrap64 (IntKind.u64.wrap (1000000 + (Int.tmod bt116.1 1000000))))).bind fun t119 => (if 1 ≤ (t119.size : Int) then ((strings_TrimRight.f k (t119.extract 1 t119.size) (⟨#[48]⟩ : ByteArray)).bind fun t120 => (if 1 + t120.size ≤ 9223372036854775807 then (if t118.size + ((⟨#[46]⟩ : ByteArray) ++ t120).size ≤ 9223372036854775807 then (if bt116.2 = true then (if 1 + (t118 ++ ((⟨#[46]⟩ : ByteArray) ++ t120)).size ≤ 9223372036854775807 then (some ((⟨#[45]⟩ : ByteArray) ++ (t118 ++ ((⟨#[46]⟩ : ByteArray) ++ t120)))) else (none)) else (some (t118 ++ ((⟨#[46]⟩ : ByteArray) ++ t120)))) else (none)) else (none))) else (none)))))) = some r := h
  clear h
  replace H := Option.bind_eq_some_iff.mp H
  obtain ⟨⟨t116, t117⟩, A20, H⟩ := H
  replace H : ((hex_Figures.f (wrap64 (IntKind.u64.wrap (Int.tdiv t116 1000000)))).bind fun t118 => (if (Int.tmod t116 1000000) = 0 then (if t117 = true then (if 1 + t118.size ≤ 9223372036854775807 then (some ((⟨#[45]⟩ : ByteArray) ++ t118)) else (none)) else (some t118)) else ((hex_Figures.f (wrap64 (IntKind.u64.wrap (1000000 + (Int.tmod t116 1000000))))).bind fun t119 => (if 1 ≤ (t119.size : Int) then ((strings_TrimRight.f k (t119.extract 1 t119.size) (⟨#[48]⟩ : ByteArray)).bind fun t120 => (if 1 + t120.size ≤ 9223372036854775807 then (if t118.size + ((⟨#[46]⟩ : ByteArray) ++ t120).size ≤ 9223372036854775807 then (if t117 = true then (if 1 + (t118 ++ ((⟨#[46]⟩ : ByteArray) ++ t120)).size ≤ 9223372036854775807 then (some ((⟨#[45]⟩ : ByteArray) ++ (t118 ++ ((⟨#[46]⟩ : ByteArray) ++ t120)))) else (none)) else (some (t118 ++ ((⟨#[46]⟩ : ByteArray) ++ t120)))) else (none)) else (none))) else (none))))) = some r := H
  have A2 := Aside0.mk A20
  clear A20
  replace H := Option.bind_eq_some_iff.mp H
  obtain ⟨t118, A30, H⟩ := H
  replace H : (if (Int.tmod t116 1000000) = 0 then (if t117 = true then (if 1 + t118.size ≤ 9223372036854775807 then (some ((⟨#[45]⟩ : ByteArray) ++ t118)) else (none)) else (some t118)) else ((hex_Figures.f (wrap64 (IntKind.u64.wrap (1000000 + (Int.tmod t116 1000000))))).bind fun t119 => (if 1 ≤ (t119.size : Int) then ((strings_TrimRight.f k (t119.extract 1 t119.size) (⟨#[48]⟩ : ByteArray)).bind fun t120 => (if 1 + t120.size ≤ 9223372036854775807 then (if t118.size + ((⟨#[46]⟩ : ByteArray) ++ t120).size ≤ 9223372036854775807 then (if t117 = true then (if 1 + (t118 ++ ((⟨#[46]⟩ : ByteArray) ++ t120)).size ≤ 9223372036854775807 then (some ((⟨#[45]⟩ : ByteArray) ++ (t118 ++ ((⟨#[46]⟩ : ByteArray) ++ t120)))) else (none)) else (some (t118 ++ ((⟨#[46]⟩ : ByteArray) ++ t120)))) else (none)) else (none))) else (none)))) = some r := H
  have A3 := Aside0.mk A30
  clear A30
  by_cases c4 : (Int.tmod t116 1000000) = 0
  · rw [if_pos c4] at H
    have c4b0 : ((Int.tmod t116 1000000) == 0) = true := beq_iff_eq.mpr c4
    have c4b1 : ((Int.tmod t116 1000000) != 0) = false := bne_eq_false_iff_eq.mpr c4
    clear c4
    by_cases c5 : t117 = true
    · subst c5
      have H1 : (if 1 + t118.size ≤ 9223372036854775807 then (some ((⟨#[45]⟩ : ByteArray) ++ t118)) else (none)) = some r := by rw [if_pos rfl] at H; exact H
      clear H
      have H := H1
      clear H1
      by_cases c6 : 1 + t118.size ≤ 9223372036854775807
      · rw [if_pos c6] at H
        have c6b0 := eq_true c6
        have c6b1 : decide (1 + t118.size ≤ 9223372036854775807) = true := decide_eq_true c6
        try have c6b2 : (9223372036854775807 < 1 + t118.size) = False := eq_false (Nat.not_lt.2 c6)
        try (have c6b3 := c6b2; simp only [ByteArray.size_append, ByteArray.size_extract, Nat.min_self] at c6b3)
        try (have c6b4 := c6b2; simp only [ByteArray.size_append, ByteArray.size_extract, Nat.min_self, show (⟨#[46]⟩ : ByteArray).size = 1 from rfl] at c6b4)
        obtain rfl := Option.some.inj H
        go_enter Tryd.func6, Tryd.ntmps6
        go_wp2_with (first | ((with_reducible refine gate_callee (f := 12) rfl ?_); refine goesL_ (some 9) rfl rfl Tryd.func12 (by kernel_rfl) rfl #[.int .i64 a0] rfl (by (try simp only [List.map_toArray, List.map_cons, List.map_nil]); first | done | rfl | (simp only [List.length_drop, List.length_take]; rfl)) ?_; (with_reducible refine (dec_split.calls a0 t116 true _ A2.out).mono ?_); rintro e w' ⟨rfl, ⟨nd, rfl⟩⟩; refine ⟨_, rfl, ?_⟩) | ((with_reducible refine gate_callee (f := 13) rfl ?_); refine goesL_ (some 15) rfl rfl Tryd.func13 (by kernel_rfl) rfl #[.int .i64 (wrap64 (IntKind.u64.wrap (Int.tdiv t116 1000000)))] rfl (by (try simp only [List.map_toArray, List.map_cons, List.map_nil]); first | done | rfl | (simp only [List.length_drop, List.length_take]; rfl)) ?_; (with_reducible refine (hex_Figures.calls (wrap64 (IntKind.u64.wrap (Int.tdiv t116 1000000))) t118 _ ?side1 A3.out).mono ?_); (case side1 => refine GT.below hG ?_; repeat (first | (with_reducible first | exact HB.out | apply below_alloc | apply pw_below_drewN | apply below_drew1) | exact HB.out)); rintro e w7 ⟨rfl, hb⟩; refine ⟨_, rfl, ?_⟩; have n0_ := Aside0.mk (below_step (by repeat (first | (with_reducible first | exact HB.out | apply below_alloc | apply pw_below_drewN | apply below_drew1) | exact HB.out)) hb); clear HB; have HB := n0_; clear n0_; (try clear hb); (try clear hb2); (try clear hk); (try clear hi)))
        go_ret
        exact ⟨by first | rfl | (simp [errW_none, errW_some] <;> rfl) | (simp [*, errW_none, errW_some] <;> rfl) | (simp [*, errW_none, errW_some]; cases a0.toList <;> rfl), by repeat (first | (with_reducible first | exact HB.out | apply below_alloc | apply pw_below_drewN | apply below_drew1) | exact HB.out)⟩
      · rw [if_neg c6] at H
        exact absurd H (by simp)
    · replace c5 := Bool.eq_false_iff.mpr c5
      subst c5
      have H1 : (some t118) = some r := by rw [if_neg (show ¬ (false = true) by decide)] at H; exact H
      clear H
      have H := H1
      clear H1
      obtain rfl := Option.some.inj H
      go_enter Tryd.func6, Tryd.ntmps6
      go_wp2_with (first | ((with_reducible refine gate_callee (f := 12) rfl ?_); refine goesL_ (some 9) rfl rfl Tryd.func12 (by kernel_rfl) rfl #[.int .i64 a0] rfl (by (try simp only [List.map_toArray, List.map_cons, List.map_nil]); first | done | rfl | (simp only [List.length_drop, List.length_take]; rfl)) ?_; (with_reducible refine (dec_split.calls a0 t116 false _ A2.out).mono ?_); rintro e w' ⟨rfl, ⟨nd, rfl⟩⟩; refine ⟨_, rfl, ?_⟩) | ((with_reducible refine gate_callee (f := 13) rfl ?_); refine goesL_ (some 15) rfl rfl Tryd.func13 (by kernel_rfl) rfl #[.int .i64 (wrap64 (IntKind.u64.wrap (Int.tdiv t116 1000000)))] rfl (by (try simp only [List.map_toArray, List.map_cons, List.map_nil]); first | done | rfl | (simp only [List.length_drop, List.length_take]; rfl)) ?_; (with_reducible refine (hex_Figures.calls (wrap64 (IntKind.u64.wrap (Int.tdiv t116 1000000))) t118 _ ?side1 A3.out).mono ?_); (case side1 => refine GT.below hG ?_; repeat (first | (with_reducible first | exact HB.out | apply below_alloc | apply pw_below_drewN | apply below_drew1) | exact HB.out)); rintro e w8 ⟨rfl, hb⟩; refine ⟨_, rfl, ?_⟩; have n0_ := Aside0.mk (below_step (by repeat (first | (with_reducible first | exact HB.out | apply below_alloc | apply pw_below_drewN | apply below_drew1) | exact HB.out)) hb); clear HB; have HB := n0_; clear n0_; (try clear hb); (try clear hb2); (try clear hk); (try clear hi)))
      go_ret
      exact ⟨by first | rfl | (simp [errW_none, errW_some] <;> rfl) | (simp [*, errW_none, errW_some] <;> rfl) | (simp [*, errW_none, errW_some]; cases a0.toList <;> rfl), by repeat (first | (with_reducible first | exact HB.out | apply below_alloc | apply pw_below_drewN | apply below_drew1) | exact HB.out)⟩
  · rw [if_neg c4] at H
    have c4b0 : ((Int.tmod t116 1000000) == 0) = false := beq_eq_false_iff_ne.mpr c4
    have c4b1 : ((Int.tmod t116 1000000) != 0) = true := bne_iff_ne.mpr c4
    replace H := Option.bind_eq_some_iff.mp H
    obtain ⟨t119, A90, H⟩ := H
    replace H : (if 1 ≤ (t119.size : Int) then ((strings_TrimRight.f k (t119.extract 1 t119.size) (⟨#[48]⟩ : ByteArray)).bind fun t120 => (if 1 + t120.size ≤ 9223372036854775807 then (if t118.size + ((⟨#[46]⟩ : ByteArray) ++ t120).size ≤ 9223372036854775807 then (if t117 = true then (if 1 + (t118 ++ ((⟨#[46]⟩ : ByteArray) ++ t120)).size ≤ 9223372036854775807 then (some ((⟨#[45]⟩ : ByteArray) ++ (t118 ++ ((⟨#[46]⟩ : ByteArray) ++ t120)))) else (none)) else (some (t118 ++ ((⟨#[46]⟩ : ByteArray) ++ t120)))) else (none)) else (none))) else (none)) = some r := H
    have A9 := Aside0.mk A90
    clear A90
    by_cases c10 : 1 ≤ (t119.size : Int)
    · rw [if_pos c10] at H
      have c10b0 := eq_true c10
      have c10b1 : decide (1 ≤ (t119.size : Int)) = true := decide_eq_true c10
      clear c10
      replace H := Option.bind_eq_some_iff.mp H
      obtain ⟨t120, A110, H⟩ := H
      replace H : (if 1 + t120.size ≤ 9223372036854775807 then (if t118.size + ((⟨#[46]⟩ : ByteArray) ++ t120).size ≤ 9223372036854775807 then (if t117 = true then (if 1 + (t118 ++ ((⟨#[46]⟩ : ByteArray) ++ t120)).size ≤ 9223372036854775807 then (some ((⟨#[45]⟩ : ByteArray) ++ (t118 ++ ((⟨#[46]⟩ : ByteArray) ++ t120)))) else (none)) else (some (t118 ++ ((⟨#[46]⟩ : ByteArray) ++ t120)))) else (none)) else (none)) = some r := H
      have A11 := Aside0.mk A110
      clear A110
      by_cases c12 : 1 + t120.size ≤ 9223372036854775807
      · rw [if_pos c12] at H
        have c12b0 := eq_true c12
        have c12b1 : decide (1 + t120.size ≤ 9223372036854775807) = true := decide_eq_true c12
        try have c12b2 : (9223372036854775807 < 1 + t120.size) = False := eq_false (Nat.not_lt.2 c12)
        try (have c12b3 := c12b2; simp only [ByteArray.size_append, ByteArray.size_extract, Nat.min_self] at c12b3)
        try (have c12b4 := c12b2; simp only [ByteArray.size_append, ByteArray.size_extract, Nat.min_self, show (⟨#[46]⟩ : ByteArray).size = 1 from rfl] at c12b4)
        by_cases c13 : t118.size + ((⟨#[46]⟩ : ByteArray) ++ t120).size ≤ 9223372036854775807
        · rw [if_pos c13] at H
          have c13b0 := eq_true c13
          have c13b1 : decide (t118.size + ((⟨#[46]⟩ : ByteArray) ++ t120).size ≤ 9223372036854775807) = true := decide_eq_true c13
          try have c13b2 : (9223372036854775807 < t118.size + ((⟨#[46]⟩ : ByteArray) ++ t120).size) = False := eq_false (Nat.not_lt.2 c13)
          try (have c13b3 := c13b2; simp only [ByteArray.size_append, ByteArray.size_extract, Nat.min_self] at c13b3)
          try (have c13b4 := c13b2; simp only [ByteArray.size_append, ByteArray.size_extract, Nat.min_self, show (⟨#[46]⟩ : ByteArray).size = 1 from rfl] at c13b4)
          by_cases c14 : t117 = true
          · subst c14
            have H1 : (if 1 + (t118 ++ ((⟨#[46]⟩ : ByteArray) ++ t120)).size ≤ 9223372036854775807 then (some ((⟨#[45]⟩ : ByteArray) ++ (t118 ++ ((⟨#[46]⟩ : ByteArray) ++ t120)))) else (none)) = some r := by rw [if_pos rfl] at H; exact H
            clear H
            have H := H1
            clear H1
            by_cases c15 : 1 + (t118 ++ ((⟨#[46]⟩ : ByteArray) ++ t120)).size ≤ 9223372036854775807
            · rw [if_pos c15] at H
              have c15b0 := eq_true c15
              have c15b1 : decide (1 + (t118 ++ ((⟨#[46]⟩ : ByteArray) ++ t120)).size ≤ 9223372036854775807) = true := decide_eq_true c15
              try have c15b2 : (9223372036854775807 < 1 + (t118 ++ ((⟨#[46]⟩ : ByteArray) ++ t120)).size) = False := eq_false (Nat.not_lt.2 c15)
              try (have c15b3 := c15b2; simp only [ByteArray.size_append, ByteArray.size_extract, Nat.min_self] at c15b3)
              try (have c15b4 := c15b2; simp only [ByteArray.size_append, ByteArray.size_extract, Nat.min_self, show (⟨#[46]⟩ : ByteArray).size = 1 from rfl] at c15b4)
              obtain rfl := Option.some.inj H
              go_enter Tryd.func6, Tryd.ntmps6
              go_wp2_with (first | ((with_reducible refine gate_callee (f := 12) rfl ?_); refine goesL_ (some 9) rfl rfl Tryd.func12 (by kernel_rfl) rfl #[.int .i64 a0] rfl (by (try simp only [List.map_toArray, List.map_cons, List.map_nil]); first | done | rfl | (simp only [List.length_drop, List.length_take]; rfl)) ?_; (with_reducible refine (dec_split.calls a0 t116 true _ A2.out).mono ?_); rintro e w' ⟨rfl, ⟨nd, rfl⟩⟩; refine ⟨_, rfl, ?_⟩) | ((with_reducible refine gate_callee (f := 13) rfl ?_); refine goesL_ (some 15) rfl rfl Tryd.func13 (by kernel_rfl) rfl #[.int .i64 (wrap64 (IntKind.u64.wrap (Int.tdiv t116 1000000)))] rfl (by (try simp only [List.map_toArray, List.map_cons, List.map_nil]); first | done | rfl | (simp only [List.length_drop, List.length_take]; rfl)) ?_; (with_reducible refine (hex_Figures.calls (wrap64 (IntKind.u64.wrap (Int.tdiv t116 1000000))) t118 _ ?side1 A3.out).mono ?_); (case side1 => refine GT.below hG ?_; repeat (first | (with_reducible first | exact HB.out | apply below_alloc | apply pw_below_drewN | apply below_drew1) | exact HB.out)); rintro e w16 ⟨rfl, hb⟩; refine ⟨_, rfl, ?_⟩; have n0_ := Aside0.mk (below_step (by repeat (first | (with_reducible first | exact HB.out | apply below_alloc | apply pw_below_drewN | apply below_drew1) | exact HB.out)) hb); clear HB; have HB := n0_; clear n0_; (try clear hb); (try clear hb2); (try clear hk); (try clear hi)) | ((with_reducible refine gate_callee (f := 13) rfl ?_); refine goesL_ (some 24) rfl rfl Tryd.func13 (by kernel_rfl) rfl #[.int .i64 (wrap64 (IntKind.u64.wrap (1000000 + (Int.tmod t116 1000000))))] rfl (by (try simp only [List.map_toArray, List.map_cons, List.map_nil]); first | done | rfl | (simp only [List.length_drop, List.length_take]; rfl)) ?_; (with_reducible refine (hex_Figures.calls (wrap64 (IntKind.u64.wrap (1000000 + (Int.tmod t116 1000000)))) t119 _ ?side1 A9.out).mono ?_); (case side1 => refine GT.below hG ?_; repeat (first | (with_reducible first | exact HB.out | apply below_alloc | apply pw_below_drewN | apply below_drew1) | exact HB.out)); rintro e w17 ⟨rfl, hb⟩; refine ⟨_, rfl, ?_⟩; have n0_ := Aside0.mk (below_step (by repeat (first | (with_reducible first | exact HB.out | apply below_alloc | apply pw_below_drewN | apply below_drew1) | exact HB.out)) hb); clear HB; have HB := n0_; clear n0_; (try clear hb); (try clear hb2); (try clear hk); (try clear hi)) | ((with_reducible refine gate_callee (f := 14) rfl ?_); refine goesL_ (some 26) rfl rfl Tryd.func14 (by kernel_rfl) rfl #[.string (t119.extract 1 t119.size), .string (⟨#[48]⟩ : ByteArray)] rfl (by (try simp only [List.map_toArray, List.map_cons, List.map_nil]); first | done | rfl | (simp only [List.length_drop, List.length_take]; rfl)) ?_; (with_reducible refine (strings_TrimRight.calls k (t119.extract 1 t119.size) (⟨#[48]⟩ : ByteArray) t120 _ A11.out).mono ?_); rintro e w18 ⟨rfl, hb⟩; refine ⟨_, rfl, ?_⟩; have n0_ := Aside0.mk (below_step (by repeat (first | (with_reducible first | exact HB.out | apply below_alloc | apply pw_below_drewN | apply below_drew1) | exact HB.out)) hb); clear HB; have HB := n0_; clear n0_; (try clear hb); (try clear hb2); (try clear hk); (try clear hi)))
              go_ret
              exact ⟨by first | rfl | (simp [errW_none, errW_some] <;> rfl) | (simp [*, errW_none, errW_some] <;> rfl) | (simp [*, errW_none, errW_some]; cases a0.toList <;> rfl), by repeat (first | (with_reducible first | exact HB.out | apply below_alloc | apply pw_below_drewN | apply below_drew1) | exact HB.out)⟩
            · rw [if_neg c15] at H
              exact absurd H (by simp)
          · replace c14 := Bool.eq_false_iff.mpr c14
            subst c14
            have H1 : (some (t118 ++ ((⟨#[46]⟩ : ByteArray) ++ t120))) = some r := by rw [if_neg (show ¬ (false = true) by decide)] at H; exact H
            clear H
            have H := H1
            clear H1
            obtain rfl := Option.some.inj H
            go_enter Tryd.func6, Tryd.ntmps6
            go_wp2_with (first | ((with_reducible refine gate_callee (f := 12) rfl ?_); refine goesL_ (some 9) rfl rfl Tryd.func12 (by kernel_rfl) rfl #[.int .i64 a0] rfl (by (try simp only [List.map_toArray, List.map_cons, List.map_nil]); first | done | rfl | (simp only [List.length_drop, List.length_take]; rfl)) ?_; (with_reducible refine (dec_split.calls a0 t116 false _ A2.out).mono ?_); rintro e w' ⟨rfl, ⟨nd, rfl⟩⟩; refine ⟨_, rfl, ?_⟩) | ((with_reducible refine gate_callee (f := 13) rfl ?_); refine goesL_ (some 15) rfl rfl Tryd.func13 (by kernel_rfl) rfl #[.int .i64 (wrap64 (IntKind.u64.wrap (Int.tdiv t116 1000000)))] rfl (by (try simp only [List.map_toArray, List.map_cons, List.map_nil]); first | done | rfl | (simp only [List.length_drop, List.length_take]; rfl)) ?_; (with_reducible refine (hex_Figures.calls (wrap64 (IntKind.u64.wrap (Int.tdiv t116 1000000))) t118 _ ?side1 A3.out).mono ?_); (case side1 => refine GT.below hG ?_; repeat (first | (with_reducible first | exact HB.out | apply below_alloc | apply pw_below_drewN | apply below_drew1) | exact HB.out)); rintro e w19 ⟨rfl, hb⟩; refine ⟨_, rfl, ?_⟩; have n0_ := Aside0.mk (below_step (by repeat (first | (with_reducible first | exact HB.out | apply below_alloc | apply pw_below_drewN | apply below_drew1) | exact HB.out)) hb); clear HB; have HB := n0_; clear n0_; (try clear hb); (try clear hb2); (try clear hk); (try clear hi)) | ((with_reducible refine gate_callee (f := 13) rfl ?_); refine goesL_ (some 24) rfl rfl Tryd.func13 (by kernel_rfl) rfl #[.int .i64 (wrap64 (IntKind.u64.wrap (1000000 + (Int.tmod t116 1000000))))] rfl (by (try simp only [List.map_toArray, List.map_cons, List.map_nil]); first | done | rfl | (simp only [List.length_drop, List.length_take]; rfl)) ?_; (with_reducible refine (hex_Figures.calls (wrap64 (IntKind.u64.wrap (1000000 + (Int.tmod t116 1000000)))) t119 _ ?side1 A9.out).mono ?_); (case side1 => refine GT.below hG ?_; repeat (first | (with_reducible first | exact HB.out | apply below_alloc | apply pw_below_drewN | apply below_drew1) | exact HB.out)); rintro e w20 ⟨rfl, hb⟩; refine ⟨_, rfl, ?_⟩; have n0_ := Aside0.mk (below_step (by repeat (first | (with_reducible first | exact HB.out | apply below_alloc | apply pw_below_drewN | apply below_drew1) | exact HB.out)) hb); clear HB; have HB := n0_; clear n0_; (try clear hb); (try clear hb2); (try clear hk); (try clear hi)) | ((with_reducible refine gate_callee (f := 14) rfl ?_); refine goesL_ (some 26) rfl rfl Tryd.func14 (by kernel_rfl) rfl #[.string (t119.extract 1 t119.size), .string (⟨#[48]⟩ : ByteArray)] rfl (by (try simp only [List.map_toArray, List.map_cons, List.map_nil]); first | done | rfl | (simp only [List.length_drop, List.length_take]; rfl)) ?_; (with_reducible refine (strings_TrimRight.calls k (t119.extract 1 t119.size) (⟨#[48]⟩ : ByteArray) t120 _ A11.out).mono ?_); rintro e w21 ⟨rfl, hb⟩; refine ⟨_, rfl, ?_⟩; have n0_ := Aside0.mk (below_step (by repeat (first | (with_reducible first | exact HB.out | apply below_alloc | apply pw_below_drewN | apply below_drew1) | exact HB.out)) hb); clear HB; have HB := n0_; clear n0_; (try clear hb); (try clear hb2); (try clear hk); (try clear hi)))
            go_ret
            exact ⟨by first | rfl | (simp [errW_none, errW_some] <;> rfl) | (simp [*, errW_none, errW_some] <;> rfl) | (simp [*, errW_none, errW_some]; cases a0.toList <;> rfl), by repeat (first | (with_reducible first | exact HB.out | apply below_alloc | apply pw_below_drewN | apply below_drew1) | exact HB.out)⟩
        · rw [if_neg c13] at H
          exact absurd H (by simp)
      · rw [if_neg c12] at H
        exact absurd H (by simp)
    · rw [if_neg c10] at H
      exact absurd H (by simp)

/-! ### dragomanlaw03_ValueOrder: function 3 -/
def dragomanlaw03_ValueOrder.f (k : Nat) (a0 : Int) (a1 : Int) (a2 : ByteArray) : Option (Bool) := (dragomanlaw03_shown.f k).bind fun t121 => (if (a2.size : Int) > 200 then (some t121) else ((dec_Text.f k a0).bind fun t122 => ((dec_Text.f k a1).bind fun t123 => ((value_Compare.f k t122 t123).bind fun t124 => (if 1 + a2.size ≤ 9223372036854775807 then (if t121 = true then (if ((decide (t124 > 0)) == (decide (a0 > a1))) = true then (if ((decide (t124 < 0)) == (decide (a0 < a1))) = true then (if ((⟨#[120]⟩ : ByteArray) ++ a2).size + 1 ≤ 9223372036854775807 then ((value_Compare.f k ((⟨#[120]⟩ : ByteArray) ++ a2) (((⟨#[120]⟩ : ByteArray) ++ a2) ++ (⟨#[97]⟩ : ByteArray))).bind fun t125 => (if t125 = (-1) then ((value_Compare.f k (⟨#[121]⟩ : ByteArray) ((⟨#[120]⟩ : ByteArray) ++ a2)).bind fun t126 => (some (t126 == 1))) else (some false))) else (none)) else (some false)) else (some false)) else (some false)) else (none))))))
theorem dragomanlaw03_ValueOrder.mono : ∀ a0 a1 a2 k, LeO (dragomanlaw03_ValueOrder.f k a0 a1 a2) (dragomanlaw03_ValueOrder.f (k + 1) a0 a1 a2) := by
  intro a0 a1 a2 k
  unfold dragomanlaw03_ValueOrder.f
  repeat' first
      | (with_reducible exact dec_Text.mono _ _)
      | (with_reducible exact dragomanlaw03_shown.mono _)
      | (with_reducible exact value_Compare.mono _ _ _)
      | (with_reducible exact LeO.refl _)
      | (with_reducible exact LeO.none _)
      | (with_reducible refine LeO.ite ?_ ?_)
      | (with_reducible refine LeO.bind ?_ (fun _ => ?_))
      | exact dec_Text.mono _ _
      | exact dragomanlaw03_shown.mono _
      | exact value_Compare.mono _ _ _
      | exact LeO.none _
      | refine LeO.ite ?_ ?_
      | refine LeO.bind ?_ (fun _ => ?_)
set_option maxHeartbeats 8000000 in
set_option maxRecDepth 100000 in
theorem dragomanlaw03_ValueOrder.calls (k : Nat) (a0 : Int) (a1 : Int) (a2 : ByteArray) (r : Bool) (w : World) (hG : GT w) (h : dragomanlaw03_ValueOrder.f k a0 a1 a2 = some r) :
    Calls Tryd.prog 3 #[.int .i64 a0, .int .i64 a1, .string a2] w fun e w' => e = .returned (.bool r) ∧ Below w.heap.size w w' := by
  have HB := Aside0.mk (Below.refl w.heap.size w)
  have H : ((dragomanlaw03_shown.f k).bind fun t121 => (if (a2.size : Int) > 200 then (some t121) else ((dec_Text.f k a0).bind fun t122 => ((dec_Text.f k a1).bind fun t123 => ((value_Compare.f k t122 t123).bind fun t124 => (if 1 + a2.size ≤ 9223372036854775807 then (if t121 = true then (if ((decide (t124 > 0)) == (decide (a0 > a1))) = true then (if ((decide (t124 < 0)) == (decide (a0 < a1))) = true then (if ((⟨#[120]⟩ : ByteArray) ++ a2).size + 1 ≤ 9223372036854775807 then ((value_Compare.f k ((⟨#[120]⟩ : ByteArray) ++ a2) (((⟨#[120]⟩ : ByteArray) ++ a2) ++ (⟨#[97]⟩ : ByteArray))).bind fun t125 => (if t125 = (-1) then ((value_Compare.f k (⟨#[121]⟩ : ByteArray) ((⟨#[120]⟩ : ByteArray) ++ a2)).bind fun t126 => (some (t126 == 1))) else (some false))) else (none)) else (some false)) else (some false)) else (some false)) else (none))))))) = some r := h
  clear h
  replace H := Option.bind_eq_some_iff.mp H
  obtain ⟨t121, A40, H⟩ := H
  replace H : (if (a2.size : Int) > 200 then (some t121) else ((dec_Text.f k a0).bind fun t122 => ((dec_Text.f k a1).bind fun t123 => ((value_Compare.f k t122 t123).bind fun t124 => (if 1 + a2.size ≤ 9223372036854775807 then (if t121 = true then (if ((decide (t124 > 0)) == (decide (a0 > a1))) = true then (if ((decide (t124 < 0)) == (decide (a0 < a1))) = true then (if ((⟨#[120]⟩ : ByteArray) ++ a2).size + 1 ≤ 9223372036854775807 then ((value_Compare.f k ((⟨#[120]⟩ : ByteArray) ++ a2) (((⟨#[120]⟩ : ByteArray) ++ a2) ++ (⟨#[97]⟩ : ByteArray))).bind fun t125 => (if t125 = (-1) then ((value_Compare.f k (⟨#[121]⟩ : ByteArray) ((⟨#[120]⟩ : ByteArray) ++ a2)).bind fun t126 => (some (t126 == 1))) else (some false))) else (none)) else (some false)) else (some false)) else (some false)) else (none)))))) = some r := H
  have A4 := Aside0.mk A40
  clear A40
  by_cases c5 : (a2.size : Int) > 200
  · rw [if_pos c5] at H
    have c5b0 : decide (200 < (a2.size : Int)) = true := decide_eq_true c5
    have c5b1 : decide (200 < a2.size) = true := decide_eq_true (by omega)
    clear c5
    obtain rfl := Option.some.inj H
    go_enter Tryd.func3, Tryd.ntmps3
    go_wp2_with (first | ((with_reducible refine gate_callee (f := 4) rfl ?_); refine goesL_ (some 12) rfl rfl Tryd.func4 (by kernel_rfl) rfl #[] rfl (by (try simp only [List.map_toArray, List.map_cons, List.map_nil]); first | done | rfl | (simp only [List.length_drop, List.length_take]; rfl)) ?_; (with_reducible refine (dragomanlaw03_shown.calls k  t121 _ A4.out).mono ?_); rintro e w6 ⟨rfl, hb⟩; refine ⟨_, rfl, ?_⟩; have n0_ := Aside0.mk (below_step (by repeat (first | (with_reducible first | exact HB.out | apply below_alloc | apply pw_below_drewN | apply below_drew1) | exact HB.out)) hb); clear HB; have HB := n0_; clear n0_; (try clear hb); (try clear hb2); (try clear hk); (try clear hi)))
    go_ret
    exact ⟨by first | rfl | (simp [errW_none, errW_some] <;> rfl) | (simp [*, errW_none, errW_some] <;> rfl) | (simp [*, errW_none, errW_some]; cases a0.toList <;> rfl), by repeat (first | (with_reducible first | exact HB.out | apply below_alloc | apply pw_below_drewN | apply below_drew1) | exact HB.out)⟩
  · rw [if_neg c5] at H
    have c5b0 : decide (200 < (a2.size : Int)) = false := decide_eq_false c5
    have c5b1 : decide (200 < a2.size) = false := decide_eq_false (by omega)
    clear c5
    replace H := Option.bind_eq_some_iff.mp H
    obtain ⟨t122, A70, H⟩ := H
    replace H : ((dec_Text.f k a1).bind fun t123 => ((value_Compare.f k t122 t123).bind fun t124 => (if 1 + a2.size ≤ 9223372036854775807 then (if t121 = true then (if ((decide (t124 > 0)) == (decide (a0 > a1))) = true then (if ((decide (t124 < 0)) == (decide (a0 < a1))) = true then (if ((⟨#[120]⟩ : ByteArray) ++ a2).size + 1 ≤ 9223372036854775807 then ((value_Compare.f k ((⟨#[120]⟩ : ByteArray) ++ a2) (((⟨#[120]⟩ : ByteArray) ++ a2) ++ (⟨#[97]⟩ : ByteArray))).bind fun t125 => (if t125 = (-1) then ((value_Compare.f k (⟨#[121]⟩ : ByteArray) ((⟨#[120]⟩ : ByteArray) ++ a2)).bind fun t126 => (some (t126 == 1))) else (some false))) else (none)) else (some false)) else (some false)) else (some false)) else (none)))) = some r := H
    have A7 := Aside0.mk A70
    clear A70
    replace H := Option.bind_eq_some_iff.mp H
    obtain ⟨t123, A80, H⟩ := H
    replace H : ((value_Compare.f k t122 t123).bind fun t124 => (if 1 + a2.size ≤ 9223372036854775807 then (if t121 = true then (if ((decide (t124 > 0)) == (decide (a0 > a1))) = true then (if ((decide (t124 < 0)) == (decide (a0 < a1))) = true then (if ((⟨#[120]⟩ : ByteArray) ++ a2).size + 1 ≤ 9223372036854775807 then ((value_Compare.f k ((⟨#[120]⟩ : ByteArray) ++ a2) (((⟨#[120]⟩ : ByteArray) ++ a2) ++ (⟨#[97]⟩ : ByteArray))).bind fun t125 => (if t125 = (-1) then ((value_Compare.f k (⟨#[121]⟩ : ByteArray) ((⟨#[120]⟩ : ByteArray) ++ a2)).bind fun t126 => (some (t126 == 1))) else (some false))) else (none)) else (some false)) else (some false)) else (some false)) else (none))) = some r := H
    have A8 := Aside0.mk A80
    clear A80
    replace H := Option.bind_eq_some_iff.mp H
    obtain ⟨t124, A90, H⟩ := H
    replace H : (if 1 + a2.size ≤ 9223372036854775807 then (if t121 = true then (if ((decide (t124 > 0)) == (decide (a0 > a1))) = true then (if ((decide (t124 < 0)) == (decide (a0 < a1))) = true then (if ((⟨#[120]⟩ : ByteArray) ++ a2).size + 1 ≤ 9223372036854775807 then ((value_Compare.f k ((⟨#[120]⟩ : ByteArray) ++ a2) (((⟨#[120]⟩ : ByteArray) ++ a2) ++ (⟨#[97]⟩ : ByteArray))).bind fun t125 => (if t125 = (-1) then ((value_Compare.f k (⟨#[121]⟩ : ByteArray) ((⟨#[120]⟩ : ByteArray) ++ a2)).bind fun t126 => (some (t126 == 1))) else (some false))) else (none)) else (some false)) else (some false)) else (some false)) else (none)) = some r := H
    have A9 := Aside0.mk A90
    clear A90
    by_cases c10 : 1 + a2.size ≤ 9223372036854775807
    · rw [if_pos c10] at H
      have c10b0 := eq_true c10
      have c10b1 : decide (1 + a2.size ≤ 9223372036854775807) = true := decide_eq_true c10
      try have c10b2 : (9223372036854775807 < 1 + a2.size) = False := eq_false (Nat.not_lt.2 c10)
      try (have c10b3 := c10b2; simp only [ByteArray.size_append, ByteArray.size_extract, Nat.min_self] at c10b3)
      try (have c10b4 := c10b2; simp only [ByteArray.size_append, ByteArray.size_extract, Nat.min_self, show (⟨#[46]⟩ : ByteArray).size = 1 from rfl] at c10b4)
      by_cases c11 : t121 = true
      · subst c11
        have H1 : (if ((decide (t124 > 0)) == (decide (a0 > a1))) = true then (if ((decide (t124 < 0)) == (decide (a0 < a1))) = true then (if ((⟨#[120]⟩ : ByteArray) ++ a2).size + 1 ≤ 9223372036854775807 then ((value_Compare.f k ((⟨#[120]⟩ : ByteArray) ++ a2) (((⟨#[120]⟩ : ByteArray) ++ a2) ++ (⟨#[97]⟩ : ByteArray))).bind fun t125 => (if t125 = (-1) then ((value_Compare.f k (⟨#[121]⟩ : ByteArray) ((⟨#[120]⟩ : ByteArray) ++ a2)).bind fun t126 => (some (t126 == 1))) else (some false))) else (none)) else (some false)) else (some false)) = some r := by rw [if_pos rfl] at H; exact H
        clear H
        have H := H1
        clear H1
        by_cases c12 : ((decide (t124 > 0)) == (decide (a0 > a1))) = true
        · rw [if_pos c12] at H
          have c12b0 : ((decide (t124 > 0)) == (decide (a0 > a1))) = true := c12
          (try (have c12b1 : decide ((decide (t124 > 0)) = (decide (a0 > a1))) = true := by simpa using c12))
          (try (have c12b2 : ((decide (t124 > 0)) == (decide (a0 > a1))) = true := by simpa using c12))
          clear c12
          by_cases c13 : ((decide (t124 < 0)) == (decide (a0 < a1))) = true
          · rw [if_pos c13] at H
            have c13b0 : ((decide (t124 < 0)) == (decide (a0 < a1))) = true := c13
            (try (have c13b1 : decide ((decide (t124 < 0)) = (decide (a0 < a1))) = true := by simpa using c13))
            (try (have c13b2 : ((decide (t124 < 0)) == (decide (a0 < a1))) = true := by simpa using c13))
            clear c13
            by_cases c14 : ((⟨#[120]⟩ : ByteArray) ++ a2).size + 1 ≤ 9223372036854775807
            · rw [if_pos c14] at H
              have c14b0 := eq_true c14
              have c14b1 : decide (((⟨#[120]⟩ : ByteArray) ++ a2).size + 1 ≤ 9223372036854775807) = true := decide_eq_true c14
              try have c14b2 : (9223372036854775807 < ((⟨#[120]⟩ : ByteArray) ++ a2).size + 1) = False := eq_false (Nat.not_lt.2 c14)
              try (have c14b3 := c14b2; simp only [ByteArray.size_append, ByteArray.size_extract, Nat.min_self] at c14b3)
              try (have c14b4 := c14b2; simp only [ByteArray.size_append, ByteArray.size_extract, Nat.min_self, show (⟨#[46]⟩ : ByteArray).size = 1 from rfl] at c14b4)
              replace H := Option.bind_eq_some_iff.mp H
              obtain ⟨t125, A150, H⟩ := H
              replace H : (if t125 = (-1) then ((value_Compare.f k (⟨#[121]⟩ : ByteArray) ((⟨#[120]⟩ : ByteArray) ++ a2)).bind fun t126 => (some (t126 == 1))) else (some false)) = some r := H
              have A15 := Aside0.mk A150
              clear A150
              by_cases c16 : t125 = (-1)
              · rw [if_pos c16] at H
                have c16b0 : (t125 == (-1)) = true := beq_iff_eq.mpr c16
                have c16b1 : (t125 != (-1)) = false := bne_eq_false_iff_eq.mpr c16
                clear c16
                replace H := Option.bind_eq_some_iff.mp H
                obtain ⟨t126, A170, H⟩ := H
                replace H : (some (t126 == 1)) = some r := H
                have A17 := Aside0.mk A170
                clear A170
                obtain rfl := Option.some.inj H
                go_enter Tryd.func3, Tryd.ntmps3
                go_wp2_with (first | ((with_reducible refine gate_callee (f := 4) rfl ?_); refine goesL_ (some 12) rfl rfl Tryd.func4 (by kernel_rfl) rfl #[] rfl (by (try simp only [List.map_toArray, List.map_cons, List.map_nil]); first | done | rfl | (simp only [List.length_drop, List.length_take]; rfl)) ?_; (with_reducible refine (dragomanlaw03_shown.calls k  true _ A4.out).mono ?_); rintro e w18 ⟨rfl, hb⟩; refine ⟨_, rfl, ?_⟩; have n0_ := Aside0.mk (below_step (by repeat (first | (with_reducible first | exact HB.out | apply below_alloc | apply pw_below_drewN | apply below_drew1) | exact HB.out)) hb); clear HB; have HB := n0_; clear n0_; (try clear hb); (try clear hb2); (try clear hk); (try clear hi)) | ((with_reducible refine gate_callee (f := 6) rfl ?_); refine goesL_ (some 18) rfl rfl Tryd.func6 (by kernel_rfl) rfl #[.int .i64 a0] rfl (by (try simp only [List.map_toArray, List.map_cons, List.map_nil]); first | done | rfl | (simp only [List.length_drop, List.length_take]; rfl)) ?_; (with_reducible refine (dec_Text.calls k a0 t122 _ ?side1 A7.out).mono ?_); (case side1 => refine GT.below hG ?_; repeat (first | (with_reducible first | exact HB.out | apply below_alloc | apply pw_below_drewN | apply below_drew1) | exact HB.out)); rintro e w19 ⟨rfl, hb⟩; refine ⟨_, rfl, ?_⟩; have n0_ := Aside0.mk (below_step (by repeat (first | (with_reducible first | exact HB.out | apply below_alloc | apply pw_below_drewN | apply below_drew1) | exact HB.out)) hb); clear HB; have HB := n0_; clear n0_; (try clear hb); (try clear hb2); (try clear hk); (try clear hi)) | ((with_reducible refine gate_callee (f := 6) rfl ?_); refine goesL_ (some 20) rfl rfl Tryd.func6 (by kernel_rfl) rfl #[.int .i64 a1] rfl (by (try simp only [List.map_toArray, List.map_cons, List.map_nil]); first | done | rfl | (simp only [List.length_drop, List.length_take]; rfl)) ?_; (with_reducible refine (dec_Text.calls k a1 t123 _ ?side1 A8.out).mono ?_); (case side1 => refine GT.below hG ?_; repeat (first | (with_reducible first | exact HB.out | apply below_alloc | apply pw_below_drewN | apply below_drew1) | exact HB.out)); rintro e w20 ⟨rfl, hb⟩; refine ⟨_, rfl, ?_⟩; have n0_ := Aside0.mk (below_step (by repeat (first | (with_reducible first | exact HB.out | apply below_alloc | apply pw_below_drewN | apply below_drew1) | exact HB.out)) hb); clear HB; have HB := n0_; clear n0_; (try clear hb); (try clear hb2); (try clear hk); (try clear hi)) | ((with_reducible refine gate_callee (f := 5) rfl ?_); refine goesL_ (some 21) rfl rfl Tryd.func5 (by kernel_rfl) rfl #[.string t122, .string t123] rfl (by (try simp only [List.map_toArray, List.map_cons, List.map_nil]); first | done | rfl | (simp only [List.length_drop, List.length_take]; rfl)) ?_; (with_reducible refine (value_Compare.calls k t122 t123 t124 _ A9.out).mono ?_); rintro e w21 ⟨rfl, hb⟩; refine ⟨_, rfl, ?_⟩; have n0_ := Aside0.mk (below_step (by repeat (first | (with_reducible first | exact HB.out | apply below_alloc | apply pw_below_drewN | apply below_drew1) | exact HB.out)) hb); clear HB; have HB := n0_; clear n0_; (try clear hb); (try clear hb2); (try clear hk); (try clear hi)) | (go_at_call 5; (with_reducible refine (value_Compare.calls k ((⟨#[120]⟩ : ByteArray) ++ a2) (((⟨#[120]⟩ : ByteArray) ++ a2) ++ (⟨#[97]⟩ : ByteArray)) t125 _ A15.out).mono ?_); rintro e w22 ⟨rfl, hb⟩; have n0_ := Aside0.mk (below_step (by repeat (first | (with_reducible first | exact HB.out | apply below_alloc | apply pw_below_drewN | apply below_drew1) | exact HB.out)) hb); clear HB; have HB := n0_; clear n0_; (try clear hb); (try clear hb2); (try clear hk); (try clear hi)) | (go_at_call 5; (with_reducible refine (value_Compare.calls k (⟨#[121]⟩ : ByteArray) ((⟨#[120]⟩ : ByteArray) ++ a2) t126 _ A17.out).mono ?_); rintro e w23 ⟨rfl, hb⟩; have n0_ := Aside0.mk (below_step (by repeat (first | (with_reducible first | exact HB.out | apply below_alloc | apply pw_below_drewN | apply below_drew1) | exact HB.out)) hb); clear HB; have HB := n0_; clear n0_; (try clear hb); (try clear hb2); (try clear hk); (try clear hi)))
                · exfalso; have q := of_decide_eq_false c5b1; omega
                go_ret
                exact ⟨by first | rfl | (simp [errW_none, errW_some] <;> rfl) | (simp [*, errW_none, errW_some] <;> rfl) | (simp [*, errW_none, errW_some]; cases a0.toList <;> rfl), by repeat (first | (with_reducible first | exact HB.out | apply below_alloc | apply pw_below_drewN | apply below_drew1) | exact HB.out)⟩
              · rw [if_neg c16] at H
                have c16b0 : (t125 == (-1)) = false := beq_eq_false_iff_ne.mpr c16
                have c16b1 : (t125 != (-1)) = true := bne_iff_ne.mpr c16
                obtain rfl := Option.some.inj H
                go_enter Tryd.func3, Tryd.ntmps3
                go_wp2_with (first | ((with_reducible refine gate_callee (f := 4) rfl ?_); refine goesL_ (some 12) rfl rfl Tryd.func4 (by kernel_rfl) rfl #[] rfl (by (try simp only [List.map_toArray, List.map_cons, List.map_nil]); first | done | rfl | (simp only [List.length_drop, List.length_take]; rfl)) ?_; (with_reducible refine (dragomanlaw03_shown.calls k  true _ A4.out).mono ?_); rintro e w24 ⟨rfl, hb⟩; refine ⟨_, rfl, ?_⟩; have n0_ := Aside0.mk (below_step (by repeat (first | (with_reducible first | exact HB.out | apply below_alloc | apply pw_below_drewN | apply below_drew1) | exact HB.out)) hb); clear HB; have HB := n0_; clear n0_; (try clear hb); (try clear hb2); (try clear hk); (try clear hi)) | ((with_reducible refine gate_callee (f := 6) rfl ?_); refine goesL_ (some 18) rfl rfl Tryd.func6 (by kernel_rfl) rfl #[.int .i64 a0] rfl (by (try simp only [List.map_toArray, List.map_cons, List.map_nil]); first | done | rfl | (simp only [List.length_drop, List.length_take]; rfl)) ?_; (with_reducible refine (dec_Text.calls k a0 t122 _ ?side1 A7.out).mono ?_); (case side1 => refine GT.below hG ?_; repeat (first | (with_reducible first | exact HB.out | apply below_alloc | apply pw_below_drewN | apply below_drew1) | exact HB.out)); rintro e w25 ⟨rfl, hb⟩; refine ⟨_, rfl, ?_⟩; have n0_ := Aside0.mk (below_step (by repeat (first | (with_reducible first | exact HB.out | apply below_alloc | apply pw_below_drewN | apply below_drew1) | exact HB.out)) hb); clear HB; have HB := n0_; clear n0_; (try clear hb); (try clear hb2); (try clear hk); (try clear hi)) | ((with_reducible refine gate_callee (f := 6) rfl ?_); refine goesL_ (some 20) rfl rfl Tryd.func6 (by kernel_rfl) rfl #[.int .i64 a1] rfl (by (try simp only [List.map_toArray, List.map_cons, List.map_nil]); first | done | rfl | (simp only [List.length_drop, List.length_take]; rfl)) ?_; (with_reducible refine (dec_Text.calls k a1 t123 _ ?side1 A8.out).mono ?_); (case side1 => refine GT.below hG ?_; repeat (first | (with_reducible first | exact HB.out | apply below_alloc | apply pw_below_drewN | apply below_drew1) | exact HB.out)); rintro e w26 ⟨rfl, hb⟩; refine ⟨_, rfl, ?_⟩; have n0_ := Aside0.mk (below_step (by repeat (first | (with_reducible first | exact HB.out | apply below_alloc | apply pw_below_drewN | apply below_drew1) | exact HB.out)) hb); clear HB; have HB := n0_; clear n0_; (try clear hb); (try clear hb2); (try clear hk); (try clear hi)) | ((with_reducible refine gate_callee (f := 5) rfl ?_); refine goesL_ (some 21) rfl rfl Tryd.func5 (by kernel_rfl) rfl #[.string t122, .string t123] rfl (by (try simp only [List.map_toArray, List.map_cons, List.map_nil]); first | done | rfl | (simp only [List.length_drop, List.length_take]; rfl)) ?_; (with_reducible refine (value_Compare.calls k t122 t123 t124 _ A9.out).mono ?_); rintro e w27 ⟨rfl, hb⟩; refine ⟨_, rfl, ?_⟩; have n0_ := Aside0.mk (below_step (by repeat (first | (with_reducible first | exact HB.out | apply below_alloc | apply pw_below_drewN | apply below_drew1) | exact HB.out)) hb); clear HB; have HB := n0_; clear n0_; (try clear hb); (try clear hb2); (try clear hk); (try clear hi)) | (go_at_call 5; (with_reducible refine (value_Compare.calls k ((⟨#[120]⟩ : ByteArray) ++ a2) (((⟨#[120]⟩ : ByteArray) ++ a2) ++ (⟨#[97]⟩ : ByteArray)) t125 _ A15.out).mono ?_); rintro e w28 ⟨rfl, hb⟩; have n0_ := Aside0.mk (below_step (by repeat (first | (with_reducible first | exact HB.out | apply below_alloc | apply pw_below_drewN | apply below_drew1) | exact HB.out)) hb); clear HB; have HB := n0_; clear n0_; (try clear hb); (try clear hb2); (try clear hk); (try clear hi)))
                · exfalso; have q := of_decide_eq_false c5b1; omega
                go_ret
                exact ⟨by first | rfl | (simp [errW_none, errW_some] <;> rfl) | (simp [*, errW_none, errW_some] <;> rfl) | (simp [*, errW_none, errW_some]; cases a0.toList <;> rfl), by repeat (first | (with_reducible first | exact HB.out | apply below_alloc | apply pw_below_drewN | apply below_drew1) | exact HB.out)⟩
            · rw [if_neg c14] at H
              exact absurd H (by simp)
          · rw [if_neg c13] at H
            have c13b0 : ((decide (t124 < 0)) == (decide (a0 < a1))) = false := by simpa using c13
            (try (have c13b1 : decide ((decide (t124 < 0)) = (decide (a0 < a1))) = false := by simpa using c13))
            (try (have c13b2 : ((decide (t124 < 0)) == (decide (a0 < a1))) = false := by simpa using c13))
            (try (have c13b3 : ¬ ((decide (t124 < 0)) = (decide (a0 < a1))) := by simpa using c13))
            clear c13
            obtain rfl := Option.some.inj H
            go_enter Tryd.func3, Tryd.ntmps3
            go_wp2_with (first | ((with_reducible refine gate_callee (f := 4) rfl ?_); refine goesL_ (some 12) rfl rfl Tryd.func4 (by kernel_rfl) rfl #[] rfl (by (try simp only [List.map_toArray, List.map_cons, List.map_nil]); first | done | rfl | (simp only [List.length_drop, List.length_take]; rfl)) ?_; (with_reducible refine (dragomanlaw03_shown.calls k  true _ A4.out).mono ?_); rintro e w29 ⟨rfl, hb⟩; refine ⟨_, rfl, ?_⟩; have n0_ := Aside0.mk (below_step (by repeat (first | (with_reducible first | exact HB.out | apply below_alloc | apply pw_below_drewN | apply below_drew1) | exact HB.out)) hb); clear HB; have HB := n0_; clear n0_; (try clear hb); (try clear hb2); (try clear hk); (try clear hi)) | ((with_reducible refine gate_callee (f := 6) rfl ?_); refine goesL_ (some 18) rfl rfl Tryd.func6 (by kernel_rfl) rfl #[.int .i64 a0] rfl (by (try simp only [List.map_toArray, List.map_cons, List.map_nil]); first | done | rfl | (simp only [List.length_drop, List.length_take]; rfl)) ?_; (with_reducible refine (dec_Text.calls k a0 t122 _ ?side1 A7.out).mono ?_); (case side1 => refine GT.below hG ?_; repeat (first | (with_reducible first | exact HB.out | apply below_alloc | apply pw_below_drewN | apply below_drew1) | exact HB.out)); rintro e w30 ⟨rfl, hb⟩; refine ⟨_, rfl, ?_⟩; have n0_ := Aside0.mk (below_step (by repeat (first | (with_reducible first | exact HB.out | apply below_alloc | apply pw_below_drewN | apply below_drew1) | exact HB.out)) hb); clear HB; have HB := n0_; clear n0_; (try clear hb); (try clear hb2); (try clear hk); (try clear hi)) | ((with_reducible refine gate_callee (f := 6) rfl ?_); refine goesL_ (some 20) rfl rfl Tryd.func6 (by kernel_rfl) rfl #[.int .i64 a1] rfl (by (try simp only [List.map_toArray, List.map_cons, List.map_nil]); first | done | rfl | (simp only [List.length_drop, List.length_take]; rfl)) ?_; (with_reducible refine (dec_Text.calls k a1 t123 _ ?side1 A8.out).mono ?_); (case side1 => refine GT.below hG ?_; repeat (first | (with_reducible first | exact HB.out | apply below_alloc | apply pw_below_drewN | apply below_drew1) | exact HB.out)); rintro e w31 ⟨rfl, hb⟩; refine ⟨_, rfl, ?_⟩; have n0_ := Aside0.mk (below_step (by repeat (first | (with_reducible first | exact HB.out | apply below_alloc | apply pw_below_drewN | apply below_drew1) | exact HB.out)) hb); clear HB; have HB := n0_; clear n0_; (try clear hb); (try clear hb2); (try clear hk); (try clear hi)) | ((with_reducible refine gate_callee (f := 5) rfl ?_); refine goesL_ (some 21) rfl rfl Tryd.func5 (by kernel_rfl) rfl #[.string t122, .string t123] rfl (by (try simp only [List.map_toArray, List.map_cons, List.map_nil]); first | done | rfl | (simp only [List.length_drop, List.length_take]; rfl)) ?_; (with_reducible refine (value_Compare.calls k t122 t123 t124 _ A9.out).mono ?_); rintro e w32 ⟨rfl, hb⟩; refine ⟨_, rfl, ?_⟩; have n0_ := Aside0.mk (below_step (by repeat (first | (with_reducible first | exact HB.out | apply below_alloc | apply pw_below_drewN | apply below_drew1) | exact HB.out)) hb); clear HB; have HB := n0_; clear n0_; (try clear hb); (try clear hb2); (try clear hk); (try clear hi)))
            go_ret
            exact ⟨by first | rfl | (simp [errW_none, errW_some] <;> rfl) | (simp [*, errW_none, errW_some] <;> rfl) | (simp [*, errW_none, errW_some]; cases a0.toList <;> rfl), by repeat (first | (with_reducible first | exact HB.out | apply below_alloc | apply pw_below_drewN | apply below_drew1) | exact HB.out)⟩
        · rw [if_neg c12] at H
          have c12b0 : ((decide (t124 > 0)) == (decide (a0 > a1))) = false := by simpa using c12
          (try (have c12b1 : decide ((decide (t124 > 0)) = (decide (a0 > a1))) = false := by simpa using c12))
          (try (have c12b2 : ((decide (t124 > 0)) == (decide (a0 > a1))) = false := by simpa using c12))
          (try (have c12b3 : ¬ ((decide (t124 > 0)) = (decide (a0 > a1))) := by simpa using c12))
          clear c12
          obtain rfl := Option.some.inj H
          go_enter Tryd.func3, Tryd.ntmps3
          go_wp2_with (first | ((with_reducible refine gate_callee (f := 4) rfl ?_); refine goesL_ (some 12) rfl rfl Tryd.func4 (by kernel_rfl) rfl #[] rfl (by (try simp only [List.map_toArray, List.map_cons, List.map_nil]); first | done | rfl | (simp only [List.length_drop, List.length_take]; rfl)) ?_; (with_reducible refine (dragomanlaw03_shown.calls k  true _ A4.out).mono ?_); rintro e w33 ⟨rfl, hb⟩; refine ⟨_, rfl, ?_⟩; have n0_ := Aside0.mk (below_step (by repeat (first | (with_reducible first | exact HB.out | apply below_alloc | apply pw_below_drewN | apply below_drew1) | exact HB.out)) hb); clear HB; have HB := n0_; clear n0_; (try clear hb); (try clear hb2); (try clear hk); (try clear hi)) | ((with_reducible refine gate_callee (f := 6) rfl ?_); refine goesL_ (some 18) rfl rfl Tryd.func6 (by kernel_rfl) rfl #[.int .i64 a0] rfl (by (try simp only [List.map_toArray, List.map_cons, List.map_nil]); first | done | rfl | (simp only [List.length_drop, List.length_take]; rfl)) ?_; (with_reducible refine (dec_Text.calls k a0 t122 _ ?side1 A7.out).mono ?_); (case side1 => refine GT.below hG ?_; repeat (first | (with_reducible first | exact HB.out | apply below_alloc | apply pw_below_drewN | apply below_drew1) | exact HB.out)); rintro e w34 ⟨rfl, hb⟩; refine ⟨_, rfl, ?_⟩; have n0_ := Aside0.mk (below_step (by repeat (first | (with_reducible first | exact HB.out | apply below_alloc | apply pw_below_drewN | apply below_drew1) | exact HB.out)) hb); clear HB; have HB := n0_; clear n0_; (try clear hb); (try clear hb2); (try clear hk); (try clear hi)) | ((with_reducible refine gate_callee (f := 6) rfl ?_); refine goesL_ (some 20) rfl rfl Tryd.func6 (by kernel_rfl) rfl #[.int .i64 a1] rfl (by (try simp only [List.map_toArray, List.map_cons, List.map_nil]); first | done | rfl | (simp only [List.length_drop, List.length_take]; rfl)) ?_; (with_reducible refine (dec_Text.calls k a1 t123 _ ?side1 A8.out).mono ?_); (case side1 => refine GT.below hG ?_; repeat (first | (with_reducible first | exact HB.out | apply below_alloc | apply pw_below_drewN | apply below_drew1) | exact HB.out)); rintro e w35 ⟨rfl, hb⟩; refine ⟨_, rfl, ?_⟩; have n0_ := Aside0.mk (below_step (by repeat (first | (with_reducible first | exact HB.out | apply below_alloc | apply pw_below_drewN | apply below_drew1) | exact HB.out)) hb); clear HB; have HB := n0_; clear n0_; (try clear hb); (try clear hb2); (try clear hk); (try clear hi)) | ((with_reducible refine gate_callee (f := 5) rfl ?_); refine goesL_ (some 21) rfl rfl Tryd.func5 (by kernel_rfl) rfl #[.string t122, .string t123] rfl (by (try simp only [List.map_toArray, List.map_cons, List.map_nil]); first | done | rfl | (simp only [List.length_drop, List.length_take]; rfl)) ?_; (with_reducible refine (value_Compare.calls k t122 t123 t124 _ A9.out).mono ?_); rintro e w36 ⟨rfl, hb⟩; refine ⟨_, rfl, ?_⟩; have n0_ := Aside0.mk (below_step (by repeat (first | (with_reducible first | exact HB.out | apply below_alloc | apply pw_below_drewN | apply below_drew1) | exact HB.out)) hb); clear HB; have HB := n0_; clear n0_; (try clear hb); (try clear hb2); (try clear hk); (try clear hi)))
          go_ret
          exact ⟨by first | rfl | (simp [errW_none, errW_some] <;> rfl) | (simp [*, errW_none, errW_some] <;> rfl) | (simp [*, errW_none, errW_some]; cases a0.toList <;> rfl), by repeat (first | (with_reducible first | exact HB.out | apply below_alloc | apply pw_below_drewN | apply below_drew1) | exact HB.out)⟩
      · replace c11 := Bool.eq_false_iff.mpr c11
        subst c11
        have H1 : (some false) = some r := by rw [if_neg (show ¬ (false = true) by decide)] at H; exact H
        clear H
        have H := H1
        clear H1
        obtain rfl := Option.some.inj H
        go_enter Tryd.func3, Tryd.ntmps3
        go_wp2_with (first | ((with_reducible refine gate_callee (f := 4) rfl ?_); refine goesL_ (some 12) rfl rfl Tryd.func4 (by kernel_rfl) rfl #[] rfl (by (try simp only [List.map_toArray, List.map_cons, List.map_nil]); first | done | rfl | (simp only [List.length_drop, List.length_take]; rfl)) ?_; (with_reducible refine (dragomanlaw03_shown.calls k  false _ A4.out).mono ?_); rintro e w37 ⟨rfl, hb⟩; refine ⟨_, rfl, ?_⟩; have n0_ := Aside0.mk (below_step (by repeat (first | (with_reducible first | exact HB.out | apply below_alloc | apply pw_below_drewN | apply below_drew1) | exact HB.out)) hb); clear HB; have HB := n0_; clear n0_; (try clear hb); (try clear hb2); (try clear hk); (try clear hi)) | ((with_reducible refine gate_callee (f := 6) rfl ?_); refine goesL_ (some 18) rfl rfl Tryd.func6 (by kernel_rfl) rfl #[.int .i64 a0] rfl (by (try simp only [List.map_toArray, List.map_cons, List.map_nil]); first | done | rfl | (simp only [List.length_drop, List.length_take]; rfl)) ?_; (with_reducible refine (dec_Text.calls k a0 t122 _ ?side1 A7.out).mono ?_); (case side1 => refine GT.below hG ?_; repeat (first | (with_reducible first | exact HB.out | apply below_alloc | apply pw_below_drewN | apply below_drew1) | exact HB.out)); rintro e w38 ⟨rfl, hb⟩; refine ⟨_, rfl, ?_⟩; have n0_ := Aside0.mk (below_step (by repeat (first | (with_reducible first | exact HB.out | apply below_alloc | apply pw_below_drewN | apply below_drew1) | exact HB.out)) hb); clear HB; have HB := n0_; clear n0_; (try clear hb); (try clear hb2); (try clear hk); (try clear hi)) | ((with_reducible refine gate_callee (f := 6) rfl ?_); refine goesL_ (some 20) rfl rfl Tryd.func6 (by kernel_rfl) rfl #[.int .i64 a1] rfl (by (try simp only [List.map_toArray, List.map_cons, List.map_nil]); first | done | rfl | (simp only [List.length_drop, List.length_take]; rfl)) ?_; (with_reducible refine (dec_Text.calls k a1 t123 _ ?side1 A8.out).mono ?_); (case side1 => refine GT.below hG ?_; repeat (first | (with_reducible first | exact HB.out | apply below_alloc | apply pw_below_drewN | apply below_drew1) | exact HB.out)); rintro e w39 ⟨rfl, hb⟩; refine ⟨_, rfl, ?_⟩; have n0_ := Aside0.mk (below_step (by repeat (first | (with_reducible first | exact HB.out | apply below_alloc | apply pw_below_drewN | apply below_drew1) | exact HB.out)) hb); clear HB; have HB := n0_; clear n0_; (try clear hb); (try clear hb2); (try clear hk); (try clear hi)) | ((with_reducible refine gate_callee (f := 5) rfl ?_); refine goesL_ (some 21) rfl rfl Tryd.func5 (by kernel_rfl) rfl #[.string t122, .string t123] rfl (by (try simp only [List.map_toArray, List.map_cons, List.map_nil]); first | done | rfl | (simp only [List.length_drop, List.length_take]; rfl)) ?_; (with_reducible refine (value_Compare.calls k t122 t123 t124 _ A9.out).mono ?_); rintro e w40 ⟨rfl, hb⟩; refine ⟨_, rfl, ?_⟩; have n0_ := Aside0.mk (below_step (by repeat (first | (with_reducible first | exact HB.out | apply below_alloc | apply pw_below_drewN | apply below_drew1) | exact HB.out)) hb); clear HB; have HB := n0_; clear n0_; (try clear hb); (try clear hb2); (try clear hk); (try clear hi)))
        go_ret
        exact ⟨by first | rfl | (simp [errW_none, errW_some] <;> rfl) | (simp [*, errW_none, errW_some] <;> rfl) | (simp [*, errW_none, errW_some]; cases a0.toList <;> rfl), by repeat (first | (with_reducible first | exact HB.out | apply below_alloc | apply pw_below_drewN | apply below_drew1) | exact HB.out)⟩
    · rw [if_neg c10] at H
      exact absurd H (by simp)

/-- THE ONE PURE STATEMENT of dragomanlaw03_ValueOrder: yours. -/
def dragomanlaw03_ValueOrder.Pure : Prop := ∀ (a0 : Int) (a1 : Int) (a2 : ByteArray), (Lit.int .i64 a0).wf = true → (Lit.int .i64 a1).wf = true → a2.size ≤ 140737488351232 → ∃ k, dragomanlaw03_ValueOrder.f k a0 a1 a2 = some true
theorem dragomanlaw03_ValueOrder.walk (P : dragomanlaw03_ValueOrder.Pure) (a0 : Int) (a1 : Int) (a2 : ByteArray) (w : World) (w0 : (Lit.int .i64 a0).wf = true) (w1 : (Lit.int .i64 a1).wf = true) (w2 : a2.size ≤ 140737488351232) (hG : GT w) :
    Calls Tryd.prog 3 #[.int .i64 a0, .int .i64 a1, .string a2] w fun e w' => e = .returned (.bool true) ∧ Below w.heap.size w w' := by
  obtain ⟨k, h⟩ := P a0 a1 a2 w0 w1 w2
  refine (dragomanlaw03_ValueOrder.calls k a0 a1 a2 true w hG h).mono ?_
  rintro e w' ⟨rfl, hd⟩
  exact ⟨rfl, hd⟩

end Go.Proofs.YtpdihjedcplmnaaDoor.QA
