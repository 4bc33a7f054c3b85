/- The Go functions of this part as Lean functions, each with a proof that a call of it comes to just what the Lean function does. Written by a program of the session's. Conditions: none but those in each theorem. -/
import Derived.Test.YthnfmpieoondaaaUQAx0
import Derived.Test.YthnfmpieoondaaaUQAx7
import Derived.Test.YthnfmpieoondaaaUQAx8
namespace Go.Proofs.Ythnfmpieoondaaa.QA
open Go.Proofs.Ythnfmpieoondaaa.G
open Go.RowKit Go.Proofs.YthnfmpieoondaaaW.PrintWords Go.Proofs.YthnfmpieoondaaaW.PrintLast Go.Proofs.YthnfmpieoondaaaW.PrintMore
attribute [local go_sem] max2_int min2_int max_two min_two max_three min_three max_four min_four   -- for this text's walks alone
attribute [local go_sem ↓] ix28_0 ix28_1 ia28_0 ia28_1
set_option linter.unusedVariables false
set_option linter.unusedSimpArgs false

/-! ### dragomanref07_Text: function 24 -/
mutual
def dragomanref07_Text.l0 : Nat → List ByteArray → ByteArray → Int → Option (ByteArray)
  | 0, _, _, _ => none
  | k + 1, x0, x3, x4 => if x4 < (x0.length : Int) then (if x4 > 0 then (if x3.size + 1 ≤ 9223372036854775807 then (dragomanref07_Text.j1 k x0 (x3 ++ (⟨#[38]⟩ : ByteArray)) x4) else (none)) else (dragomanref07_Text.j1 k x0 x3 x4)) else (some x3)
def dragomanref07_Text.j1 : Nat → List ByteArray → ByteArray → Int → Option (ByteArray)
  | 0, _, _, _ => none
  | k + 1, x0, x3, x4 => dragomanref07_Text.l1 k x0 x3 x4 0
def dragomanref07_Text.l1 : Nat → List ByteArray → ByteArray → Int → Int → Option (ByteArray)
  | 0, _, _, _, _ => none
  | k + 1, x0, x3, x4, x5 => if 0 ≤ x4 then (if x4 < (x0.length : Int) then (if x5 < ((rdOf ByteArray.empty x0 x4).size : Int) then (if 0 ≤ x5 then ((dragomanref04_Plain.f k (bt (rdOf ByteArray.empty x0 x4) x5)).bind fun t175 => (if x3.size + t175.size ≤ 9223372036854775807 then (dragomanref07_Text.l1 k x0 (x3 ++ t175) x4 (wrap64 (x5 + 1))) else (none))) else (none)) else (dragomanref07_Text.l0 k x0 x3 (wrap64 (x4 + 1)))) else (none)) else (none)
end
def dragomanref07_Text.f (k : Nat) (l0 : List ByteArray) : Option (ByteArray) := dragomanref07_Text.l0 k l0 (⟨#[]⟩ : ByteArray) 0
set_option maxHeartbeats 8000000 in
set_option maxRecDepth 100000 in
theorem dragomanref07_Text.calls (k : Nat) (A0 : Option Addr) (c0 : Nat) (l0 : List ByteArray) (r : ByteArray) (w : World) (hr0 : Kd.C Kd.string w A0 l0.length l0) (hc0 : l0.length ≤ c0) (h : dragomanref07_Text.f k l0 = some r) :
    Calls Try.prog 24 #[.slice A0 l0.length c0] w fun e w' => e = .returned (.string r) ∧ Below w.heap.size w w' := by
  have HR0 := Aside0.mk hr0
  have HC0 := Aside0.mk hc0
  clear hr0 hc0
  have HB := Aside0.mk (Below.refl w.heap.size w)
  have H : (dragomanref07_Text.l0 k l0 (⟨#[]⟩ : ByteArray) 0) = some r := h
  clear h
  have H' := Aside0.mk H
  clear H
  go_enter Try.func24, Try.ntmps24
  go_wp2
  go_loopg [3, 4] k (fun kq v3 v4 w' => ∃ (x3_1 : ByteArray) (x4_1 : Int), v3 = .string x3_1 ∧ v4 = .int .i64 x4_1 ∧ Aside0 (dragomanref07_Text.l0 kq l0 x3_1 x4_1 = some r) ∧ Aside0 (kq ≤ k) ∧ Aside0 (Below w.heap.size w w'))
  case atStart => exact ⟨((⟨#[]⟩ : ByteArray)), (0), (by first | rfl | (simp; done) | (simp [*]; done)), (by first | rfl | (simp; done) | (simp [*]; done)), H', ⟨Nat.le_refl _⟩, ⟨by repeat (first | (with_reducible first | exact HB.out | apply below_alloc | apply pw_below_drewN | apply below_drew1) | exact HB.out)⟩⟩
  case round =>
    clear H'
    obtain ⟨x3_1, x4_1, rfl, rfl, HA, HK1, HB⟩ := hrel
    cases gk with
    | zero => exact absurd HA.out (by simp [dragomanref07_Text.l0])
    | succ k1 =>
      have H := HA.out
      clear HA
      simp only [dragomanref07_Text.l0] at H
      by_cases c2 : x4_1 < (l0.length : Int)
      · rw [if_pos c2] at H
        have c2b0 : decide (x4_1 < (l0.length : Int)) = true := decide_eq_true c2
        clear c2
        have HC3 := Aside0.mk H
        clear H
        go_upto_if 13 with (fail)
        go_cut [3] (fun v3 wc => ∃ (kq : Nat) (x3_2 : ByteArray), v3 = .string x3_2 ∧ Aside0 (dragomanref07_Text.j1 kq l0 x3_2 x4_1 = some r) ∧ Aside0 (kq ≤ k1) ∧ Aside0 (Below w.heap.size w wc))
        case first =>
          have H := HC3.out
          clear HC3
          by_cases c4 : x4_1 > 0
          · rw [if_pos c4] at H
            have c4b0 : decide (0 < x4_1) = true := decide_eq_true c4
            clear c4
            (first | rw [c4b0] | (simp only [i64_w, i32_w]; rw [c4b0]) | skip)
            by_cases c5 : x3_1.size + 1 ≤ 9223372036854775807
            · rw [if_pos c5] at H
              have c5b0 := eq_true c5
              have c5b1 : decide (x3_1.size + 1 ≤ 9223372036854775807) = true := decide_eq_true c5
              try have c5b2 : (9223372036854775807 < x3_1.size + 1) = False := eq_false (Nat.not_lt.2 c5)
              try (have c5b3 := c5b2; simp only [ByteArray.size_append, ByteArray.size_extract, Nat.min_self] at c5b3)
              have H' := Aside0.mk H
              clear H
              go_wp2
              go_meet
              case rel => exact ⟨_, (x3_1 ++ (⟨#[38]⟩ : ByteArray)), (by first | rfl | (simp; done) | (simp [*]; done)), H', ⟨by have := HK1.out; first | omega | exact Nat.le_refl _⟩, ⟨by repeat (first | (with_reducible first | exact HB.out | apply below_alloc | apply pw_below_drewN | apply below_drew1) | exact HB.out)⟩⟩
            · rw [if_neg c5] at H
              exact absurd H (by simp)
          · rw [if_neg c4] at H
            have c4b0 : decide (0 < x4_1) = false := decide_eq_false c4
            clear c4
            (first | rw [c4b0] | (simp only [i64_w, i32_w]; rw [c4b0]) | skip)
            have H' := Aside0.mk H
            clear H
            go_wp2
            go_meet
            case rel => exact ⟨_, (x3_1), (by first | rfl | (simp; done) | (simp [*]; done)), H', ⟨by have := HK1.out; first | omega | exact Nat.le_refl _⟩, ⟨by repeat (first | (with_reducible first | exact HB.out | apply below_alloc | apply pw_below_drewN | apply below_drew1) | exact HB.out)⟩⟩
        case rest =>
          clear HC3
          try clear c2
          try clear c2b0
          try clear p2
          try clear c4
          try clear c4b0
          try clear c5
          try clear c5b0
          try clear c5b1
          try clear c5b2
          obtain ⟨kq, x3_2, rfl, HA, HJ2, HB⟩ := hcut
          cases kq with
          | zero => exact absurd HA.out (by simp [dragomanref07_Text.j1])
          | succ kj2 =>
            have H := HA.out
            clear HA
            simp only [dragomanref07_Text.j1] at H
            have H' := Aside0.mk H
            clear H
            go_wp2
            go_loopg [3, 5] kj2 (fun kq v3 v5 w' => ∃ (x3_3 : ByteArray) (x5_3 : Int), v3 = .string x3_3 ∧ v5 = .int .i64 x5_3 ∧ Aside0 (dragomanref07_Text.l1 kq l0 x3_3 x4_1 x5_3 = some r) ∧ Aside0 (kq ≤ kj2) ∧ Aside0 (Below w.heap.size w w'))
            case atStart => exact ⟨(x3_2), (0), (by first | rfl | (simp; done) | (simp [*]; done)), (by first | rfl | (simp; done) | (simp [*]; done)), H', ⟨Nat.le_refl _⟩, ⟨by repeat (first | (with_reducible first | exact HB.out | apply below_alloc | apply pw_below_drewN | apply below_drew1) | exact HB.out)⟩⟩
            case round =>
              clear H'
              try clear c2
              try clear c2b0
              try clear p2
              try clear c4
              try clear c4b0
              try clear c5
              try clear c5b0
              try clear c5b1
              try clear c5b2
              try clear p2
              obtain ⟨x3_3, x5_3, rfl, rfl, HA, HK3, HB⟩ := hrel
              cases gk with
              | zero => exact absurd HA.out (by simp [dragomanref07_Text.l1])
              | succ k3 =>
                have H := HA.out
                clear HA
                simp only [dragomanref07_Text.l1] at H
                by_cases c6 : 0 ≤ x4_1
                · rw [if_pos c6] at H
                  have c6b0 : decide (0 ≤ x4_1) = true := decide_eq_true c6
                  clear c6
                  by_cases c7 : x4_1 < (l0.length : Int)
                  · rw [if_pos c7] at H
                    have c7b0 : decide (x4_1 < (l0.length : Int)) = true := decide_eq_true c7
                    clear c7
                    by_cases c8 : x5_3 < ((rdOf ByteArray.empty l0 x4_1).size : Int)
                    · rw [if_pos c8] at H
                      have c8b0 : decide (x5_3 < ((rdOf ByteArray.empty l0 x4_1).size : Int)) = true := decide_eq_true c8
                      clear c8
                      by_cases c9 : 0 ≤ x5_3
                      · rw [if_pos c9] at H
                        have c9b0 : decide (0 ≤ x5_3) = true := decide_eq_true c9
                        clear c9
                        replace H := Option.bind_eq_some_iff.mp H
                        obtain ⟨t175, A110, H⟩ := H
                        replace H : (if x3_3.size + t175.size ≤ 9223372036854775807 then (dragomanref07_Text.l1 k3 l0 (x3_3 ++ t175) x4_1 (wrap64 (x5_3 + 1))) else (none)) = some r := H
                        have A11 := Aside0.mk A110
                        clear A110
                        by_cases c12 : x3_3.size + t175.size ≤ 9223372036854775807
                        · rw [if_pos c12] at H
                          have c12b0 := eq_true c12
                          have c12b1 : decide (x3_3.size + t175.size ≤ 9223372036854775807) = true := decide_eq_true c12
                          try have c12b2 : (9223372036854775807 < x3_3.size + t175.size) = False := eq_false (Nat.not_lt.2 c12)
                          try (have c12b3 := c12b2; simp only [ByteArray.size_append, ByteArray.size_extract, Nat.min_self] at c12b3)
                          have H' := Aside0.mk H
                          clear H
                          have p173 : 0 ≤ (x4_1 : Int) := of_decide_eq_true (by first | (with_reducible assumption) | assumption)
                          have q173 : x4_1 < (l0.length : Int) := of_decide_eq_true (by first | (with_reducible assumption) | assumption)
                          obtain ⟨ad173, e173, hx173_0⟩ := Kd.at_string HR0.out x4_1 p173 q173
                          cases e173
                          replace hx173_0 := (HB.out.cell (World.block_lt_of_cell? w _ hx173_0)).trans hx173_0
                          replace p173 := eq_true p173
                          replace q173 := eq_true q173
                          have p174 : 0 ≤ (x4_1 : Int) := of_decide_eq_true (by first | (with_reducible assumption) | assumption)
                          have q174 : x4_1 < (l0.length : Int) := of_decide_eq_true (by first | (with_reducible assumption) | assumption)
                          obtain ⟨ad174, e174, hx174_0⟩ := Kd.at_string HR0.out x4_1 p174 q174
                          obtain rfl : ad173 = ad174 := (by injection e174)
                          replace hx174_0 := (HB.out.cell (World.block_lt_of_cell? w _ hx174_0)).trans hx174_0
                          replace p174 := eq_true p174
                          replace q174 := eq_true q174
                          have p10 : 0 ≤ (x5_3 : Int) := of_decide_eq_true (by first | (with_reducible assumption) | assumption)
                          have q10 : x5_3 < ((rdOf ByteArray.empty l0 x4_1).size : Int) := of_decide_eq_true (by first | (with_reducible assumption) | assumption)
                          have hx10 := bt_at (rdOf ByteArray.empty l0 x4_1) x5_3
                          replace p10 := eq_true p10
                          replace q10 := eq_true q10
                          go_wp2_with (first | ((with_reducible refine gate_callee (f := 40) rfl ?_); refine goesL_ (some 32) rfl rfl Try.func40 (by kernel_rfl) rfl #[.int .u8 (bt (rdOf ByteArray.empty l0 x4_1) x5_3)] rfl (by (try simp only [List.map_toArray, List.map_cons, List.map_nil]); first | done | rfl | (simp only [List.length_drop, List.length_take]; rfl)) ?_; (with_reducible refine (dragomanref04_Plain.calls k3 (bt (rdOf ByteArray.empty l0 x4_1) x5_3) t175 _ A11.out).mono ?_); rintro e w13 ⟨rfl, hb⟩; refine ⟨_, rfl, ?_⟩; have n0_ := Aside0.mk (below_step (by repeat (first | (with_reducible first | exact HB.out | apply below_alloc | apply pw_below_drewN | apply below_drew1) | exact HB.out)) hb); clear HB; have HB := n0_; clear n0_; (try clear hb); (try clear hb2); (try clear hk); (try clear hi)))
                          go_roundg k3
                          case measure => have := HK1.out; have := HJ2.out; have := HK3.out; omega
                          case rel => exact ⟨(x3_3 ++ t175), (wrap64 (x5_3 + 1)), (by first | rfl | (simp; done) | (simp [*]; done)), (by first | rfl | (simp; done) | (simp [*]; done)), H', ⟨by have := HK1.out; have := HJ2.out; have := HK3.out; omega⟩, ⟨by repeat (first | (with_reducible first | exact HB.out | apply below_alloc | apply pw_below_drewN | apply below_drew1) | exact HB.out)⟩⟩
                        · rw [if_neg c12] at H
                          exact absurd H (by simp)
                      · rw [if_neg c9] at H
                        exact absurd H (by simp)
                    · rw [if_neg c8] at H
                      have c8b0 : decide (x5_3 < ((rdOf ByteArray.empty l0 x4_1).size : Int)) = false := decide_eq_false c8
                      clear c8
                      have H' := Aside0.mk H
                      clear H
                      have p173 : 0 ≤ (x4_1 : Int) := of_decide_eq_true (by first | (with_reducible assumption) | assumption)
                      have q173 : x4_1 < (l0.length : Int) := of_decide_eq_true (by first | (with_reducible assumption) | assumption)
                      obtain ⟨ad173, e173, hx173_0⟩ := Kd.at_string HR0.out x4_1 p173 q173
                      cases e173
                      replace hx173_0 := (HB.out.cell (World.block_lt_of_cell? w _ hx173_0)).trans hx173_0
                      replace p173 := eq_true p173
                      replace q173 := eq_true q173
                      go_wp2
                      go_roundg k3
                      case measure => have := HK1.out; have := HJ2.out; have := HK3.out; omega
                      case rel => exact ⟨(x3_3), (wrap64 (x4_1 + 1)), (by first | rfl | (simp; done) | (simp [*]; done)), (by first | rfl | (simp; done) | (simp [*]; done)), H', ⟨by have := HK1.out; have := HJ2.out; have := HK3.out; omega⟩, ⟨by repeat (first | (with_reducible first | exact HB.out | apply below_alloc | apply pw_below_drewN | apply below_drew1) | exact HB.out)⟩⟩
                  · rw [if_neg c7] at H
                    exact absurd H (by simp)
                · rw [if_neg c6] at H
                  exact absurd H (by simp)
      · rw [if_neg c2] at H
        have c2b0 : decide (x4_1 < (l0.length : Int)) = false := decide_eq_false c2
        clear c2
        obtain rfl := Option.some.inj H
        go_wp2
        go_ret
        exact ⟨by first | rfl | (simp [errW_none, errW_some] <;> rfl) | (simp [*, errW_none, errW_some] <;> rfl), by repeat (first | (with_reducible first | exact HB.out | apply below_alloc | apply pw_below_drewN | apply below_drew1) | exact HB.out)⟩

/-! ### dragomanref07_Put: function 25 -/
def dragomanref07_Put.l0 : Nat → List ByteArray → ByteArray → ByteArray → Int → Option (ByteArray)
  | 0, _, _, _, _ => none
  | k + 1, x0, x1, x5, x6 => if x6 < (x0.length : Int) then (if x6 > 0 then (if x5.size + x1.size ≤ 9223372036854775807 then (if 0 ≤ x6 then (if (x5 ++ x1).size + (rdOf ByteArray.empty x0 x6).size ≤ 9223372036854775807 then (dragomanref07_Put.l0 k x0 x1 ((x5 ++ x1) ++ (rdOf ByteArray.empty x0 x6)) (wrap64 (x6 + 1))) else (none)) else (none)) else (none)) else (if 0 ≤ x6 then (if x5.size + (rdOf ByteArray.empty x0 x6).size ≤ 9223372036854775807 then (dragomanref07_Put.l0 k x0 x1 (x5 ++ (rdOf ByteArray.empty x0 x6)) (wrap64 (x6 + 1))) else (none)) else (none))) else (some x5)
def dragomanref07_Put.f (k : Nat) (l0 : List ByteArray) (a1 : ByteArray) : Option (ByteArray) := dragomanref07_Put.l0 k l0 a1 (⟨#[]⟩ : ByteArray) 0
set_option maxHeartbeats 8000000 in
set_option maxRecDepth 100000 in
theorem dragomanref07_Put.calls (k : Nat) (A0 : Option Addr) (c0 : Nat) (l0 : List ByteArray) (a1 : ByteArray) (r : ByteArray) (w : World) (hr0 : Kd.C Kd.string w A0 l0.length l0) (hc0 : l0.length ≤ c0) (h : dragomanref07_Put.f k l0 a1 = some r) :
    Calls Try.prog 25 #[.slice A0 l0.length c0, .string a1] w fun e w' => e = .returned (.string r) ∧ Drawn0 w w' := by
  have HR0 := Aside0.mk hr0
  have HC0 := Aside0.mk hc0
  clear hr0 hc0
  have H : (dragomanref07_Put.l0 k l0 a1 (⟨#[]⟩ : ByteArray) 0) = some r := h
  clear h
  have H' := Aside0.mk H
  clear H
  go_enter Try.func25, Try.ntmps25
  go_wp2
  go_loopg [5, 6] k (fun kq v5 v6 w' => ∃ (x5_1 : ByteArray) (x6_1 : Int), v5 = .string x5_1 ∧ v6 = .int .i64 x6_1 ∧ Aside0 (dragomanref07_Put.l0 kq l0 a1 x5_1 x6_1 = some r) ∧ Aside0 (kq ≤ k) ∧ Drawn0 w w')
  case atStart => exact ⟨((⟨#[]⟩ : ByteArray)), (0), (by first | rfl | (simp; done) | (simp [*]; done)), (by first | rfl | (simp; done) | (simp [*]; done)), H', ⟨Nat.le_refl _⟩, by repeat (first | exact Drawn0.refl _ | apply Drawn0.step)⟩
  case round =>
    clear H'
    try clear c2
    try clear p2
    obtain ⟨x5_1, x6_1, rfl, rfl, HA, HK1, ⟨m1, rfl⟩⟩ := hrel
    cases gk with
    | zero => exact absurd HA.out (by simp [dragomanref07_Put.l0])
    | succ k1 =>
      have H := HA.out
      clear HA
      simp only [dragomanref07_Put.l0] at H
      by_cases c3 : x6_1 < (l0.length : Int)
      · rw [if_pos c3] at H
        have c3b0 : decide (x6_1 < (l0.length : Int)) = true := decide_eq_true c3
        clear c3
        by_cases c4 : x6_1 > 0
        · rw [if_pos c4] at H
          have c4b0 : decide (0 < x6_1) = true := decide_eq_true c4
          clear c4
          by_cases c5 : x5_1.size + a1.size ≤ 9223372036854775807
          · rw [if_pos c5] at H
            have c5b0 := eq_true c5
            have c5b1 : decide (x5_1.size + a1.size ≤ 9223372036854775807) = true := decide_eq_true c5
            try have c5b2 : (9223372036854775807 < x5_1.size + a1.size) = False := eq_false (Nat.not_lt.2 c5)
            try (have c5b3 := c5b2; simp only [ByteArray.size_append, ByteArray.size_extract, Nat.min_self] at c5b3)
            by_cases c6 : 0 ≤ x6_1
            · rw [if_pos c6] at H
              have c6b0 : decide (0 ≤ x6_1) = true := decide_eq_true c6
              clear c6
              by_cases c7 : (x5_1 ++ a1).size + (rdOf ByteArray.empty l0 x6_1).size ≤ 9223372036854775807
              · rw [if_pos c7] at H
                have c7b0 := eq_true c7
                have c7b1 : decide ((x5_1 ++ a1).size + (rdOf ByteArray.empty l0 x6_1).size ≤ 9223372036854775807) = true := decide_eq_true c7
                try have c7b2 : (9223372036854775807 < (x5_1 ++ a1).size + (rdOf ByteArray.empty l0 x6_1).size) = False := eq_false (Nat.not_lt.2 c7)
                try (have c7b3 := c7b2; simp only [ByteArray.size_append, ByteArray.size_extract, Nat.min_self] at c7b3)
                have H' := Aside0.mk H
                clear H
                have p176 : 0 ≤ (x6_1 : Int) := of_decide_eq_true (by first | (with_reducible assumption) | assumption)
                have q176 : x6_1 < (l0.length : Int) := of_decide_eq_true (by first | (with_reducible assumption) | assumption)
                obtain ⟨ad176, e176, hx176_0⟩ := Kd.at_string HR0.out x6_1 p176 q176
                cases e176
                replace p176 := eq_true p176
                replace q176 := eq_true q176
                go_wp2
                go_roundg k1
                case measure => have := HK1.out; omega
                case rel => exact ⟨((x5_1 ++ a1) ++ (rdOf ByteArray.empty l0 x6_1)), (wrap64 (x6_1 + 1)), (by first | rfl | (simp; done) | (simp [*]; done)), (by first | rfl | (simp; done) | (simp [*]; done)), H', ⟨by have := HK1.out; omega⟩, by repeat (first | exact Drawn0.refl _ | apply Drawn0.step)⟩
              · rw [if_neg c7] at H
                exact absurd H (by simp)
            · rw [if_neg c6] at H
              exact absurd H (by simp)
          · rw [if_neg c5] at H
            exact absurd H (by simp)
        · rw [if_neg c4] at H
          have c4b0 : decide (0 < x6_1) = false := decide_eq_false c4
          clear c4
          by_cases c8 : 0 ≤ x6_1
          · rw [if_pos c8] at H
            have c8b0 : decide (0 ≤ x6_1) = true := decide_eq_true c8
            clear c8
            by_cases c9 : x5_1.size + (rdOf ByteArray.empty l0 x6_1).size ≤ 9223372036854775807
            · rw [if_pos c9] at H
              have c9b0 := eq_true c9
              have c9b1 : decide (x5_1.size + (rdOf ByteArray.empty l0 x6_1).size ≤ 9223372036854775807) = true := decide_eq_true c9
              try have c9b2 : (9223372036854775807 < x5_1.size + (rdOf ByteArray.empty l0 x6_1).size) = False := eq_false (Nat.not_lt.2 c9)
              try (have c9b3 := c9b2; simp only [ByteArray.size_append, ByteArray.size_extract, Nat.min_self] at c9b3)
              have H' := Aside0.mk H
              clear H
              have p177 : 0 ≤ (x6_1 : Int) := of_decide_eq_true (by first | (with_reducible assumption) | assumption)
              have q177 : x6_1 < (l0.length : Int) := of_decide_eq_true (by first | (with_reducible assumption) | assumption)
              obtain ⟨ad177, e177, hx177_0⟩ := Kd.at_string HR0.out x6_1 p177 q177
              cases e177
              replace p177 := eq_true p177
              replace q177 := eq_true q177
              go_wp2
              go_roundg k1
              case measure => have := HK1.out; omega
              case rel => exact ⟨(x5_1 ++ (rdOf ByteArray.empty l0 x6_1)), (wrap64 (x6_1 + 1)), (by first | rfl | (simp; done) | (simp [*]; done)), (by first | rfl | (simp; done) | (simp [*]; done)), H', ⟨by have := HK1.out; omega⟩, by repeat (first | exact Drawn0.refl _ | apply Drawn0.step)⟩
            · rw [if_neg c9] at H
              exact absurd H (by simp)
          · rw [if_neg c8] at H
            exact absurd H (by simp)
      · rw [if_neg c3] at H
        have c3b0 : decide (x6_1 < (l0.length : Int)) = false := decide_eq_false c3
        clear c3
        obtain rfl := Option.some.inj H
        go_wp2
        go_ret
        exact ⟨by first | rfl | (simp; done) | (simp [*]; done), by repeat (first | exact Drawn0.refl _ | apply Drawn0.step)⟩

/-! ### dragomanref07_Read: function 21 -/
mutual
def dragomanref07_Read.l0 : Nat → ByteArray → List ByteArray → ByteArray → Int → Option (List ByteArray × Int)
  | 0, _, _, _, _ => none
  | k + 1, x0, x4, x5, x6 => if x6 < (x0.size : Int) then (if 0 ≤ x6 then (if (bt x0 x6) = 38 then (if x4.length < 8796093022208 then (dragomanref07_Read.l0 k x0 (x4 ++ [x5]) (⟨#[]⟩ : ByteArray) (wrap64 (x6 + 1))) else (none)) else (if (bt x0 x6) = 47 then (dragomanref07_Read.j1 k x0 x4 x5 x6 (bt x0 x6) true) else (dragomanref07_Read.j1 k x0 x4 x5 x6 (bt x0 x6) ((bt x0 x6) == 10)))) else (none)) else (if x4.length < 8796093022208 then (some ((x4 ++ [x5]), 0)) else (none))
def dragomanref07_Read.j1 : Nat → ByteArray → List ByteArray → ByteArray → Int → Int → Bool → Option (List ByteArray × Int)
  | 0, _, _, _, _, _, _ => none
  | k + 1, x0, x4, x5, x6, x7, x31 => if x31 = true then (some (([] : List ByteArray), 2)) else (if x7 = 92 then (if (wrap64 (x6 + 1)) < (x0.size : Int) then (if 0 ≤ (wrap64 (x6 + 1)) then (dragomanref07_Read.j2 k x0 x4 x5 x6 ((bt x0 (wrap64 (x6 + 1))) == 38)) else (none)) else (dragomanref07_Read.j2 k x0 x4 x5 x6 false)) else ((some (([x7] : List Int) : List Int)).bind fun y184 => (if x5.size + (strOfNums y184).size ≤ 9223372036854775807 then (dragomanref07_Read.l0 k x0 x4 (x5 ++ (strOfNums y184)) (wrap64 (x6 + 1))) else (none))))
def dragomanref07_Read.j2 : Nat → ByteArray → List ByteArray → ByteArray → Int → Bool → Option (List ByteArray × Int)
  | 0, _, _, _, _, _ => none
  | k + 1, x0, x4, x5, x6, x52 => if x52 = true then (if x5.size + 1 ≤ 9223372036854775807 then (dragomanref07_Read.l0 k x0 x4 (x5 ++ (⟨#[38]⟩ : ByteArray)) (wrap64 (x6 + 2))) else (none)) else (if 0 ≤ x6 then (if x6 ≤ (x0.size : Int) then ((dragomanref04_Sign.f k (x0.extract (x6 : Int).toNat x0.size)).bind fun bt187 => (if bt187.2.2 = 0 then ((some (([bt187.1] : List Int) : List Int)).bind fun y190 => (if x5.size + (strOfNums y190).size ≤ 9223372036854775807 then (dragomanref07_Read.l0 k x0 x4 (x5 ++ (strOfNums y190)) (wrap64 (x6 + bt187.2.1))) else (none))) else (some (([] : List ByteArray), 2)))) else (none)) else (none))
end
def dragomanref07_Read.f (k : Nat) (a0 : ByteArray) : Option (List ByteArray × Int) := dragomanref07_Read.l0 k a0 ([] : List ByteArray) (⟨#[]⟩ : ByteArray) 0
set_option maxHeartbeats 8000000 in
set_option maxRecDepth 100000 in
theorem dragomanref07_Read.calls (k : Nat) (a0 : ByteArray) (r1 : List ByteArray) (r2 : Int) (w : World) (h : dragomanref07_Read.f k a0 = some (r1, r2)) :
    Calls Try.prog 21 #[.string a0] w fun e w' => ∃ v0_ : Value, e = .returned (.tuple #[v0_, .int .i64 r2]) ∧ Kd.R Kd.string 9 w' w.heap.size (fun _ => True) v0_ r1 ∧ Below w.heap.size w w' := by
  have HB := Aside0.mk (Below.refl w.heap.size w)
  have H : (dragomanref07_Read.l0 k a0 ([] : List ByteArray) (⟨#[]⟩ : ByteArray) 0) = some (r1, r2) := h
  clear h
  have H' := Aside0.mk H
  clear H
  go_enter Try.func21, Try.ntmps21
  go_wp2
  go_loopg [4, 5, 6] k (fun kq v4 v5 v6 w' => ∃ (x4_1 : List ByteArray) (x5_1 : ByteArray) (x6_1 : Int), v5 = .string x5_1 ∧ v6 = .int .i64 x6_1 ∧ Aside0 (dragomanref07_Read.l0 kq a0 x4_1 x5_1 x6_1 = some (r1, r2)) ∧ Aside0 (kq ≤ k) ∧ Aside0 (Kd.R Kd.string 9 w' w.heap.size (fun _ => True) v4 x4_1) ∧ Aside0 (Below w.heap.size w w'))
  case atStart => exact ⟨(([] : List ByteArray)), ((⟨#[]⟩ : ByteArray)), (0), (by first | rfl | (simp; done) | (simp [*]; done)), (by first | rfl | (simp; done) | (simp [*]; done)), H', ⟨Nat.le_refl _⟩, ⟨by first | exact Kd.R_nil _ _ _ _ _ | exact Kd.N_nil _ _ _ _ _ | exact Kd.V_nil _ _ _ _ _ | exact Kd.Q_nil _ _ _ _ _ | exact Kd.S_nil _ _ _ _ _⟩, ⟨by repeat (first | (with_reducible first | exact HB.out | apply below_alloc | apply pw_below_drewN | apply below_drew1) | exact HB.out)⟩⟩
  case round =>
    clear H'
    obtain ⟨x4_1, x5_1, x6_1, rfl, rfl, HA, HK1, HO_4, HB⟩ := hrel
    cases gk with
    | zero => exact absurd HA.out (by simp [dragomanref07_Read.l0])
    | succ k1 =>
      have H := HA.out
      clear HA
      simp only [dragomanref07_Read.l0] at H
      by_cases c2 : x6_1 < (a0.size : Int)
      · rw [if_pos c2] at H
        have c2b0 : decide (x6_1 < (a0.size : Int)) = true := decide_eq_true c2
        clear c2
        by_cases c3 : 0 ≤ x6_1
        · rw [if_pos c3] at H
          have c3b0 : decide (0 ≤ x6_1) = true := decide_eq_true c3
          clear c3
          by_cases c5 : (bt a0 x6_1) = 38
          · rw [if_pos c5] at H
            have c5b0 : ((bt a0 x6_1) == 38) = true := beq_iff_eq.mpr c5
            have c5b1 : ((bt a0 x6_1) != 38) = false := bne_eq_false_iff_eq.mpr c5
            clear c5
            by_cases c6 : x4_1.length < 8796093022208
            · rw [if_pos c6] at H
              have LMc6 := Aside0.mk c6
              clear c6
              obtain ⟨y181, hy181⟩ : ∃ y_ : List ByteArray, y_ = (x4_1 ++ [x5_1]) := ⟨_, rfl⟩
              replace H : (dragomanref07_Read.l0 k1 a0 y181 (⟨#[]⟩ : ByteArray) (wrap64 (x6_1 + 1))) = some (r1, r2) := by first | (rw [hy181]; with_reducible exact H) | (have H2_ := (Option.bind_some _ _).symm.trans H; rw [hy181]; with_reducible exact H2_) | (have H2_ := (Option.bind_some _ _).symm.trans H; with_reducible exact H2_) | with_reducible exact H | (rw [hy181]; exact H) | exact H
              have Ny181 := Aside0.mk hy181
              clear hy181
              have H' := Aside0.mk H
              clear H
              have p4 : 0 ≤ (x6_1 : Int) := of_decide_eq_true (by first | (with_reducible assumption) | assumption)
              have q4 : x6_1 < (a0.size : Int) := of_decide_eq_true (by first | (with_reducible assumption) | assumption)
              have hx4 := bt_at a0 x6_1
              replace p4 := eq_true p4
              replace q4 := eq_true q4
              go_wp2_with (first | ((with_reducible refine gate_builtin (b := .append) (xs := #[.tmp 20, .tmp 22]) rfl ?_); at_builtin; refine Kd.R_append Kd.string (w0 := w) w.heap.size rfl (.tmp 20) (.tmp 22) 25 9 (.string ⟨#[]⟩) 16 rfl Try.underlying25 info9 rfl (by decide) (by omega) u4 x4_1 x5_1 [.string x5_1] (fun _ => True) (fun _ => False) rfl rfl ?aP (fun _ hk => hk.elim) ?aF ?aO ?aB ?aS ?aL ?_; (case aP => exact rfl); (case aB => exact (by repeat (first | (with_reducible first | exact HB.out | apply below_alloc | apply pw_below_drewN | apply below_drew1) | exact HB.out))); (case aF => exact (fun _ _ => trivial)); (case aO => exact (by (with_reducible repeat (first | apply Kd.R_alloc | apply Kd.R_drewN | apply Kd.R_drew)); exact HO_4.out)); (case aS => exact (below_size (by repeat (first | (with_reducible first | exact HB.out | apply below_alloc | apply pw_below_drewN | apply below_drew1) | exact HB.out)))); (case aL => have := LMc6.out; omega); intro v182 w7 ho hb hg hat; rw [← Ny181.out] at ho; have n0_ := Aside0.mk (hb); have n1_ := Aside0.mk (ho); clear HB; clear HO_4; have HB := n0_; have HO183 := n1_; clear n0_ n1_; clear ho hb hg hat))
              go_roundg k1
              case measure => have := HK1.out; omega
              case rel => exact ⟨(y181), ((⟨#[]⟩ : ByteArray)), (wrap64 (x6_1 + 1)), (by first | rfl | (simp; done) | (simp [*]; done)), (by first | rfl | (simp; done) | (simp [*]; done)), H', ⟨by have := HK1.out; omega⟩, ⟨by (with_reducible repeat (first | apply Kd.R_alloc | apply Kd.R_drewN | apply Kd.R_drew)); exact HO183.out⟩, ⟨by repeat (first | (with_reducible first | exact HB.out | apply below_alloc | apply pw_below_drewN | apply below_drew1) | exact HB.out)⟩⟩
            · rw [if_neg c6] at H
              exact absurd H (by simp)
          · rw [if_neg c5] at H
            have c5b0 : ((bt a0 x6_1) == 38) = false := beq_eq_false_iff_ne.mpr c5
            have c5b1 : ((bt a0 x6_1) != 38) = true := bne_iff_ne.mpr c5
            have HC8 := Aside0.mk H
            clear H
            have p4 : 0 ≤ (x6_1 : Int) := of_decide_eq_true (by first | (with_reducible assumption) | assumption)
            have q4 : x6_1 < (a0.size : Int) := of_decide_eq_true (by first | (with_reducible assumption) | assumption)
            have hx4 := bt_at a0 x6_1
            replace p4 := eq_true p4
            replace q4 := eq_true q4
            go_upto_region 10 with (fail)
            go_cut [31] (fun v31 wc => ∃ (kq : Nat) (x31_7 : Bool), v31 = .bool x31_7 ∧ Aside0 (dragomanref07_Read.j1 kq a0 x4_1 x5_1 x6_1 (bt a0 x6_1) x31_7 = some (r1, r2)) ∧ Aside0 (kq ≤ k1) ∧ Aside0 (Kd.R Kd.string 9 wc w.heap.size (fun _ => True) u4 x4_1) ∧ Aside0 (Below w.heap.size w wc))
            case first =>
              have H := HC8.out
              clear HC8
              by_cases c9 : (bt a0 x6_1) = 47
              · rw [if_pos c9] at H
                have c9b0 : ((bt a0 x6_1) == 47) = true := beq_iff_eq.mpr c9
                have c9b1 : ((bt a0 x6_1) != 47) = false := bne_eq_false_iff_eq.mpr c9
                clear c9
                (first | rw [c9b0] | (simp only [i64_w, i32_w]; rw [c9b0]) | skip)
                have H' := Aside0.mk H
                clear H
                go_wp2
                go_meet
                case rel => exact ⟨_, (true), (by first | rfl | (simp; done) | (simp [*]; done)), H', ⟨by have := HK1.out; first | omega | exact Nat.le_refl _⟩, ⟨by (with_reducible repeat (first | apply Kd.R_alloc | apply Kd.R_drewN | apply Kd.R_drew)); exact HO_4.out⟩, ⟨by repeat (first | (with_reducible first | exact HB.out | apply below_alloc | apply pw_below_drewN | apply below_drew1) | exact HB.out)⟩⟩
              · rw [if_neg c9] at H
                have c9b0 : ((bt a0 x6_1) == 47) = false := beq_eq_false_iff_ne.mpr c9
                have c9b1 : ((bt a0 x6_1) != 47) = true := bne_iff_ne.mpr c9
                (first | rw [c9b0] | (simp only [i64_w, i32_w]; rw [c9b0]) | skip)
                have H' := Aside0.mk H
                clear H
                go_wp2
                go_meet
                case rel => exact ⟨_, (((bt a0 x6_1) == 10)), (by first | rfl | (simp; done) | (simp [*]; done)), H', ⟨by have := HK1.out; first | omega | exact Nat.le_refl _⟩, ⟨by (with_reducible repeat (first | apply Kd.R_alloc | apply Kd.R_drewN | apply Kd.R_drew)); exact HO_4.out⟩, ⟨by repeat (first | (with_reducible first | exact HB.out | apply below_alloc | apply pw_below_drewN | apply below_drew1) | exact HB.out)⟩⟩
            case rest =>
              clear HC8
              try clear c2
              try clear c2b0
              try clear p2
              try clear c3
              try clear c3b0
              try clear p4
              try clear q4
              try clear hx4
              try clear c5
              try clear c5b0
              try clear c5b1
              try clear c6
              try clear p6
              try clear c9
              try clear c9b0
              try clear c9b1
              try clear p4
              try clear q4
              obtain ⟨kq, x31_7, rfl, HA, HJ7, HO_4, HB⟩ := hcut
              cases kq with
              | zero => exact absurd HA.out (by simp [dragomanref07_Read.j1])
              | succ kj7 =>
                have H := HA.out
                clear HA
                simp only [dragomanref07_Read.j1] at H
                by_cases c10 : x31_7 = true
                · subst c10
                  have H1 : (some (([] : List ByteArray), 2)) = some (r1, r2) := by rw [if_pos rfl] at H; exact H
                  clear H
                  have H := H1
                  clear H1
                  simp only [Option.some.injEq, Prod.mk.injEq] at H
                  obtain ⟨rfl, rfl⟩ := H
                  go_wp2
                  go_ret2
                  exact ⟨_, by first | rfl | (simp [errW_none, errW_some] <;> rfl) | (simp [*, errW_none, errW_some] <;> rfl), by first | exact Kd.R_nil _ _ _ _ _ | exact Kd.N_nil _ _ _ _ _ | exact Kd.V_nil _ _ _ _ _ | exact Kd.Q_nil _ _ _ _ _ | exact Kd.S_nil _ _ _ _ _, by repeat (first | (with_reducible first | exact HB.out | apply below_alloc | apply pw_below_drewN | apply below_drew1) | exact HB.out)⟩
                · replace c10 := Bool.eq_false_iff.mpr c10
                  subst c10
                  have H1 : (if (bt a0 x6_1) = 92 then (if (wrap64 (x6_1 + 1)) < (a0.size : Int) then (if 0 ≤ (wrap64 (x6_1 + 1)) then (dragomanref07_Read.j2 kj7 a0 x4_1 x5_1 x6_1 ((bt a0 (wrap64 (x6_1 + 1))) == 38)) else (none)) else (dragomanref07_Read.j2 kj7 a0 x4_1 x5_1 x6_1 false)) else ((some (([(bt a0 x6_1)] : List Int) : List Int)).bind fun y184 => (if x5_1.size + (strOfNums y184).size ≤ 9223372036854775807 then (dragomanref07_Read.l0 kj7 a0 x4_1 (x5_1 ++ (strOfNums y184)) (wrap64 (x6_1 + 1))) else (none)))) = some (r1, r2) := by rw [if_neg (show ¬ (false = true) by decide)] at H; exact H
                  clear H
                  have H := H1
                  clear H1
                  by_cases c11 : (bt a0 x6_1) = 92
                  · rw [if_pos c11] at H
                    have c11b0 : ((bt a0 x6_1) == 92) = true := beq_iff_eq.mpr c11
                    have c11b1 : ((bt a0 x6_1) != 92) = false := bne_eq_false_iff_eq.mpr c11
                    clear c11
                    have HC12 := Aside0.mk H
                    clear H
                    go_upto_region 15 with (fail)
                    go_cut [52] (fun v52 wc => ∃ (kq : Nat) (x52_11 : Bool), v52 = .bool x52_11 ∧ Aside0 (dragomanref07_Read.j2 kq a0 x4_1 x5_1 x6_1 x52_11 = some (r1, r2)) ∧ Aside0 (kq ≤ kj7) ∧ Aside0 (Kd.R Kd.string 9 wc w.heap.size (fun _ => True) u4 x4_1) ∧ Aside0 (Below w.heap.size w wc))
                    case first =>
                      have H := HC12.out
                      clear HC12
                      by_cases c13 : (wrap64 (x6_1 + 1)) < (a0.size : Int)
                      · rw [if_pos c13] at H
                        have c13b0 : decide ((wrap64 (x6_1 + 1)) < (a0.size : Int)) = true := decide_eq_true c13
                        try (have c13b0n := c13b0; rw [wrapFit (by omega) (by omega)] at c13b0n)
                        clear c13
                        (first | rw [c13b0] | (simp only [i64_w, i32_w]; rw [c13b0]) | skip)
                        obtain ⟨ji14, hji14⟩ : ∃ j_ : Int, (wrap64 (x6_1 + 1)) = j_ := ⟨_, rfl⟩
                        replace H : (if 0 ≤ (ji14) then (dragomanref07_Read.j2 kj7 a0 x4_1 x5_1 x6_1 ((bt a0 (ji14)) == 38)) else (none)) = some (r1, r2) := by first | (rw [hji14] at H; exact H) | (simp only [hji14] at H ⊢; exact H)
                        (try rw [hji14] at c13b0)
                        have hji14w : (IntKind.i64.wrap (x6_1 + 1)) = ji14 := (i64_w _).trans hji14
                        by_cases c15 : 0 ≤ (ji14)
                        · rw [if_pos c15] at H
                          have c15b0 : decide (0 ≤ (ji14)) = true := decide_eq_true c15
                          clear c15
                          have H' := Aside0.mk H
                          clear H
                          have p16 : 0 ≤ ((ji14) : Int) := of_decide_eq_true (by first | (with_reducible assumption) | assumption)
                          have q16 : (ji14) < (a0.size : Int) := of_decide_eq_true (by first | (with_reducible assumption) | assumption)
                          have hx16 := bt_at a0 (ji14)
                          replace p16 := eq_true p16
                          replace q16 := eq_true q16
                          go_wp2
                          go_meet
                          case rel => exact ⟨_, (((bt a0 (ji14)) == 38)), (by first | rfl | (simp; done) | (simp only [← hji14] <;> (first | rfl | simp)) | (simp [*]; done)), H', ⟨by have := HK1.out; have := HJ7.out; first | omega | exact Nat.le_refl _⟩, ⟨by (with_reducible repeat (first | apply Kd.R_alloc | apply Kd.R_drewN | apply Kd.R_drew)); exact HO_4.out⟩, ⟨by repeat (first | (with_reducible first | exact HB.out | apply below_alloc | apply pw_below_drewN | apply below_drew1) | exact HB.out)⟩⟩
                        · rw [if_neg c15] at H
                          exact absurd H (by simp)
                      · rw [if_neg c13] at H
                        have c13b0 : decide ((wrap64 (x6_1 + 1)) < (a0.size : Int)) = false := decide_eq_false c13
                        try (have c13b0n := c13b0; rw [wrapFit (by omega) (by omega)] at c13b0n)
                        clear c13
                        (first | rw [c13b0] | (simp only [i64_w, i32_w]; rw [c13b0]) | skip)
                        have H' := Aside0.mk H
                        clear H
                        go_wp2
                        go_meet
                        case rel => exact ⟨_, (false), (by first | rfl | (simp; done) | (simp [*]; done)), H', ⟨by have := HK1.out; have := HJ7.out; first | omega | exact Nat.le_refl _⟩, ⟨by (with_reducible repeat (first | apply Kd.R_alloc | apply Kd.R_drewN | apply Kd.R_drew)); exact HO_4.out⟩, ⟨by repeat (first | (with_reducible first | exact HB.out | apply below_alloc | apply pw_below_drewN | apply below_drew1) | exact HB.out)⟩⟩
                    case rest =>
                      clear HC12
                      try clear c1
                      try clear p1
                      try clear q1
                      try clear hx1
                      try clear c2
                      try clear c2b0
                      try clear p2
                      try clear c3
                      try clear c3b0
                      try clear p4
                      try clear q4
                      try clear hx4
                      try clear c5
                      try clear c5b0
                      try clear c5b1
                      try clear c6
                      try clear p6
                      try clear c9
                      try clear c9b0
                      try clear c9b1
                      try clear c10
                      try clear c11
                      try clear c11b0
                      try clear c11b1
                      try clear c13
                      try clear c13b0
                      try clear c15
                      try clear c15b0
                      try clear p16
                      try clear q16
                      try clear hx16
                      try clear p16
                      try clear p2
                      try clear p4
                      try clear p6
                      try clear q16
                      try clear q4
                      obtain ⟨kq, x52_11, rfl, HA, HJ11, HO_4, HB⟩ := hcut
                      cases kq with
                      | zero => exact absurd HA.out (by simp [dragomanref07_Read.j2])
                      | succ kj11 =>
                        have H := HA.out
                        clear HA
                        simp only [dragomanref07_Read.j2] at H
                        by_cases c17 : x52_11 = true
                        · subst c17
                          have H1 : (if x5_1.size + 1 ≤ 9223372036854775807 then (dragomanref07_Read.l0 kj11 a0 x4_1 (x5_1 ++ (⟨#[38]⟩ : ByteArray)) (wrap64 (x6_1 + 2))) else (none)) = some (r1, r2) := by rw [if_pos rfl] at H; exact H
                          clear H
                          have H := H1
                          clear H1
                          by_cases c18 : x5_1.size + 1 ≤ 9223372036854775807
                          · rw [if_pos c18] at H
                            have c18b0 := eq_true c18
                            have c18b1 : decide (x5_1.size + 1 ≤ 9223372036854775807) = true := decide_eq_true c18
                            try have c18b2 : (9223372036854775807 < x5_1.size + 1) = False := eq_false (Nat.not_lt.2 c18)
                            try (have c18b3 := c18b2; simp only [ByteArray.size_append, ByteArray.size_extract, Nat.min_self] at c18b3)
                            have H' := Aside0.mk H
                            clear H
                            go_wp2
                            go_roundg kj11
                            case measure => have := HK1.out; have := HJ7.out; have := HJ11.out; omega
                            case rel => exact ⟨(x4_1), (x5_1 ++ (⟨#[38]⟩ : ByteArray)), (wrap64 (x6_1 + 2)), (by first | rfl | (simp; done) | (simp [*]; done)), (by first | rfl | (simp; done) | (simp [*]; done)), H', ⟨by have := HK1.out; have := HJ7.out; have := HJ11.out; omega⟩, ⟨by (with_reducible repeat (first | apply Kd.R_alloc | apply Kd.R_drewN | apply Kd.R_drew)); exact HO_4.out⟩, ⟨by repeat (first | (with_reducible first | exact HB.out | apply below_alloc | apply pw_below_drewN | apply below_drew1) | exact HB.out)⟩⟩
                          · rw [if_neg c18] at H
                            exact absurd H (by simp)
                        · replace c17 := Bool.eq_false_iff.mpr c17
                          subst c17
                          have H1 : (if 0 ≤ x6_1 then (if x6_1 ≤ (a0.size : Int) then ((dragomanref04_Sign.f kj11 (a0.extract (x6_1 : Int).toNat a0.size)).bind fun bt187 => (if bt187.2.2 = 0 then ((some (([bt187.1] : List Int) : List Int)).bind fun y190 => (if x5_1.size + (strOfNums y190).size ≤ 9223372036854775807 then (dragomanref07_Read.l0 kj11 a0 x4_1 (x5_1 ++ (strOfNums y190)) (wrap64 (x6_1 + bt187.2.1))) else (none))) else (some (([] : List ByteArray), 2)))) else (none)) else (none)) = some (r1, r2) := by rw [if_neg (show ¬ (false = true) by decide)] at H; exact H
                          clear H
                          have H := H1
                          clear H1
                          by_cases c19 : 0 ≤ x6_1
                          · rw [if_pos c19] at H
                            have c19b0 := eq_true c19
                            have c19b1 : decide (0 ≤ x6_1) = true := decide_eq_true c19
                            clear c19
                            by_cases c20 : x6_1 ≤ (a0.size : Int)
                            · rw [if_pos c20] at H
                              have c20b0 := eq_true c20
                              have c20b1 : decide (x6_1 ≤ (a0.size : Int)) = true := decide_eq_true c20
                              clear c20
                              replace H := Option.bind_eq_some_iff.mp H
                              obtain ⟨⟨t187, t188, t189⟩, A210, H⟩ := H
                              replace H : (if t189 = 0 then ((some (([t187] : List Int) : List Int)).bind fun y190 => (if x5_1.size + (strOfNums y190).size ≤ 9223372036854775807 then (dragomanref07_Read.l0 kj11 a0 x4_1 (x5_1 ++ (strOfNums y190)) (wrap64 (x6_1 + t188))) else (none))) else (some (([] : List ByteArray), 2))) = some (r1, r2) := H
                              have A21 := Aside0.mk A210
                              clear A210
                              by_cases c22 : t189 = 0
                              · rw [if_pos c22] at H
                                have c22b0 : (t189 == 0) = true := beq_iff_eq.mpr c22
                                have c22b1 : (t189 != 0) = false := bne_eq_false_iff_eq.mpr c22
                                clear c22
                                obtain ⟨y190, hy190⟩ : ∃ y_ : List Int, y_ = (([t187] : List Int)) := ⟨_, rfl⟩
                                replace H : (if x5_1.size + (strOfNums y190).size ≤ 9223372036854775807 then (dragomanref07_Read.l0 kj11 a0 x4_1 (x5_1 ++ (strOfNums y190)) (wrap64 (x6_1 + t188))) else (none)) = some (r1, r2) := by first | (rw [hy190]; with_reducible exact H) | (have H2_ := (Option.bind_some _ _).symm.trans H; rw [hy190]; with_reducible exact H2_) | (have H2_ := (Option.bind_some _ _).symm.trans H; with_reducible exact H2_) | with_reducible exact H | (rw [hy190]; exact H) | exact H
                                have Ny190 := Aside0.mk hy190
                                clear hy190
                                by_cases c23 : x5_1.size + (strOfNums y190).size ≤ 9223372036854775807
                                · rw [if_pos c23] at H
                                  have c23b0 := eq_true c23
                                  have c23b1 : decide (x5_1.size + (strOfNums y190).size ≤ 9223372036854775807) = true := decide_eq_true c23
                                  try have c23b2 : (9223372036854775807 < x5_1.size + (strOfNums y190).size) = False := eq_false (Nat.not_lt.2 c23)
                                  try (have c23b3 := c23b2; simp only [ByteArray.size_append, ByteArray.size_extract, Nat.min_self] at c23b3)
                                  have H' := Aside0.mk H
                                  clear H
                                  go_wp2_with (first | ((with_reducible refine gate_callee (f := 38) rfl ?_); refine goesL_ (some 61) rfl rfl Try.func38 (by kernel_rfl) rfl #[.string (a0.extract (x6_1 : Int).toNat a0.size)] rfl (by (try simp only [List.map_toArray, List.map_cons, List.map_nil]); first | done | rfl | (simp only [List.length_drop, List.length_take]; rfl)) ?_; (with_reducible refine (dragomanref04_Sign.calls kj11 (a0.extract (x6_1 : Int).toNat a0.size) t187 t188 t189 _ A21.out).mono ?_); rintro e w' ⟨rfl, ⟨nd, rfl⟩⟩; refine ⟨_, rfl, ?_⟩) | ((with_reducible refine gate_dst (N := 69) rfl ?_); refine Kd.R_lit (Kd.int .u8) _ 5 ?hg (N := 69) ?hd (xs := ([t187] : List Int)) (inner := [.int .u8 t187]) (ok := fun _ => True) (okp := fun _ => True) ?hr ?hp (fun _ hk => hk) trivial (Below.refl _ _) (Nat.le_refl _) (by simp) ?_; (case hd => rfl); (case hg => rfl); (case hr => first | (go_simp; done) | (go_simp; rfl)); (case hp => exact (Reps.one (show Kd.M (Kd.int .u8) _ _ _ t187 [.int .u8 t187] from rfl) (Reps.none _ _))); intro v191 w24 ho25 hb hg_ hnew_; clear hg_ hnew_; (first | rw [← Ny190.out] at ho25 | (simp only [Int.reduceToNat] at ho25; rw [← Ny190.out] at ho25)); have n0_ := Aside0.mk (Kd.R_below (by (with_reducible repeat (first | apply Kd.R_alloc | apply Kd.R_drewN | apply Kd.R_drew)); exact HO_4.out) hb); have n1_ := Aside0.mk (Kd.R_lower ho25 (below_size (by repeat (first | (with_reducible first | exact HB.out | apply below_alloc | apply pw_below_drewN | apply below_drew1) | exact HB.out)))); have n2_ := Aside0.mk (below_step (by repeat (first | (with_reducible first | exact HB.out | apply below_alloc | apply pw_below_drewN | apply below_drew1) | exact HB.out)) hb); clear HO_4; clear HB; have HO_4 := n0_; have HO192 := n1_; have HB := n2_; clear n0_ n1_ n2_; clear hb ho25; have hcv26 := own_string (P := Try.prog) Try.underlying58 Try.underlying5 Try.underlying9 (Kd.own_of_R HO192.out)))
                                  go_roundg kj11
                                  case measure => have := HK1.out; have := HJ7.out; have := HJ11.out; omega
                                  case rel => exact ⟨(x4_1), (x5_1 ++ (strOfNums y190)), (wrap64 (x6_1 + t188)), (by first | rfl | (simp; done) | (simp [*]; done)), (by first | rfl | (simp; done) | (simp [*]; done)), H', ⟨by have := HK1.out; have := HJ7.out; have := HJ11.out; omega⟩, ⟨by (with_reducible repeat (first | apply Kd.R_alloc | apply Kd.R_drewN | apply Kd.R_drew)); exact HO_4.out⟩, ⟨by repeat (first | (with_reducible first | exact HB.out | apply below_alloc | apply pw_below_drewN | apply below_drew1) | exact HB.out)⟩⟩
                                · rw [if_neg c23] at H
                                  exact absurd H (by simp)
                              · rw [if_neg c22] at H
                                have c22b0 : (t189 == 0) = false := beq_eq_false_iff_ne.mpr c22
                                have c22b1 : (t189 != 0) = true := bne_iff_ne.mpr c22
                                simp only [Option.some.injEq, Prod.mk.injEq] at H
                                obtain ⟨rfl, rfl⟩ := H
                                go_wp2_with (first | ((with_reducible refine gate_callee (f := 38) rfl ?_); refine goesL_ (some 61) rfl rfl Try.func38 (by kernel_rfl) rfl #[.string (a0.extract (x6_1 : Int).toNat a0.size)] rfl (by (try simp only [List.map_toArray, List.map_cons, List.map_nil]); first | done | rfl | (simp only [List.length_drop, List.length_take]; rfl)) ?_; (with_reducible refine (dragomanref04_Sign.calls kj11 (a0.extract (x6_1 : Int).toNat a0.size) t187 t188 t189 _ A21.out).mono ?_); rintro e w' ⟨rfl, ⟨nd, rfl⟩⟩; refine ⟨_, rfl, ?_⟩))
                                go_ret2
                                exact ⟨_, by first | rfl | (simp [errW_none, errW_some] <;> rfl) | (simp [*, errW_none, errW_some] <;> rfl), by first | exact Kd.R_nil _ _ _ _ _ | exact Kd.N_nil _ _ _ _ _ | exact Kd.V_nil _ _ _ _ _ | exact Kd.Q_nil _ _ _ _ _ | exact Kd.S_nil _ _ _ _ _, by repeat (first | (with_reducible first | exact HB.out | apply below_alloc | apply pw_below_drewN | apply below_drew1) | exact HB.out)⟩
                            · rw [if_neg c20] at H
                              exact absurd H (by simp)
                          · rw [if_neg c19] at H
                            exact absurd H (by simp)
                  · rw [if_neg c11] at H
                    have c11b0 : ((bt a0 x6_1) == 92) = false := beq_eq_false_iff_ne.mpr c11
                    have c11b1 : ((bt a0 x6_1) != 92) = true := bne_iff_ne.mpr c11
                    obtain ⟨y184, hy184⟩ : ∃ y_ : List Int, y_ = (([(bt a0 x6_1)] : List Int)) := ⟨_, rfl⟩
                    replace H : (if x5_1.size + (strOfNums y184).size ≤ 9223372036854775807 then (dragomanref07_Read.l0 kj7 a0 x4_1 (x5_1 ++ (strOfNums y184)) (wrap64 (x6_1 + 1))) else (none)) = some (r1, r2) := by first | (rw [hy184]; with_reducible exact H) | (have H2_ := (Option.bind_some _ _).symm.trans H; rw [hy184]; with_reducible exact H2_) | (have H2_ := (Option.bind_some _ _).symm.trans H; with_reducible exact H2_) | with_reducible exact H | (rw [hy184]; exact H) | exact H
                    have Ny184 := Aside0.mk hy184
                    clear hy184
                    by_cases c27 : x5_1.size + (strOfNums y184).size ≤ 9223372036854775807
                    · rw [if_pos c27] at H
                      have c27b0 := eq_true c27
                      have c27b1 : decide (x5_1.size + (strOfNums y184).size ≤ 9223372036854775807) = true := decide_eq_true c27
                      try have c27b2 : (9223372036854775807 < x5_1.size + (strOfNums y184).size) = False := eq_false (Nat.not_lt.2 c27)
                      try (have c27b3 := c27b2; simp only [ByteArray.size_append, ByteArray.size_extract, Nat.min_self] at c27b3)
                      have H' := Aside0.mk H
                      clear H
                      go_wp2_with (first | ((with_reducible refine gate_dst (N := 36) rfl ?_); refine Kd.R_lit (Kd.int .u8) _ 5 ?hg (N := 36) ?hd (xs := ([(bt a0 x6_1)] : List Int)) (inner := [.int .u8 (bt a0 x6_1)]) (ok := fun _ => True) (okp := fun _ => True) ?hr ?hp (fun _ hk => hk) trivial (Below.refl _ _) (Nat.le_refl _) (by simp) ?_; (case hd => rfl); (case hg => rfl); (case hr => first | (go_simp; done) | (go_simp; rfl)); (case hp => exact (Reps.one (show Kd.M (Kd.int .u8) _ _ _ (bt a0 x6_1) [.int .u8 (bt a0 x6_1)] from rfl) (Reps.none _ _))); intro v185 w28 ho29 hb hg_ hnew_; clear hg_ hnew_; (first | rw [← Ny184.out] at ho29 | (simp only [Int.reduceToNat] at ho29; rw [← Ny184.out] at ho29)); have n0_ := Aside0.mk (Kd.R_below (by (with_reducible repeat (first | apply Kd.R_alloc | apply Kd.R_drewN | apply Kd.R_drew)); exact HO_4.out) hb); have n1_ := Aside0.mk (Kd.R_lower ho29 (below_size (by repeat (first | (with_reducible first | exact HB.out | apply below_alloc | apply pw_below_drewN | apply below_drew1) | exact HB.out)))); have n2_ := Aside0.mk (below_step (by repeat (first | (with_reducible first | exact HB.out | apply below_alloc | apply pw_below_drewN | apply below_drew1) | exact HB.out)) hb); clear HO_4; clear HB; have HO_4 := n0_; have HO186 := n1_; have HB := n2_; clear n0_ n1_ n2_; clear hb ho29; have hcv30 := own_string (P := Try.prog) Try.underlying58 Try.underlying5 Try.underlying9 (Kd.own_of_R HO186.out)))
                      go_roundg kj7
                      case measure => have := HK1.out; have := HJ7.out; omega
                      case rel => exact ⟨(x4_1), (x5_1 ++ (strOfNums y184)), (wrap64 (x6_1 + 1)), (by first | rfl | (simp; done) | (simp [*]; done)), (by first | rfl | (simp; done) | (simp [*]; done)), H', ⟨by have := HK1.out; have := HJ7.out; omega⟩, ⟨by (with_reducible repeat (first | apply Kd.R_alloc | apply Kd.R_drewN | apply Kd.R_drew)); exact HO_4.out⟩, ⟨by repeat (first | (with_reducible first | exact HB.out | apply below_alloc | apply pw_below_drewN | apply below_drew1) | exact HB.out)⟩⟩
                    · rw [if_neg c27] at H
                      exact absurd H (by simp)
        · rw [if_neg c3] at H
          exact absurd H (by simp)
      · rw [if_neg c2] at H
        have c2b0 : decide (x6_1 < (a0.size : Int)) = false := decide_eq_false c2
        clear c2
        by_cases c31 : x4_1.length < 8796093022208
        · rw [if_pos c31] at H
          have LMc31 := Aside0.mk c31
          clear c31
          obtain ⟨y178, hy178⟩ : ∃ y_ : List ByteArray, y_ = (x4_1 ++ [x5_1]) := ⟨_, rfl⟩
          replace H : (some (y178, 0)) = some (r1, r2) := by first | (rw [hy178]; with_reducible exact H) | (have H2_ := (Option.bind_some _ _).symm.trans H; rw [hy178]; with_reducible exact H2_) | (have H2_ := (Option.bind_some _ _).symm.trans H; with_reducible exact H2_) | with_reducible exact H | (rw [hy178]; exact H) | exact H
          have Ny178 := Aside0.mk hy178
          clear hy178
          simp only [Option.some.injEq, Prod.mk.injEq] at H
          obtain ⟨rfl, rfl⟩ := H
          go_wp2_with (first | ((with_reducible refine gate_builtin (b := .append) (xs := #[.tmp 75, .tmp 77]) rfl ?_); at_builtin; refine Kd.R_append Kd.string (w0 := w) w.heap.size rfl (.tmp 75) (.tmp 77) 25 9 (.string ⟨#[]⟩) 16 rfl Try.underlying25 info9 rfl (by decide) (by omega) u4 x4_1 x5_1 [.string x5_1] (fun _ => True) (fun _ => False) rfl rfl ?aP (fun _ hk => hk.elim) ?aF ?aO ?aB ?aS ?aL ?_; (case aP => exact rfl); (case aB => exact (by repeat (first | (with_reducible first | exact HB.out | apply below_alloc | apply pw_below_drewN | apply below_drew1) | exact HB.out))); (case aF => exact (fun _ _ => trivial)); (case aO => exact (by (with_reducible repeat (first | apply Kd.R_alloc | apply Kd.R_drewN | apply Kd.R_drew)); exact HO_4.out)); (case aS => exact (below_size (by repeat (first | (with_reducible first | exact HB.out | apply below_alloc | apply pw_below_drewN | apply below_drew1) | exact HB.out)))); (case aL => have := LMc31.out; omega); intro v179 w32 ho hb hg hat; rw [← Ny178.out] at ho; have n0_ := Aside0.mk (hb); have n1_ := Aside0.mk (ho); clear HB; clear HO_4; have HB := n0_; have HO180 := n1_; clear n0_ n1_; clear ho hb hg hat))
          go_ret2
          exact ⟨_, by first | rfl | (simp [errW_none, errW_some] <;> rfl) | (simp [*, errW_none, errW_some] <;> rfl), by (with_reducible repeat (first | apply Kd.R_alloc | apply Kd.R_drewN | apply Kd.R_drew)); exact HO180.out, by repeat (first | (with_reducible first | exact HB.out | apply below_alloc | apply pw_below_drewN | apply below_drew1) | exact HB.out)⟩
        · rw [if_neg c31] at H
          exact absurd H (by simp)

end Go.Proofs.Ythnfmpieoondaaa.QA
