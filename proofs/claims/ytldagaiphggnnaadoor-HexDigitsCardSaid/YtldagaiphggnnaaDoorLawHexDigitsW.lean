/- The walk of the law HexDigits: at every byte it returns true. Condition: the table of figures lies as it is laid. -/
import Derived.Test.YtldagaiphggnnaaDoorPureA
set_option linter.unusedVariables false
set_option linter.unusedSimpArgs false
namespace Go.Proofs.YtldagaiphggnnaaDoor.QD
open Go.RowKit Go.Proofs.YtldagaiphggnnaaDoorW.PrintWords Go.Proofs.YtldagaiphggnnaaDoorW.PrintLast Go.Proofs.YtldagaiphggnnaaDoor.G Go.Proofs.YtldagaiphggnnaaDoor.GA Go.Proofs.YtldagaiphggnnaaDoor.QA Go.Proofs.YtldagaiphggnnaaDoor.PA Go.Proofs.YtldagaiphggnnaaDoor.Pure

theorem digit_calls (c : Int) (h0 : 0 ≤ c) (h1 : c ≤ 255) (w : World) : Calls Tryd.prog 13 #[.int .u8 c] w fun e w' => e = .returned (.int .i64 (dig c)) ∧ Below w.heap.size w w' :=
  (hex_Digit.calls 2 c (dig c) w (digit_f c 0 h0 h1)).mono fun e w' ⟨he, hd⟩ => ⟨he, hd.below⟩
theorem lit_convert (c : Int) (W : World) : (convert 24 9 (.slice (some ⟨W.heap.size, 0, none⟩) 1 1)).run Tryd.prog (W.alloc (.cells #[.int .u8 c] 5)) = .ok (.string (strOfNums [c])) (W.alloc (.cells #[.int .u8 c] 5)) := by
  refine run_convert_bytes_arg _ 24 5 Tryd.underlying24 Tryd.underlying5 W.heap.size 0 1 1 [c] rfl (fun i hi => ?_) 9 Tryd.underlying9
  obtain rfl : i = 0 := by omega
  have h := heap_alloc_new W (.cells #[.int .u8 c] 5)
  unfold World.cell?
  simp only [h]
  rfl
theorem three (c : Int) (h0 : 0 ≤ c) (h1 : c ≤ 255) : ∃ H, hexV (strOfNums [c]) = H ∧ H.size = 3 ∧ bt H 1 = dg (c / 16) ∧ bt H 2 = dg (c % 16) := by
  have hB : Bytes [c] := by intro x hx; simp at hx; subst hx; exact ⟨h0, h1⟩
  have hb := bytes_hexV (strOfNums [c])
  rw [bytesOf_strOfNums _ hB] at hb
  have hz := size_hexV (strOfNums [c])
  rw [strOfNums_size] at hz
  generalize hexV (strOfNums [c]) = H at *
  have hz3 : H.size = 3 := hz
  have e1 := bt_get H 1 (by omega)
  have e2 := bt_get H 2 (by omega)
  refine ⟨H, rfl, hz3, ?_, ?_⟩
  · refine (show bt H 1 = _ from e1).trans ?_
    simp only [hb]; rfl
  · refine (show bt H 2 = _ from e2).trans ?_
    simp only [hb]; rfl
set_option maxHeartbeats 4000000 in
set_option maxRecDepth 100000 in
theorem dragomanlaw01_HexDigits.walk (P : True) (a0 : Int) (w : World) (w0 : (Lit.int .u8 a0).wf = true) (hG : GT w) :
    Calls Tryd.prog 4 #[.int .u8 a0] w fun e w' => e = .returned (.bool true) ∧ Below w.heap.size w w' := by
  obtain ⟨c0, c1⟩ := u8_range w0
  obtain ⟨H, hH, hz, hb1, hb2⟩ := three a0 c0 c1
  have hx := hex_Hex.calls (strOfNums [a0]) H
  have hxf : hex_Hex.f (strOfNums [a0]) = some H := by rw [hex_f _ (by rw [strOfNums_size]; exact (by decide : (1 : Nat) ≤ 70368744177000)), hH]
  have HX := Lib.hid hxf
  have HG := Lib.hid hG
  have hcv := lit_convert a0
  have r1 : 0 ≤ dg (a0 / 16) ∧ dg (a0 / 16) ≤ 255 := by unfold dg; split <;> omega
  have r2 : 0 ≤ dg (a0 % 16) ∧ dg (a0 % 16) ≤ 255 := by unfold dg; split <;> omega
  have d1 := dig_dg (a0 / 16) (by omega) (by omega)
  have d2 := dig_dg (a0 % 16) (by omega) (by omega)
  have p1 : 1 < H.size := by omega
  have p2 : 2 < H.size := by omega
  have f1 : ((H[1]'p1).toNat : Int) = dg (a0 / 16) := (bt_at H 1 p1).trans hb1
  have f2 : ((H[2]'p2).toNat : Int) = dg (a0 % 16) := (bt_at H 2 p2).trans hb2
  have hzi : ((H.size : Int) != 3) = false := by rw [bne_eq_false_iff_eq]; omega
  have D1 := Lib.hid d1
  have D2 := Lib.hid d2
  clear hx hb1 hb2 hxf hH hG d1 d2 P hz
  go_enter Tryd.func4, Tryd.ntmps4
  go_wp2_with fail
  refine (dragomanlaw01_shown.calls true _ HG.out shown_f).mono ?_
  rintro e w1 ⟨rfl, hB1⟩
  go_wp2_with fail
  refine (hex_Hex.calls (strOfNums [a0]) H _ HX.out).mono ?_
  rintro e w2 ⟨rfl, hB2⟩
  go_wp2_with fail
  refine (digit_calls _ r1.1 r1.2 _).mono ?_
  rw [D1.out]
  rintro e w3 ⟨rfl, hB3⟩
  go_wp2_with fail
  refine (digit_calls _ r2.1 r2.2 _).mono ?_
  rw [D2.out]
  rintro e w4 ⟨rfl, hB4⟩
  go_wp2_with fail
  have he16 : (16 * (a0 / 16) + a0 % 16 == a0) = true := by rw [beq_iff_eq]; omega
  have hbb : Below w.heap.size w w4 := below_step (below_step (below_step (below_alloc hB1 _) hB2) hB3) hB4
  have HBB := Lib.hid hbb; clear hbb hB1 hB2 hB3 hB4
  rcases (by omega : (a0 < 48) ∨ (48 ≤ a0 ∧ a0 ≤ 57) ∨ (57 < a0 ∧ a0 < 65) ∨ (65 ≤ a0 ∧ a0 ≤ 70) ∨ (70 < a0 ∧ a0 < 97) ∨ (97 ≤ a0 ∧ a0 ≤ 102) ∨ (102 < a0)) with h1 | ⟨h1, h2⟩ | ⟨h1, h2⟩ | ⟨h1, h2⟩ | ⟨h1, h2⟩ | ⟨h1, h2⟩ | h1
  · have hd : dig a0 = -1 := by unfold dig; repeat (first | rw [if_pos (by omega)] | rw [if_neg (by omega)])
    refine (digit_calls _ c0 c1 _).mono ?_
    rw [hd]
    clear hd
    rintro e w5 ⟨rfl, hB5⟩
    have HB5 := Lib.hid (below_step HBB.out hB5); clear hB5
    go_wp2_with fail
    go_ret
    refine ⟨?_, HB5.out⟩
    exact ret_bool (by first | rfl | (simp; omega))
  · have hd : dig a0 = a0 - 48 := by unfold dig; repeat (first | rw [if_pos (by omega)] | rw [if_neg (by omega)])
    refine (digit_calls _ c0 c1 _).mono ?_
    rw [hd]
    clear hd
    rintro e w5 ⟨rfl, hB5⟩
    have HB5 := Lib.hid (below_step HBB.out hB5); clear hB5
    go_wp2_with fail
    go_ret
    refine ⟨?_, HB5.out⟩
    exact ret_bool (by first | rfl | (simp; omega))
  · have hd : dig a0 = -1 := by unfold dig; repeat (first | rw [if_pos (by omega)] | rw [if_neg (by omega)])
    refine (digit_calls _ c0 c1 _).mono ?_
    rw [hd]
    clear hd
    rintro e w5 ⟨rfl, hB5⟩
    have HB5 := Lib.hid (below_step HBB.out hB5); clear hB5
    go_wp2_with fail
    go_ret
    refine ⟨?_, HB5.out⟩
    exact ret_bool (by first | rfl | (simp; omega))
  · have hd : dig a0 = a0 - 55 := by unfold dig; repeat (first | rw [if_pos (by omega)] | rw [if_neg (by omega)])
    refine (digit_calls _ c0 c1 _).mono ?_
    rw [hd]
    clear hd
    rintro e w5 ⟨rfl, hB5⟩
    have HB5 := Lib.hid (below_step HBB.out hB5); clear hB5
    go_wp2_with fail
    go_ret
    refine ⟨?_, HB5.out⟩
    exact ret_bool (by first | rfl | (simp; omega))
  · have hd : dig a0 = -1 := by unfold dig; repeat (first | rw [if_pos (by omega)] | rw [if_neg (by omega)])
    refine (digit_calls _ c0 c1 _).mono ?_
    rw [hd]
    clear hd
    rintro e w5 ⟨rfl, hB5⟩
    have HB5 := Lib.hid (below_step HBB.out hB5); clear hB5
    go_wp2_with fail
    go_ret
    refine ⟨?_, HB5.out⟩
    exact ret_bool (by first | rfl | (simp; omega))
  · have hd : dig a0 = a0 - 87 := by unfold dig; repeat (first | rw [if_pos (by omega)] | rw [if_neg (by omega)])
    refine (digit_calls _ c0 c1 _).mono ?_
    rw [hd]
    clear hd
    rintro e w5 ⟨rfl, hB5⟩
    have HB5 := Lib.hid (below_step HBB.out hB5); clear hB5
    go_wp2_with fail
    go_ret
    refine ⟨?_, HB5.out⟩
    exact ret_bool (by first | rfl | (simp; omega))
  · have hd : dig a0 = -1 := by unfold dig; repeat (first | rw [if_pos (by omega)] | rw [if_neg (by omega)])
    refine (digit_calls _ c0 c1 _).mono ?_
    rw [hd]
    clear hd
    rintro e w5 ⟨rfl, hB5⟩
    have HB5 := Lib.hid (below_step HBB.out hB5); clear hB5
    go_wp2_with fail
    go_ret
    refine ⟨?_, HB5.out⟩
    exact ret_bool (by first | rfl | (simp; omega))
end Go.Proofs.YtldagaiphggnnaaDoor.QD
namespace Go.Proofs.YtldagaiphggnnaaDoor.Pure
theorem HexDigits : True := trivial
end Go.Proofs.YtldagaiphggnnaaDoor.Pure
