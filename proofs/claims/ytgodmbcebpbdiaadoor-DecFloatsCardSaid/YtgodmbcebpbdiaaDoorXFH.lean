/- DecFloats: both floats come to the same, at every quotient of two numbers and every power of two. -/
import Derived.Test.YtgodmbcebpbdiaaDoorXFm
import Derived.Test.YtgodmbcebpbdiaaDoorXPr
set_option linter.unusedVariables false
set_option linter.unusedSimpArgs false
set_option maxRecDepth 100000
namespace Go.Proofs.YtgodmbcebpbdiaaDoor.QF
open Go.RowKit Go.Proofs.YtgodmbcebpbdiaaDoorW.PrintWords Go.Proofs.YtgodmbcebpbdiaaDoorW.PrintLast
open Go.Proofs.YtgodmbcebpbdiaaDoor.FL Go.Proofs.YtgodmbcebpbdiaaDoor.G

/-- A sum, a product, a quotient of floats: some float; where the operation is valid, the one that it tells; else what is no number. -/
theorem arith_any (op : BinOp) (hop : op = .sub ∨ op = .mul ∨ op = .quo) (x y : Nat) (w : World) :
    ∃ r n, r < 18446744073709551616 ∧ (binOp op 38 (.float .f64 x) (.float .f64 y)).run Tryd.prog w = .ok (.float .f64 r) (w.drewN n) ∧ (floatBits op .f64 x y = none → floatV r = (0, 5)) ∧ (∀ q, floatBits op .f64 x y = some q → r = q) := by
  cases hb : floatBits op .f64 x y with
  | some q =>
    refine ⟨q, 0, ?_, run_float_arith w op 38 .f64 x y q hb, fun h => (by cases h), fun q' h => Option.some.inj h⟩
    have := floatBits_wf hb
    simpa [Lit.wf] using this
  | none =>
    have hrun : (binOp op 38 (.float .f64 x) (.float .f64 y)).run Tryd.prog w = .ok (.float .f64 (Question.cut (.nanBits .f64 x y) (w.tape w.drawn (.nanBits .f64 x y)))) w.drew := by
      unfold floatBits at hb
      rcases hop with rfl | rfl | rfl <;> simp only at hb <;> simp [binOp, Op.floatArith, hb, Question.forced]
    have key : ∀ a c : Nat, a ≤ 1 → c ≤ 4503599627370494 → fieldE (a * 9223372036854775808 + 9218868437227405312 + 1 + c) = 2047 ∧ fracN (a * 9223372036854775808 + 9218868437227405312 + 1 + c) ≠ 0 ∧ a * 9223372036854775808 + 9218868437227405312 + 1 + c < 18446744073709551616 := by
      intro a c ha hc
      unfold fieldE fracN
      rcases (show a = 0 ∨ a = 1 by omega) with rfl | rfl <;> omega
    have hcut : ∀ t, Question.cut (.nanBits .f64 x y) t = (t % 2) * 2 ^ 63 + 0x7ff0000000000000 + 1 + (t / 2) % (2 ^ 52 - 1) := fun t => rfl
    refine ⟨_, 1, ?_, hrun, fun _ => ?_, fun q h => (by cases h)⟩
    · rw [hcut]; exact (key _ _ (by omega) (by omega)).2.2
    · rw [hcut]
      have := key (w.tape w.drawn (.nanBits .f64 x y) % 2) (w.tape w.drawn (.nanBits .f64 x y) / 2 % (2 ^ 52 - 1)) (by omega) (by omega)
      exact floatV_nan _ this.1 this.2.1
theorem sub_same (y : Nat) (r1 r2 : Nat) (h1 : floatBits .sub .f64 0 y = none → floatV r1 = (0, 5)) (h2 : floatBits .sub .f64 0 y = none → floatV r2 = (0, 5))
    (k1 : ∀ q, floatBits .sub .f64 0 y = some q → r1 = q) (k2 : ∀ q, floatBits .sub .f64 0 y = some q → r2 = q) : floatV r1 = floatV r2 := by
  cases h : floatBits .sub .f64 0 y with
  | none => rw [h1 h, h2 h]
  | some q => rw [k1 q h, k2 q h]
theorem shown_calls (w : World) (hG : GT w) : Calls Tryd.prog 12 #[] w fun e w' => e = .returned (.bool true) ∧ Below w.heap.size w w' :=
  QT.dragomanlaw02_shown.calls 21 true w hG (PT.shown_f 21 (by decide))
def dragomanlaw02_DecFloats.Pure : Prop := True
set_option maxHeartbeats 8000000 in
theorem dragomanlaw02_DecFloats.walk (P : dragomanlaw02_DecFloats.Pure) (a0 : Int) (a1 : Int) (a2 : Int) (w : World) (w0 : (Lit.int .i64 a0).wf = true) (w1 : (Lit.int .i64 a1).wf = true) (w2 : (Lit.int .i64 a2).wf = true) (hG : GT w) :
    Calls Tryd.prog 10 #[.int .i64 a0, .int .i64 a1, .int .i64 a2] w fun e w' => e = .returned (.bool true) ∧ Below w.heap.size w w' := by
  have HG := Aside0.mk hG
  clear hG w0 w1 w2 P
  have hci : ∀ (n : Int) (w : World), (convert 2 38 (.int .i64 n)).run Tryd.prog w = .ok (.float .f64 (floatOfInt .f64 n)) w := fun n w => run_convert_int_float w 2 38 .i64 .f64 n (by kernel_rfl) (by kernel_rfl)
  go_enter Tryd.func10, Tryd.ntmps10
  go_wp2_with fail
  refine (shown_calls w HG.out).mono ?_
  rintro e wa ⟨rfl, hb⟩
  have B1 := Aside0.mk hb; clear hb
  by_cases h1 : a2 < -1100
  · have c1 : decide (a2 < -1100) = true := decide_eq_true h1
    clear h1
    go_wp2
    go_ret
    exact ⟨rfl, B1.out⟩
  · have c1 : decide (a2 < -1100) = false := decide_eq_false h1
    by_cases h2 : 1100 < a2
    · have c2 : decide (1100 < a2) = true := decide_eq_true h2
      clear h1 h2
      go_wp2
      go_ret
      exact ⟨rfl, B1.out⟩
    · have c2 : decide (1100 < a2) = false := decide_eq_false h2
      obtain ⟨x, n, hx, hq, -, -⟩ := arith_any .quo (Or.inr (Or.inr rfl)) (floatOfInt .f64 a0) (floatOfInt .f64 a1) wa
      have HX := Aside0.mk hx; clear hx
      have HH := Aside0.mk (And.intro h1 h2); clear h1 h2
      go_wp2_with fail
      have B2 := Aside0.mk (pw_below_drewN B1.out n)
      clear B1 hq
      generalize wa.drewN n = wb at *
      go_loopw [8, 9] (fun v8 v9 wr => ∃ (x k : Nat), k ≤ 1100 ∧ v8 = .float .f64 x ∧ v9 = .int .i64 k ∧ Aside0 (x < 18446744073709551616) ∧ Aside0 (Below w.heap.size w wr)) (fun _ v9 _ => 1101 - (intOf v9).toNat)
      case atStart => exact ⟨x, 0, by omega, rfl, rfl, HX, B2⟩
      case round =>
        clear B2 HX
        obtain ⟨x, k, hk, rfl, rfl, HX, B2⟩ := hrel
        by_cases hlt : (k : Int) < a2
        · have c3 : decide ((k : Int) < a2) = true := decide_eq_true hlt
          have hk2 : k < 1100 := by have := HH.out.2; omega
          obtain ⟨r, n, hr, hq, -, -⟩ := arith_any .mul (Or.inr (Or.inl rfl)) x 4611686018427387904 wr
          have HR := Aside0.mk hr; clear hr
          go_wp2
          exact ⟨⟨r, k + 1, by omega, rfl, rfl, HR, ⟨pw_below_drewN B2.out n⟩⟩, by simp [intOf]; omega⟩
        · have c3 : decide ((k : Int) < a2) = false := decide_eq_false hlt
          go_wp2_with fail
          go_loopw [8, 10] (fun v8 v10 wr => ∃ (x k : Nat), k ≤ 1100 ∧ v8 = .float .f64 x ∧ v10 = .int .i64 (-(k : Int)) ∧ Aside0 (x < 18446744073709551616) ∧ Aside0 (Below w.heap.size w wr)) (fun _ v10 _ => (intOf v10 + 1101).toNat)
          case atStart => exact ⟨x, 0, by omega, rfl, rfl, HX, B2⟩
          case round =>
            clear B2 HX
            obtain ⟨x, k2, hk2, rfl, rfl, HX, B2⟩ := hrel
            by_cases hlt2 : a2 < -(k2 : Int)
            · have c4 : decide (a2 < -(k2 : Int)) = true := decide_eq_true hlt2
              have hk3 : k2 < 1100 := by have := HH.out.1; omega
              obtain ⟨r, n, hr, hq, -, -⟩ := arith_any .quo (Or.inr (Or.inr rfl)) x 4611686018427387904 wr
              have HR := Aside0.mk hr; clear hr
              go_wp2
              refine ⟨⟨r, k2 + 1, by omega, rfl, ?_, HR, ⟨pw_below_drewN B2.out n⟩⟩, by simp [intOf]; omega⟩
              congr 1; omega
            · have c4 : decide (a2 < -(k2 : Int)) = false := decide_eq_false hlt2
              clear hlt hlt2
              go_wp2_with fail
              refine (dfloat_calls x wr HX.out).mono ?_
              rintro e wc ⟨rfl, hb⟩
              have B3 := Aside0.mk (below_then B2.out B2.out.size hb)
              clear hb B2
              go_wp2_with fail
              refine (rfloat_calls x wc HX.out).mono ?_
              rintro e wd ⟨rfl, hb⟩
              have B4 := Aside0.mk (below_then B3.out B3.out.size hb)
              clear hb B3
              obtain ⟨r1, n1, hr1, hq1, s1, t1⟩ := arith_any .sub (Or.inl rfl) 0 x wd
              have S1 := Aside0.mk (And.intro s1 t1); clear s1 t1
              generalize floatV x = fv at *
              go_wp2_with fail
              have B5 := Aside0.mk (pw_below_drewN B4.out n1)
              clear B4 hq1
              generalize wd.drewN n1 = we at *
              refine (dfloat_calls r1 we hr1).mono ?_
              rintro e wf ⟨rfl, hb⟩
              have B6 := Aside0.mk (below_then B5.out B5.out.size hb)
              clear hb B5
              obtain ⟨r2, n2, hr2, hq2, s2, t2⟩ := arith_any .sub (Or.inl rfl) 0 x wf
              have hS := sub_same x r1 r2 S1.out.1 s2 S1.out.2 t2
              have HS := Aside0.mk hS
              clear hS s2 t2 S1
              generalize floatV r1 = fw at *
              go_wp2_with fail
              have B7 := Aside0.mk (pw_below_drewN B6.out n2)
              clear B6 hq2
              generalize wf.drewN n2 = wg at *
              refine (rfloat_calls r2 wg hr2).mono ?_
              rintro e wh ⟨rfl, hb⟩
              have B8 := Aside0.mk (below_then B7.out B7.out.size hb)
              clear hb B7
              rw [← HS.out]
              obtain ⟨u1, u2⟩ := fv
              obtain ⟨u3, u4⟩ := fw
              have d1 : (u1 == u1) = true := beq_self_eq_true u1
              have d2 : (u2 == u2) = true := beq_self_eq_true u2
              have d3 : (u3 == u3) = true := beq_self_eq_true u3
              have d4 : (u4 == u4) = true := beq_self_eq_true u4
              go_wp2
              go_ret
              exact ⟨rfl, B8.out⟩
end Go.Proofs.YtgodmbcebpbdiaaDoor.QF
namespace Go.Proofs.YtgodmbcebpbdiaaDoor.Pure
theorem DecFloats : QF.dragomanlaw02_DecFloats.Pure := trivial
end Go.Proofs.YtgodmbcebpbdiaaDoor.Pure
