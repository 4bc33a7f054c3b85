/- The document's products, quotients, whole parts and whole numbers, walked. -/
import Derived.Test.YtgodmbcebpbdiaaDoorZMm
set_option linter.unusedVariables false
set_option linter.unusedSimpArgs false
namespace Go.Proofs.YtgodmbcebpbdiaaDoor.R2
open Go.RowKit Go.Proofs.YtgodmbcebpbdiaaDoorW.PrintWords

theorem mulL_calls (b b2 : Bool) (l l2 : List Int) (w : World) (h : Num l) (h2 : Num l2) :
    Calls Tryd.prog 54 #[.agg (cellsI b l), .agg (cellsI b2 l2)] w fun e w' => e = .returned (.agg (cellsI (b != b2) (mulL l l2))) ∧ Below w.heap.size w w' := mul_calls b b2 l l2 w h h2
theorem size_range {n : Int} (h0 : -9223372036854775808 ≤ n) (h1 : n ≤ 9223372036854775807) : 0 ≤ size n ∧ size n ≤ 9223372036854775808 := by
  unfold size; split <;> omega
theorem ofs {n : Int} (h0 : -9223372036854775808 ≤ n) (h1 : n ≤ 9223372036854775807) : Num (ofL (size n)) ∧ val (ofL (size n)) = size n := by
  have := size_range h0 h1
  exact of_num this.1 (by omega)
theorem ofm : Num (ofL 1000000) ∧ val (ofL 1000000) = 1000000 := of_num (by decide) (by decide)
theorem p4v : pw 4 = 340282366920938463463374607431768211456 := by decide
theorem p11v : 340282366920938463463374607431768211456 ≤ pw 11 := by decide
theorem ofL_low (u : Int) : (ofL u).getD 0 0 + 4294967296 * (ofL u).getD 1 0 = u := by
  show u % 4294967296 + 4294967296 * (u / 4294967296) = u
  omega
def rMul (a b : Int) : Int × Int := toldN (below a != below b) (size a * size b / 1000000)
def rDiv (a b : Int) : Int × Int := if b = 0 then (0, 4) else toldN (below a != below b) (size a * 1000000 / size b)
def rWhole (a : Int) : Int × Int := toldN (below a) (size a * 1000000)
def rTrunc (a : Int) : Int := (toldN (below a) (size a / 1000000)).1
section
variable (a b : Int) (w : World) (a0 : -9223372036854775808 ≤ a) (a1 : a ≤ 9223372036854775807) (b0 : -9223372036854775808 ≤ b) (b1 : b ≤ 9223372036854775807)
include a0 a1
set_option maxHeartbeats 4000000 in
set_option maxRecDepth 100000 in
theorem rWhole_calls : Calls Tryd.prog 31 #[.int .i64 a] w fun e w' => e = .returned (.tuple #[.int .i64 (rWhole a).1, .int .i64 (rWhole a).2]) ∧ Below w.heap.size w w' := by
  obtain ⟨nA, vA⟩ := ofs a0 a1
  have hA := size_range a0 a1
  obtain ⟨nM, vM⟩ := mul_val nA ofm.1 (by rw [vA, p4v]; omega)
  rw [ofL_low, vA] at vM
  have hfin : backV (below a) (mulL (ofL (size a)) (ofL 1000000)) = rWhole a := by rw [back_val _ nM, vM]; rfl
  have HF := Aside0.mk hfin; clear hfin vM vA
  have NA := Aside0.mk nA; have NM := Aside0.mk nM; clear nA nM hA
  go_enter Tryd.func31, Tryd.ntmps31
  go_wp2_with fail
  refine (of_calls a w a0 a1).mono ?_
  rintro e w1 ⟨rfl, h1⟩
  go_wp2_with fail
  refine (million_calls w1).mono ?_
  rintro e w2 ⟨rfl, h2⟩
  go_wp2_with fail
  refine (mulL_calls (below a) false _ _ w2 NA.out ofm.1).mono ?_
  rintro e w3 ⟨rfl, h3⟩
  go_wp2_with fail
  refine (back_calls _ _ w3 NM.out).mono ?_
  rintro e w4 ⟨rfl, h4⟩
  have HB := Aside0.mk (below_then (below_then (below_then h1 h1.size h2) (below_then h1 h1.size h2).size h3) (below_then (below_then h1 h1.size h2) (below_then h1 h1.size h2).size h3).size h4)
  rw [HF.out]
  clear h1 h2 h3 h4
  go_wp2
  go_ret2
  exact ⟨rfl, HB.out⟩
set_option maxHeartbeats 4000000 in
set_option maxRecDepth 100000 in
theorem rTrunc_calls : Calls Tryd.prog 32 #[.int .i64 a] w fun e w' => e = .returned (.int .i64 (rTrunc a)) ∧ Below w.heap.size w w' := by
  obtain ⟨nA, vA⟩ := ofs a0 a1
  have hA := size_range a0 a1
  obtain ⟨nM, vM⟩ := div_val nA ofm.1 (by rw [ofm.2]; decide) (by rw [ofm.2]; exact Int.lt_of_lt_of_le (by decide) p11v)
  rw [vA, ofm.2] at vM
  have hfin : backV (below a) (divL (ofL (size a)) (ofL 1000000)) = toldN (below a) (size a / 1000000) := by rw [back_val _ nM, vM]
  have HF := Aside0.mk hfin; clear hfin vM vA
  have NA := Aside0.mk nA; have NM := Aside0.mk nM; clear nA nM hA
  go_enter Tryd.func32, Tryd.ntmps32
  go_wp2_with fail
  refine (of_calls a w a0 a1).mono ?_
  rintro e w1 ⟨rfl, h1⟩
  go_wp2_with fail
  refine (million_calls w1).mono ?_
  rintro e w2 ⟨rfl, h2⟩
  go_wp2_with fail
  refine (div_calls (below a) false _ _ w2 NA.out ofm.1).mono ?_
  rintro e w3 ⟨rfl, h3⟩
  go_wp2_with fail
  refine (back_calls _ _ w3 NM.out).mono ?_
  rintro e w4 ⟨rfl, h4⟩
  have HB := Aside0.mk (below_then (below_then (below_then h1 h1.size h2) (below_then h1 h1.size h2).size h3) (below_then (below_then h1 h1.size h2) (below_then h1 h1.size h2).size h3).size h4)
  rw [HF.out]
  clear h1 h2 h3 h4
  go_wp2
  go_ret
  exact ⟨rfl, HB.out⟩
include b0 b1
set_option maxHeartbeats 4000000 in
set_option maxRecDepth 100000 in
theorem rMul_calls : Calls Tryd.prog 28 #[.int .i64 a, .int .i64 b] w fun e w' => e = .returned (.tuple #[.int .i64 (rMul a b).1, .int .i64 (rMul a b).2]) ∧ Below w.heap.size w w' := by
  obtain ⟨nA, vA⟩ := ofs a0 a1
  obtain ⟨nB, vB⟩ := ofs b0 b1
  have hA := size_range a0 a1
  have hB := size_range b0 b1
  obtain ⟨nM, vM⟩ := mul_val nA nB (by rw [vA, p4v]; omega)
  rw [ofL_low, vA] at vM
  obtain ⟨nD, vD⟩ := div_val nM ofm.1 (by rw [ofm.2]; decide) (by rw [ofm.2]; exact Int.lt_of_lt_of_le (by decide) p11v)
  rw [vM, ofm.2] at vD
  have hfin : backV (below a != below b) (divL (mulL (ofL (size a)) (ofL (size b))) (ofL 1000000)) = rMul a b := by rw [back_val _ nD, vD]; rfl
  have HF := Aside0.mk hfin; clear hfin vM vA vB vD
  have NA := Aside0.mk nA; have NB := Aside0.mk nB; have NM := Aside0.mk nM; have ND := Aside0.mk nD; clear nA nM nB nD hA hB
  go_enter Tryd.func28, Tryd.ntmps28
  go_wp2_with fail
  refine (of_calls a w a0 a1).mono ?_
  rintro e w1 ⟨rfl, h1⟩
  go_wp2_with fail
  refine (of_calls b w1 b0 b1).mono ?_
  rintro e w2 ⟨rfl, h2⟩
  have h2 := below_then h1 h1.size h2
  go_wp2_with fail
  refine (mulL_calls (below a) (below b) _ _ w2 NA.out NB.out).mono ?_
  rintro e w3 ⟨rfl, h3⟩
  have h3 := below_then h2 h2.size h3
  go_wp2_with fail
  refine (million_calls w3).mono ?_
  rintro e w4 ⟨rfl, h4⟩
  have h4 := below_then h3 h3.size h4
  go_wp2_with fail
  refine (div_calls _ false _ _ w4 NM.out ofm.1).mono ?_
  rintro e w5 ⟨rfl, h5⟩
  have h5 := below_then h4 h4.size h5
  go_wp2_with fail
  refine (back_calls _ _ w5 ND.out).mono ?_
  rintro e w6 ⟨rfl, h6⟩
  have HB := Aside0.mk (below_then h5 h5.size h6)
  rw [HF.out]
  clear h1 h2 h3 h4 h5 h6
  go_wp2
  go_ret2
  exact ⟨rfl, HB.out⟩
set_option maxHeartbeats 4000000 in
set_option maxRecDepth 100000 in
theorem rDiv_calls : Calls Tryd.prog 29 #[.int .i64 a, .int .i64 b] w fun e w' => e = .returned (.tuple #[.int .i64 (rDiv a b).1, .int .i64 (rDiv a b).2]) ∧ Below w.heap.size w w' := by
  by_cases hz : b = 0
  · subst hz
    have HF := Aside0.mk (show rDiv a 0 = (0, 4) from if_pos rfl)
    go_enter Tryd.func29, Tryd.ntmps29
    go_wp2
    go_ret2
    exact ⟨by rw [HF.out]; rfl, Below.refl _ _⟩
  · have c1 : (b == 0) = false := beq_eq_false_iff_ne.2 hz
    obtain ⟨nA, vA⟩ := ofs a0 a1
    obtain ⟨nB, vB⟩ := ofs b0 b1
    have hA := size_range a0 a1
    have hB := size_range b0 b1
    have hB0 : 0 < size b := by unfold size; split <;> omega
    obtain ⟨nM, vM⟩ := mul_val nA ofm.1 (by rw [vA, p4v]; omega)
    rw [ofL_low, vA] at vM
    obtain ⟨nD, vD⟩ := div_val nM nB (by rw [vB]; exact hB0) (by rw [vB]; exact Int.lt_of_lt_of_le (by omega) p11v)
    rw [vM, vB] at vD
    have hfin : backV (below a != below b) (divL (mulL (ofL (size a)) (ofL 1000000)) (ofL (size b))) = rDiv a b := by rw [back_val _ nD, vD]; exact (if_neg hz).symm
    have HF := Aside0.mk hfin; clear hfin vM vA vB vD
    have NA := Aside0.mk nA; have NB := Aside0.mk nB; have NM := Aside0.mk nM; have ND := Aside0.mk nD; clear nA nM nB nD hA hB hB0
    go_enter Tryd.func29, Tryd.ntmps29
    go_wp2_with fail
    refine (of_calls a w a0 a1).mono ?_
    rintro e w1 ⟨rfl, h1⟩
    go_wp2_with fail
    refine (million_calls w1).mono ?_
    rintro e w2 ⟨rfl, h2⟩
    have h2 := below_then h1 h1.size h2
    go_wp2_with fail
    refine (mulL_calls (below a) false _ _ w2 NA.out ofm.1).mono ?_
    rintro e w3 ⟨rfl, h3⟩
    have h3 := below_then h2 h2.size h3
    go_wp2_with fail
    refine (of_calls b w3 b0 b1).mono ?_
    rintro e w4 ⟨rfl, h4⟩
    have h4 := below_then h3 h3.size h4
    go_wp2_with fail
    refine (div_calls _ (below b) _ _ w4 NM.out NB.out).mono ?_
    rintro e w5 ⟨rfl, h5⟩
    have h5 := below_then h4 h4.size h5
    go_wp2_with fail
    refine (back_calls _ _ w5 ND.out).mono ?_
    rintro e w6 ⟨rfl, h6⟩
    have HB := Aside0.mk (below_then h5 h5.size h6)
    rw [HF.out]
    clear h1 h2 h3 h4 h5 h6
    go_wp2
    go_ret2
    exact ⟨rfl, HB.out⟩
end
end Go.Proofs.YtgodmbcebpbdiaaDoor.R2
