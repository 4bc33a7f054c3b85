/- The document's rest, walked. -/
import Derived.Test.YtgodmbcebpbdiaaDoorZLL
import Derived.Deep.RegionHeld
set_option linter.unusedVariables false
set_option linter.unusedSimpArgs false
namespace Go.Proofs.YtgodmbcebpbdiaaDoor.R2
open Go.RowKit Go.Proofs.YtgodmbcebpbdiaaDoorW.PrintWords

def HeldD (g1 g2 g3 : Nat) (b : Bool) (X Y Z : List Int) (W w' : World) : Prop := IsI w' g1 b X ∧ IsI w' g2 false Y ∧ IsI w' g3 false Z ∧ Below W.heap.size W w'
theorem HeldD.step {g1 g2 g3 : Nat} {b : Bool} {X Y Z : List Int} {W w1 w2 : World} (h : HeldD g1 g2 g3 b X Y Z W w1) (hb : Below w1.heap.size w1 w2) : HeldD g1 g2 g3 b X Y Z W w2 :=
  ⟨h.1.below hb, h.2.1.below hb, h.2.2.1.below hb, below_then h.2.2.2 h.2.2.2.size hb⟩
def rMod (a b : Int) : Int × Int := if b = 0 then (0, 4) else toldN (below a) (size a - size a / size b * size b)
section
variable (a b : Int) (w : World) (a0 : -9223372036854775808 ≤ a) (a1 : a ≤ 9223372036854775807) (b0 : -9223372036854775808 ≤ b) (b1 : b ≤ 9223372036854775807)
include a0 a1 b0 b1
set_option maxHeartbeats 8000000 in
set_option maxRecDepth 100000 in
theorem rMod_calls : Calls Tryd.prog 30 #[.int .i64 a, .int .i64 b] w fun e w' => e = .returned (.tuple #[.int .i64 (rMod a b).1, .int .i64 (rMod a b).2]) ∧ Below w.heap.size w w' := by
  by_cases hz : b = 0
  · subst hz
    have HF := Aside0.mk (show rMod a 0 = (0, 4) from if_pos rfl)
    go_enter Tryd.func30, Tryd.ntmps30
    go_wp2
    go_ret2
    exact ⟨by rw [HF.out]; rfl, Below.refl _ _⟩
  · have c1 : (b == 0) = false := beq_eq_false_iff_ne.2 hz
    obtain ⟨nA, vA⟩ := ofs a0 a1
    obtain ⟨nB, vB⟩ := ofs b0 b1
    have hA := size_range a0 a1
    have hB := size_range b0 b1
    have hB0 : 0 < size b := by unfold size; split <;> omega
    obtain ⟨nQ, vQ⟩ := div_val nA nB (by rw [vB]; exact hB0) (by rw [vB]; exact Int.lt_of_lt_of_le (by omega) p11v)
    rw [vA, vB] at vQ
    have hq0 : 0 ≤ size a / size b := Int.ediv_nonneg hA.1 hB.1
    have hq1 : size a / size b * size b ≤ size a := Int.ediv_mul_le _ (Int.ne_of_gt hB0)
    have hq2 : size a / size b ≤ size a := Int.ediv_le_self _ hA.1
    obtain ⟨nM, vM⟩ := mul_val nQ nB (by rw [vQ, p4v]; omega)
    rw [ofL_low, vQ] at vM
    obtain ⟨nR, vR⟩ := nA.minus nM (by rw [vM, vA]; exact hq1)
    rw [vM, vA] at vR
    have hfin : backV (below a) (minusL 0 (ofL (size a)) (mulL (divL (ofL (size a)) (ofL (size b))) (ofL (size b)))) = rMod a b := by rw [back_val _ nR, vR]; exact (if_neg hz).symm
    have HFL := Aside0.mk (show (rMod a b).2 = 0 ∨ (rMod a b).2 = 3 by
      rw [← hfin, back_val _ nR]; unfold toldN; cases below a <;> simp <;> split <;> simp)
    have HBK := Aside0.mk hfin; clear hfin vM vA vB vQ vR hq0 hq1 hq2 hA hB hB0 hz
    have NA := Aside0.mk nA; have NB := Aside0.mk nB; have NQ := Aside0.mk nQ; have NM := Aside0.mk nM; have NR := Aside0.mk nR; clear nA nB nQ nM nR
    have HA := Aside0.mk (show ∀ w, Calls Tryd.prog 50 #[.int .i64 a] w fun e w' => e = .returned (.agg (cellsI (below a) (ofL (size a)))) ∧ Below w.heap.size w w' from fun w => of_calls a w a0 a1)
    have HB := Aside0.mk (show ∀ w, Calls Tryd.prog 50 #[.int .i64 b] w fun e w' => e = .returned (.agg (cellsI (below b) (ofL (size b)))) ∧ Below w.heap.size w w' from fun w => of_calls b w b0 b1)
    have HD := Aside0.mk (show ∀ w, Calls Tryd.prog 53 #[.agg (cellsI (below a) (ofL (size a))), .agg (cellsI (below b) (ofL (size b)))] w fun e w' => e = .returned (.agg (cellsI (below a != below b) (divL (ofL (size a)) (ofL (size b))))) ∧ Below w.heap.size w w' from fun w => div_calls _ _ _ _ w NA.out NB.out)
    generalize divL (ofL (size a)) (ofL (size b)) = Q at *
    generalize ofL (size a) = A at *
    generalize ofL (size b) = D at *
    generalize below a = fa at *
    generalize hrm : rMod a b = rm at *
    obtain ⟨v1, v2⟩ := rm
    obtain ⟨x0, x1, x2, x3, x4, x5, x6, x7, x8, x9, x10, x11, rfl⟩ := dozen NA.out.len
    obtain ⟨y0, y1, y2, y3, y4, y5, y6, y7, y8, y9, y10, y11, rfl⟩ := dozen NQ.out.len
    obtain ⟨z0, z1, z2, z3, z4, z5, z6, z7, z8, z9, z10, z11, rfl⟩ := dozen NB.out.len
    go_enter Tryd.func30, Tryd.ntmps30
    go_wp2_with fail
    refine (HA.out w).mono ?_
    rintro e w1 ⟨rfl, h1⟩
    go_wp2_with fail
    refine (HB.out w1).mono ?_
    rintro e w2 ⟨rfl, h2⟩
    have h2 := below_then h1 h1.size h2
    go_wp2_with fail
    refine (HD.out w2).mono ?_
    rintro e w3 ⟨rfl, h3⟩
    have B3 := Aside0.mk (below_then h2 h2.size h3)
    clear h1 h2 h3
    rw [cells12 (fa != below b)]
    go_wp2_with fail
    rw [← cells12 false]
    have K2 := Aside0.mk (IsI.new w3 false [y0, y1, y2, y3, y4, y5, y6, y7, y8, y9, y10, y11])
    have B4 := Aside0.mk (below_alloc B3.out (.cells (cellsI false [y0, y1, y2, y3, y4, y5, y6, y7, y8, y9, y10, y11]) 58))
    have G2 := Aside0.mk (show w.heap.size ≤ w3.heap.size from B3.out.size)
    clear B3
    generalize w3.heap.size = g2 at *
    generalize w3.alloc _ = w4 at *
    refine (HB.out w4).mono ?_
    rintro e w5 ⟨rfl, h5⟩
    have K2 := Aside0.mk (K2.out.below h5)
    have B5 := Aside0.mk (below_then B4.out B4.out.size h5)
    clear h5 B4
    rw [cells12 (below b)]
    go_wp2_with fail
    rw [← cells12 false]
    have K3 := Aside0.mk (IsI.new w5 false [z0, z1, z2, z3, z4, z5, z6, z7, z8, z9, z10, z11])
    have K2 := Aside0.mk (K2.out.alloc (.cells (cellsI false [z0, z1, z2, z3, z4, z5, z6, z7, z8, z9, z10, z11]) 58))
    have B6 := Aside0.mk (below_alloc B5.out (.cells (cellsI false [z0, z1, z2, z3, z4, z5, z6, z7, z8, z9, z10, z11]) 58))
    clear B5
    generalize w5.heap.size = g3 at *
    generalize w5.alloc _ = w6 at *
    refine (HA.out w6).mono ?_
    rintro e w7 ⟨rfl, h7⟩
    have K2 := Aside0.mk (K2.out.below h7)
    have K3 := Aside0.mk (K3.out.below h7)
    have B7 := Aside0.mk (below_then B6.out B6.out.size h7)
    clear h7 B6
    rw [cells12 fa]
    go_wp2_with fail
    rw [← cells12 fa]
    have K1 := Aside0.mk (IsI.new w7 fa [x0, x1, x2, x3, x4, x5, x6, x7, x8, x9, x10, x11])
    have K2 := Aside0.mk (K2.out.alloc (.cells (cellsI fa [x0, x1, x2, x3, x4, x5, x6, x7, x8, x9, x10, x11]) 58))
    have K3 := Aside0.mk (K3.out.alloc (.cells (cellsI fa [x0, x1, x2, x3, x4, x5, x6, x7, x8, x9, x10, x11]) 58))
    have B8 := Aside0.mk (below_alloc B7.out (.cells (cellsI fa [x0, x1, x2, x3, x4, x5, x6, x7, x8, x9, x10, x11]) 58))
    clear B7
    generalize w7.heap.size = g1 at *
    generalize w7.alloc _ = W0 at *
    refine wp_region_held_drew (S := HeldD g1 g2 g3 fa [x0, x1, x2, x3, x4, x5, x6, x7, x8, x9, x10, x11] [y0, y1, y2, y3, y4, y5, y6, y7, y8, y9, y10, y11] [z0, z1, z2, z3, z4, z5, z6, z7, z8, z9, z10, z11] W0) (by kernel_rfl) ⟨K1.out, K2.out, K3.out, pw_below_drewN (Below.refl _ _) 1⟩ (fun hHeld => ?_)
    refine wpAnyH_take (i := 0) (oi := { dst := some 25, op := Go.Op.load 58 (Go.Operand.tmp 8), type := 58, pos := "ref.go:261", after := #[], guard := none }) (v := .agg (cellsI fa [x0, x1, x2, x3, x4, x5, x6, x7, x8, x9, x10, x11])) rfl (by kernel_rfl) (by kernel_rfl) (by kernel_rfl) (fun _ _ _ h => h) (Or.inl ⟨by kernel_rfl, ?_⟩) (by assumption) ?_
    · (intro w0 hSw; obtain ⟨h1, h2, h3, h4⟩ := hSw; obtain ⟨p0, p1, p2, p3, p4, p5, p6, p7, p8, p9, p10, p11, p12⟩ := h1.cells; obtain ⟨q0, q1, q2, q3, q4, q5, q6, q7, q8, q9, q10, q11, q12⟩ := h2.cells; obtain ⟨r0, r1, r2, r3, r4, r5, r6, r7, r8, r9, r10, r11, r12⟩ := h3.cells; go_simp; try rfl)
    try simp only [Act.put, List.setIfInBounds_toArray, List.set_cons_zero, List.set_cons_succ]
    refine wpAnyH_take (i := 1) (oi := { dst := some 26, op := Go.Op.load 58 (Go.Operand.tmp 6), type := 58, pos := "ref.go:261", after := #[], guard := none }) (v := .agg (cellsI false [y0, y1, y2, y3, y4, y5, y6, y7, y8, y9, y10, y11])) rfl (by kernel_rfl) (by kernel_rfl) (by kernel_rfl) (fun _ _ _ h => h) (Or.inl ⟨by kernel_rfl, ?_⟩) (by assumption) ?_
    · (intro w0 hSw; obtain ⟨h1, h2, h3, h4⟩ := hSw; obtain ⟨p0, p1, p2, p3, p4, p5, p6, p7, p8, p9, p10, p11, p12⟩ := h1.cells; obtain ⟨q0, q1, q2, q3, q4, q5, q6, q7, q8, q9, q10, q11, q12⟩ := h2.cells; obtain ⟨r0, r1, r2, r3, r4, r5, r6, r7, r8, r9, r10, r11, r12⟩ := h3.cells; go_simp; try rfl)
    try simp only [Act.put, List.setIfInBounds_toArray, List.set_cons_zero, List.set_cons_succ]
    refine wpAnyH_take (i := 2) (oi := { dst := some 27, op := Go.Op.load 58 (Go.Operand.tmp 7), type := 58, pos := "ref.go:261", after := #[], guard := none }) (v := .agg (cellsI false [z0, z1, z2, z3, z4, z5, z6, z7, z8, z9, z10, z11])) rfl (by kernel_rfl) (by kernel_rfl) (by kernel_rfl) (fun _ _ _ h => h) (Or.inl ⟨by kernel_rfl, ?_⟩) (by assumption) ?_
    · (intro w0 hSw; obtain ⟨h1, h2, h3, h4⟩ := hSw; obtain ⟨p0, p1, p2, p3, p4, p5, p6, p7, p8, p9, p10, p11, p12⟩ := h1.cells; obtain ⟨q0, q1, q2, q3, q4, q5, q6, q7, q8, q9, q10, q11, q12⟩ := h2.cells; obtain ⟨r0, r1, r2, r3, r4, r5, r6, r7, r8, r9, r10, r11, r12⟩ := h3.cells; go_simp; try rfl)
    try simp only [Act.put, List.setIfInBounds_toArray, List.set_cons_zero, List.set_cons_succ]
    refine wpAnyH_ready (rs := [3]) (by kernel_rfl) (by simp) ?_
    refine AllReadyH.cons (o := { dst := some 28, op := Go.Op.call { callee := Go.Callee.value (Go.Operand.func 54), args := #[Go.Operand.tmp 26, Go.Operand.tmp 27], argTypes := #[58, 58] }, type := 58, pos := "ref.go:261", after := #[{ on := 1, ground := Go.Ground.data }, { on := 2, ground := Go.Ground.data }], guard := none }) rfl (fun K hK => ?_) AllReadyH.nil
    go_simp
    refine (mulL_calls false false [y0, y1, y2, y3, y4, y5, y6, y7, y8, y9, y10, y11] [z0, z1, z2, z3, z4, z5, z6, z7, z8, z9, z10, z11] _ NQ.out NB.out).mono ?_
    rintro e w1 ⟨rfl, hb1⟩
    refine hK.out _ _ (hHeld.step hb1) (fun hH1 => ?_)
    clear hK K
    try simp only [Act.put, List.setIfInBounds_toArray, List.set_cons_zero, List.set_cons_succ]
    refine wpAnyH_ready (rs := [4]) (by kernel_rfl) (by simp) ?_
    refine AllReadyH.cons (o := { dst := some 29, op := Go.Op.call { callee := Go.Callee.value (Go.Operand.func 52), args := #[Go.Operand.tmp 25, Go.Operand.tmp 28], argTypes := #[58, 58] }, type := 58, pos := "ref.go:261", after := #[{ on := 0, ground := Go.Ground.data }, { on := 3, ground := Go.Ground.data }, { on := 3, ground := Go.Ground.chain }], guard := none }) rfl (fun K hK => ?_) AllReadyH.nil
    go_simp
    refine (minus_calls fa false [x0, x1, x2, x3, x4, x5, x6, x7, x8, x9, x10, x11] _ _ NA.out NM.out).mono ?_
    rintro e w2 ⟨rfl, hb2⟩
    refine hK.out _ _ (hH1.step hb2) (fun hH2 => ?_)
    clear hK K
    try simp only [Act.put, List.setIfInBounds_toArray, List.set_cons_zero, List.set_cons_succ]
    refine wpAnyH_ready (rs := [5]) (by kernel_rfl) (by simp) ?_
    refine AllReadyH.cons (o := { dst := some 30, op := Go.Op.call { callee := Go.Callee.value (Go.Operand.func 42), args := #[Go.Operand.tmp 29], argTypes := #[58] }, type := 40, pos := "ref.go:261", after := #[{ on := 4, ground := Go.Ground.data }, { on := 4, ground := Go.Ground.chain }], guard := none }) rfl (fun K hK => ?_) AllReadyH.nil
    go_simp
    refine (back_calls _ _ _ NR.out).mono ?_
    rintro e w3 ⟨rfl, hb3⟩
    rw [HBK.out]
    refine hK.out _ _ (hH2.step hb3) (fun hH3 => ?_)
    clear hK K
    try simp only [Act.put, List.setIfInBounds_toArray, List.set_cons_zero, List.set_cons_succ]
    refine wpAnyH_take (i := 6) (oi := { dst := some 24, op := Go.Op.move (Go.Operand.tmp 30), type := 40, pos := "ref.go:261", after := #[{ on := 5, ground := Go.Ground.data }], guard := none }) (v := .tuple #[.int .i64 v1, .int .i64 v2]) rfl (by kernel_rfl) (by kernel_rfl) (by kernel_rfl) (fun _ _ _ h => h) (Or.inl ⟨by kernel_rfl, ?_⟩) (by assumption) ?_
    · (intro w0 hSw; go_simp; try rfl)
    try simp only [Act.put, List.setIfInBounds_toArray, List.set_cons_zero, List.set_cons_succ]
    refine wpAnyH_take (i := 7) (oi := { dst := some 31, op := Go.Op.extract (Go.Operand.tmp 24) 0, type := 2, pos := "ref.go:261", after := #[{ on := 6, ground := Go.Ground.data }], guard := none }) (v := .int .i64 v1) rfl (by kernel_rfl) (by kernel_rfl) (by kernel_rfl) (fun _ _ _ h => h) (Or.inl ⟨by kernel_rfl, ?_⟩) (by assumption) ?_
    · (intro w0 hSw; go_simp; try rfl)
    try simp only [Act.put, List.setIfInBounds_toArray, List.set_cons_zero, List.set_cons_succ]
    refine wpAnyH_take (i := 8) (oi := { dst := some 32, op := Go.Op.extract (Go.Operand.tmp 24) 1, type := 3, pos := "ref.go:261", after := #[{ on := 6, ground := Go.Ground.data }, { on := 9, ground := Go.Ground.gcOnly Go.Departure.lateStores }], guard := none }) (v := .int .i64 v2) rfl (by kernel_rfl) (by kernel_rfl) (by kernel_rfl) (fun _ _ _ h => h) (Or.inl ⟨by kernel_rfl, ?_⟩) (by assumption) ?_
    · (intro w0 hSw; go_simp; try rfl)
    try simp only [Act.put, List.setIfInBounds_toArray, List.set_cons_zero, List.set_cons_succ]
    refine wpAnyH_take (i := 9) (oi := { dst := some 9, op := Go.Op.assign (Go.Operand.tmp 31), type := 2, pos := "ref.go:261", after := #[{ on := 7, ground := Go.Ground.data }, { on := 5, ground := Go.Ground.chain }, { on := 0, ground := Go.Ground.phase }, { on := 1, ground := Go.Ground.phase }, { on := 2, ground := Go.Ground.phase }, { on := 3, ground := Go.Ground.phase }, { on := 4, ground := Go.Ground.phase }, { on := 5, ground := Go.Ground.phase }, { on := 6, ground := Go.Ground.phase }, { on := 7, ground := Go.Ground.phase }, { on := 8, ground := Go.Ground.textOnly Go.Departure.lateStores }], guard := none }) (v := .int .i64 v1) rfl (by kernel_rfl) (by kernel_rfl) (by kernel_rfl) (fun _ _ _ h => h) (Or.inl ⟨by kernel_rfl, ?_⟩) (by assumption) ?_
    · (intro w0 hSw; go_simp; try rfl)
    try simp only [Act.put, List.setIfInBounds_toArray, List.set_cons_zero, List.set_cons_succ]
    refine wpAnyH_take (i := 10) (oi := { dst := some 10, op := Go.Op.assign (Go.Operand.tmp 32), type := 3, pos := "ref.go:261", after := #[{ on := 8, ground := Go.Ground.data }, { on := 9, ground := Go.Ground.chain }, { on := 0, ground := Go.Ground.phase }, { on := 1, ground := Go.Ground.phase }, { on := 2, ground := Go.Ground.phase }, { on := 3, ground := Go.Ground.phase }, { on := 4, ground := Go.Ground.phase }, { on := 5, ground := Go.Ground.phase }, { on := 6, ground := Go.Ground.phase }, { on := 7, ground := Go.Ground.phase }, { on := 8, ground := Go.Ground.phase }, { on := 9, ground := Go.Ground.phase }], guard := none }) (v := .int .i64 v2) rfl (by kernel_rfl) (by kernel_rfl) (by kernel_rfl) (fun _ _ _ h => h) (Or.inl ⟨by kernel_rfl, ?_⟩) (by assumption) ?_
    · (intro w0 hSw; go_simp; try rfl)
    try simp only [Act.put, List.setIfInBounds_toArray, List.set_cons_zero, List.set_cons_succ]
    refine wpAnyH_done (by kernel_rfl) ?_ _
    have B9 := Aside0.mk (below_then B8.out B8.out.size hH3.2.2.2)
    clear hH1 hH2 hH3 hHeld B8 K1 K2 K3
    have hfl := HFL.out
    by_cases ha : a < 0
    · have c2 : decide (a < 0) = true := decide_eq_true ha
      rcases hfl with hv | hv
      · subst hv
        go_wp2
        go_ret2
        exact ⟨rfl, B9.out⟩
      · subst hv
        go_wp2
        go_ret2
        exact ⟨rfl, B9.out⟩
    · have c2 : decide (a < 0) = false := decide_eq_false ha
      go_wp2
      go_ret2
      exact ⟨rfl, B9.out⟩
end
end Go.Proofs.YtgodmbcebpbdiaaDoor.R2
