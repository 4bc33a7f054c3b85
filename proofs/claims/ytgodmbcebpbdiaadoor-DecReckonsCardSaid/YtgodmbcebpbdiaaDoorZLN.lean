/- The document's sums and differences, walked. -/
import Derived.Test.YtgodmbcebpbdiaaDoorZLL
set_option linter.unusedVariables false
set_option linter.unusedSimpArgs false
namespace Go.Proofs.YtgodmbcebpbdiaaDoor.R2
open Go.RowKit Go.Proofs.YtgodmbcebpbdiaaDoorW.PrintWords

def rAdd (a b : Int) : Int × Int := if below a = below b then toldN (below a) (size a + size b) else if size a < size b then toldN (below b) (size b - size a) else toldN (below a) (size a - size b)
section
variable (a b : Int) (w : World) (a0 : -9223372036854775808 ≤ a) (a1 : a ≤ 9223372036854775807) (b0 : -9223372036854775808 ≤ b) (b1 : b ≤ 9223372036854775807)
include a0 a1 b0 b1
set_option maxHeartbeats 8000000 in
set_option maxRecDepth 100000 in
theorem rAdd_calls : Calls Tryd.prog 26 #[.int .i64 a, .int .i64 b] w fun e w' => e = .returned (.tuple #[.int .i64 (rAdd a b).1, .int .i64 (rAdd a b).2]) ∧ Below w.heap.size w w' := by
  obtain ⟨nA, vA⟩ := ofs a0 a1
  obtain ⟨nB, vB⟩ := ofs b0 b1
  have hA := size_range a0 a1
  have hB := size_range b0 b1
  obtain ⟨nS, vS⟩ := nA.add nB (by rw [vA, vB]; exact Int.lt_of_lt_of_le (by omega) (Int.le_trans p11v (pw_mono (by omega))))
  rw [vA, vB] at vS
  have hless := nA.less nB
  rw [vA, vB] at hless
  have HS := Aside0.mk (show below a = below b → backV (below a) (addL 0 (ofL (size a)) (ofL (size b))) = rAdd a b from fun h => by rw [back_val _ nS, vS]; exact (if_pos h).symm)
  have HD1 := Aside0.mk (show below a ≠ below b → lessL (ofL (size a)) (ofL (size b)) = true → Num (minusL 0 (ofL (size b)) (ofL (size a))) ∧ backV (below b) (minusL 0 (ofL (size b)) (ofL (size a))) = rAdd a b from fun h hl => by
    rw [hless, decide_eq_true_eq] at hl
    obtain ⟨nD, vD⟩ := nB.minus nA (by rw [vA, vB]; omega)
    refine ⟨nD, ?_⟩
    rw [back_val _ nD, vD, vA, vB]
    unfold rAdd
    rw [if_neg h, if_pos hl])
  have HD2 := Aside0.mk (show below a ≠ below b → lessL (ofL (size a)) (ofL (size b)) = false → Num (minusL 0 (ofL (size a)) (ofL (size b))) ∧ backV (below a) (minusL 0 (ofL (size a)) (ofL (size b))) = rAdd a b from fun h hl => by
    rw [hless, decide_eq_false_iff_not] at hl
    obtain ⟨nD, vD⟩ := nA.minus nB (by rw [vA, vB]; omega)
    refine ⟨nD, ?_⟩
    rw [back_val _ nD, vD, vA, vB]
    unfold rAdd
    rw [if_neg h, if_neg hl])
  have NA := Aside0.mk nA; have NB := Aside0.mk nB; have NS := Aside0.mk nS
  clear nA nB nS vA vB vS hA hB hless
  have HA := Aside0.mk (show ∀ w, Calls Tryd.prog 50 #[.int .i64 a] w fun e w' => e = .returned (.agg (cellsI (below a) (ofL (size a)))) ∧ Below w.heap.size w w' from fun w => of_calls a w a0 a1)
  have HB := Aside0.mk (show ∀ w, Calls Tryd.prog 50 #[.int .i64 b] w fun e w' => e = .returned (.agg (cellsI (below b) (ofL (size b)))) ∧ Below w.heap.size w w' from fun w => of_calls b w b0 b1)
  generalize ofL (size a) = A at *
  generalize ofL (size b) = D at *
  generalize below a = fa at *
  generalize below b = fb at *
  generalize rAdd a b = rm at *
  obtain ⟨v1, v2⟩ := rm
  obtain ⟨x0, x1, x2, x3, x4, x5, x6, x7, x8, x9, x10, x11, rfl⟩ := dozen NA.out.len
  obtain ⟨y0, y1, y2, y3, y4, y5, y6, y7, y8, y9, y10, y11, rfl⟩ := dozen NB.out.len
  go_enter Tryd.func26, Tryd.ntmps26
  go_wp2_with fail
  refine (HA.out w).mono ?_
  rintro e w1 ⟨rfl, h1⟩
  have B1 := Aside0.mk h1; clear h1
  rw [cells12 fa]
  go_wp2_with fail
  rw [← cells12 fa]
  have K1 := Aside0.mk (IsI.new w1 fa [x0, x1, x2, x3, x4, x5, x6, x7, x8, x9, x10, x11])
  have B2 := Aside0.mk (below_alloc B1.out (.cells (cellsI fa [x0, x1, x2, x3, x4, x5, x6, x7, x8, x9, x10, x11]) 58))
  have G1 := Aside0.mk (show w.heap.size ≤ w1.heap.size from B1.out.size)
  clear B1
  generalize w1.heap.size = g1 at *
  generalize w1.alloc _ = w2 at *
  refine (HB.out w2).mono ?_
  rintro e w3 ⟨rfl, h3⟩
  have G12 := Aside0.mk (show g1 < w3.heap.size from Nat.lt_of_lt_of_le (blk_lt K1.out) h3.size)
  have K1 := Aside0.mk (K1.out.below h3)
  have B3 := Aside0.mk (below_then B2.out B2.out.size h3)
  clear h3 B2
  rw [cells12 fb]
  have kk := (K1.out.alloc (.cells (cellsI fb [y0, y1, y2, y3, y4, y5, y6, y7, y8, y9, y10, y11]) 58)).cells
  rw [cells12 fb] at kk
  obtain ⟨p0, p1, p2, p3, p4, p5, p6, p7, p8, p9, p10, p11, p12⟩ := kk
  by_cases hf : fa = fb
  · subst hf
    have c1 : (fa == fa) = true := beq_self_eq_true fa
    have HSS := Aside0.mk (HS.out rfl)
    clear HD1 HD2 HS
    go_wp2_with fail
    rw [← cells12 fa]
    have K1 := Aside0.mk (K1.out.alloc (.cells (cellsI fa [y0, y1, y2, y3, y4, y5, y6, y7, y8, y9, y10, y11]) 58))
    have K2 := Aside0.mk (IsI.new w3 fa [y0, y1, y2, y3, y4, y5, y6, y7, y8, y9, y10, y11])
    have B4 := Aside0.mk (below_alloc B3.out (.cells (cellsI fa [y0, y1, y2, y3, y4, y5, y6, y7, y8, y9, y10, y11]) 58))
    clear B3 p0 p1 p2 p3 p4 p5 p6 p7 p8 p9 p10 p11 p12
    generalize w3.heap.size = g2 at *
    generalize w3.alloc _ = W0 at *
    go_loopw [8, 9] (fun v8 v9 wz => ∃ (j : Nat) (cc : Int) (l r p q : List Int), j ≤ 12 ∧ l.length = j ∧ p.length = j ∧ v9 = .int .i64 j ∧ v8 = .int .u64 cc ∧ [y0, y1, y2, y3, y4, y5, y6, y7, y8, y9, y10, y11] = p ++ q ∧ Aside0 (Num (l ++ r)) ∧ Aside0 (cc = 0 ∨ cc = 1) ∧ Aside0 (addL 0 [x0, x1, x2, x3, x4, x5, x6, x7, x8, x9, x10, x11] [y0, y1, y2, y3, y4, y5, y6, y7, y8, y9, y10, y11] = l ++ addL cc r q) ∧ Aside0 (IsI wz g1 fa (l ++ r)) ∧ Aside0 (IsI wz g2 fa [y0, y1, y2, y3, y4, y5, y6, y7, y8, y9, y10, y11]) ∧ Aside0 (Below w.heap.size w wz)) (fun _ v9 _ => 12 - (intOf v9).toNat)
    case atStart => exact ⟨0, 0, [], [x0, x1, x2, x3, x4, x5, x6, x7, x8, x9, x10, x11], [], [y0, y1, y2, y3, y4, y5, y6, y7, y8, y9, y10, y11], by omega, rfl, rfl, rfl, rfl, rfl, NA, ⟨Or.inl rfl⟩, ⟨rfl⟩, K1, K2, B4⟩
    case round =>
      clear K1 K2 B4
      obtain ⟨j, cc, l, r, p, q, hj, ha, hp, rfl, rfl, hyq, HNa, HCc, HAd, M1, M2, M4⟩ := hrel
      have hg12 := G12.out
      by_cases hjt : j < 12
      · have hlen := HNa.out.len
        have hlen2 : ([y0, y1, y2, y3, y4, y5, y6, y7, y8, y9, y10, y11] : List Int).length = 12 := rfl
        rw [List.length_append] at hlen
        rw [hyq, List.length_append] at hlen2
        obtain ⟨x, r, rfl⟩ : ∃ x r', r = x :: r' := by
          cases r with
          | nil => simp at hlen; omega
          | cons x r' => exact ⟨x, r', rfl⟩
        obtain ⟨y, q, rfl⟩ : ∃ y q', q = y :: q' := by
          cases q with
          | nil => simp at hlen2; omega
          | cons x r' => exact ⟨x, r', rfl⟩
        have d1 : decide ((j : Int) < 12) = true := decide_eq_true (by omega)
        have d2 : (j : Int) < 12 := by omega
        have kc := M1.out.at_ (i := j) (by rw [HNa.out.len]; exact hjt)
        rw [← ha, getD_mid, ha] at kc
        have kd := M2.out.at_ (i := j) (by show j < 12; exact hjt)
        rw [hyq, ← hp, getD_mid, hp] at kd
        have kf := M1.out.fr (1 + j)
        have HYW := Aside0.mk (NB.out.words y (by rw [hyq]; simp))
        have HYQ := Aside0.mk hyq
        clear hlen hlen2 hyq
        go_wp2
        repeat (go_quiet (fail); try go_wp2)
        have hx := HNa.out.words x (by simp)
        have hy := HYW.out
        have hc := HCc.out
        have e1 : IntKind.u64.wrap (cc + x) = cc + x := u64_id (by omega) (by omega)
        have e2 : IntKind.u64.wrap (cc + x + y) = cc + x + y := u64_id (by omega) (by omega)
        rw [e1, e2, Int.tdiv_eq_ediv_of_nonneg (by omega), Int.tmod_eq_emod_of_nonneg (by omega), u64_id (z := (cc + x + y) / 4294967296) (by omega) (by omega)]
        clear e1 e2
        refine ⟨⟨j + 1, (cc + x + y) / 4294967296, l ++ [(cc + x + y) % 4294967296], r, p ++ [y], q, by omega, by simp [ha], by simp [hp], rfl, rfl, by rw [HYQ.out, List.append_assoc]; rfl, ⟨?_⟩, ⟨by omega⟩, ⟨?_⟩, ⟨?_⟩, ⟨(M2.out.drewN nq).far (by omega) _ _⟩, ⟨?_⟩⟩, ?_⟩
        · rw [List.append_assoc]; exact num_mid HNa.out (by omega)
        · rw [HAd.out, addL, List.append_assoc]; rfl
        · have h1 := (M1.out.drewN nq).set j ((cc + x + y) % 4294967296)
          rw [← ha, set_mid] at h1
          rw [← ha, List.append_assoc]
          exact h1
        · exact Below.setCell (p := ⟨g1, 1 + j, none⟩) (pw_below_drewN M4.out nq) G1.out _
        · simp [intOf]; omega
      · obtain ⟨rfl, hla⟩ := num_end HNa.out (by omega)
        have d1 : decide ((j : Int) < 12) = false := decide_eq_false (by omega)
        have hfin : addL 0 [x0, x1, x2, x3, x4, x5, x6, x7, x8, x9, x10, x11] [y0, y1, y2, y3, y4, y5, y6, y7, y8, y9, y10, y11] = l := by rw [HAd.out, addL, List.append_nil] <;> simp
        have hS := HSS.out
        have hNS := NS.out
        rw [hfin] at hS hNS
        have N1 := Aside0.mk (show IsI wr g1 fa l by have := M1.out; rwa [List.append_nil] at this)
        have HST := Aside0.mk hS; have NS := Aside0.mk hNS
        clear hS hNS hfin HNa HAd M1 M2
        obtain ⟨z0, z1, z2, z3, z4, z5, z6, z7, z8, z9, z10, z11, rfl⟩ := dozen hla
        obtain ⟨p0, p1, p2, p3, p4, p5, p6, p7, p8, p9, p10, p11, p12⟩ := N1.out.cells
        go_wp2_with fail
        rw [← cells12 fa]
        refine (back_calls fa [z0, z1, z2, z3, z4, z5, z6, z7, z8, z9, z10, z11] _ NS.out).mono ?_
        rintro e w5 ⟨rfl, h5⟩
        have B5 := Aside0.mk (below_then M4.out M4.out.size h5)
        rw [HST.out]
        clear h5 p0 p1 p2 p3 p4 p5 p6 p7 p8 p9 p10 p11 p12
        go_wp2
        go_ret2
        exact ⟨rfl, B5.out⟩
  · have c1 : (fa == fb) = false := beq_eq_false_iff_ne.2 hf
    have HD1 := Aside0.mk (HD1.out hf)
    have HD2 := Aside0.mk (HD2.out hf)
    clear HS hf
    go_wp2_with fail
    rw [← cells12 fa, ← cells12 fb]
    have K1 := Aside0.mk (K1.out.alloc (.cells (cellsI fb [y0, y1, y2, y3, y4, y5, y6, y7, y8, y9, y10, y11]) 58))
    have K2 := Aside0.mk (IsI.new w3 fb [y0, y1, y2, y3, y4, y5, y6, y7, y8, y9, y10, y11])
    have B4 := Aside0.mk (below_alloc B3.out (.cells (cellsI fb [y0, y1, y2, y3, y4, y5, y6, y7, y8, y9, y10, y11]) 58))
    clear B3 p0 p1 p2 p3 p4 p5 p6 p7 p8 p9 p10 p11 p12
    generalize w3.heap.size = g2 at *
    generalize w3.alloc _ = W0 at *
    refine (less_calls fa fb [x0, x1, x2, x3, x4, x5, x6, x7, x8, x9, x10, x11] [y0, y1, y2, y3, y4, y5, y6, y7, y8, y9, y10, y11] W0 NA.out NB.out).mono ?_
    rintro e w4 ⟨rfl, h4⟩
    have K1 := Aside0.mk (K1.out.below h4)
    have K2 := Aside0.mk (K2.out.below h4)
    have B5 := Aside0.mk (below_then B4.out B4.out.size h4)
    clear h4 B4
    obtain ⟨p0, p1, p2, p3, p4, p5, p6, p7, p8, p9, p10, p11, p12⟩ := K1.out.cells
    obtain ⟨q0, q1, q2, q3, q4, q5, q6, q7, q8, q9, q10, q11, q12⟩ := K2.out.cells
    cases hless : lessL [x0, x1, x2, x3, x4, x5, x6, x7, x8, x9, x10, x11] [y0, y1, y2, y3, y4, y5, y6, y7, y8, y9, y10, y11] with
    | true =>
      obtain ⟨nD, hD⟩ := HD1.out hless
      have ND := Aside0.mk nD; have HDD := Aside0.mk hD
      clear nD hD HD1 HD2 hless
      go_wp2_with fail
      rw [← cells12 fa, ← cells12 fb]
      refine (minus_calls fb fa [y0, y1, y2, y3, y4, y5, y6, y7, y8, y9, y10, y11] [x0, x1, x2, x3, x4, x5, x6, x7, x8, x9, x10, x11] w4 NB.out NA.out).mono ?_
      rintro e w5 ⟨rfl, h5⟩
      have K2 := Aside0.mk (K2.out.below h5)
      have B6 := Aside0.mk (below_then B5.out B5.out.size h5)
      clear h5 B5 p0 p1 p2 p3 p4 p5 p6 p7 p8 p9 p10 p11 p12 q0 q1 q2 q3 q4 q5 q6 q7 q8 q9 q10 q11 q12
      generalize minusL 0 [y0, y1, y2, y3, y4, y5, y6, y7, y8, y9, y10, y11] [x0, x1, x2, x3, x4, x5, x6, x7, x8, x9, x10, x11] = R at *
      obtain ⟨z0, z1, z2, z3, z4, z5, z6, z7, z8, z9, z10, z11, rfl⟩ := dozen ND.out.len
      rw [cells12 fb]
      have kk := (K2.out.alloc (.cells (cellsI fb [z0, z1, z2, z3, z4, z5, z6, z7, z8, z9, z10, z11]) 58)).cells
      rw [cells12 fb] at kk
      obtain ⟨p0, p1, p2, p3, p4, p5, p6, p7, p8, p9, p10, p11, p12⟩ := kk
      go_wp2_with fail
      rw [← cells12 fb]
      refine (back_calls fb [z0, z1, z2, z3, z4, z5, z6, z7, z8, z9, z10, z11] _ ND.out).mono ?_
      rintro e w6 ⟨rfl, h6⟩
      have B7 := Aside0.mk (below_then (below_alloc B6.out _) (below_alloc B6.out _).size h6)
      rw [HDD.out]
      clear h6 p0 p1 p2 p3 p4 p5 p6 p7 p8 p9 p10 p11 p12
      go_wp2
      go_ret2
      exact ⟨rfl, B7.out⟩
    | false =>
      obtain ⟨nD, hD⟩ := HD2.out hless
      have ND := Aside0.mk nD; have HDD := Aside0.mk hD
      clear nD hD HD1 HD2 hless
      go_wp2_with fail
      rw [← cells12 fa, ← cells12 fb]
      refine (minus_calls fa fb [x0, x1, x2, x3, x4, x5, x6, x7, x8, x9, x10, x11] [y0, y1, y2, y3, y4, y5, y6, y7, y8, y9, y10, y11] w4 NA.out NB.out).mono ?_
      rintro e w5 ⟨rfl, h5⟩
      have K1 := Aside0.mk (K1.out.below h5)
      have B6 := Aside0.mk (below_then B5.out B5.out.size h5)
      clear h5 B5 p0 p1 p2 p3 p4 p5 p6 p7 p8 p9 p10 p11 p12 q0 q1 q2 q3 q4 q5 q6 q7 q8 q9 q10 q11 q12
      generalize minusL 0 [x0, x1, x2, x3, x4, x5, x6, x7, x8, x9, x10, x11] [y0, y1, y2, y3, y4, y5, y6, y7, y8, y9, y10, y11] = R at *
      obtain ⟨z0, z1, z2, z3, z4, z5, z6, z7, z8, z9, z10, z11, rfl⟩ := dozen ND.out.len
      rw [cells12 fa]
      have kk := (K1.out.alloc (.cells (cellsI fa [z0, z1, z2, z3, z4, z5, z6, z7, z8, z9, z10, z11]) 58)).cells
      rw [cells12 fa] at kk
      obtain ⟨p0, p1, p2, p3, p4, p5, p6, p7, p8, p9, p10, p11, p12⟩ := kk
      go_wp2_with fail
      rw [← cells12 fa]
      refine (back_calls fa [z0, z1, z2, z3, z4, z5, z6, z7, z8, z9, z10, z11] _ ND.out).mono ?_
      rintro e w6 ⟨rfl, h6⟩
      have B7 := Aside0.mk (below_then (below_alloc B6.out _) (below_alloc B6.out _).size h6)
      rw [HDD.out]
      clear h6 p0 p1 p2 p3 p4 p5 p6 p7 p8 p9 p10 p11 p12
      go_wp2
      go_ret2
      exact ⟨rfl, B7.out⟩
end
end Go.Proofs.YtgodmbcebpbdiaaDoor.R2
