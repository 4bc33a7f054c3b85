/- Texts of this seat, put together: each part tells above it what it proves and on what conditions. -/
import Derived.Test.YtgodmbcebpbdiaaDoorXLH
import Derived.StillTailTactics
/- Quotients of numbers of words, bit by bit, walked. -/
section
set_option linter.unusedVariables false
set_option linter.unusedSimpArgs false
namespace Go.Proofs.YtgodmbcebpbdiaaDoor.R2
open Go.RowKit Go.Proofs.YtgodmbcebpbdiaaDoorW.PrintWords

/-- The bit that comes next. -/
def bitAt (A : List Int) (i : Nat) : Int := A.getD (i / 32) 0 / 2 ^ (i % 32) % 2
/-- One round of a quotient: what is left, and the quotient so far. -/
def divStep (A B : List Int) (i : Nat) (R Q : List Int) : List Int × List Int :=
  let R1 := timesL 2 (bitAt A i) R
  let Q1 := Q.set (i / 32) (IntKind.u64.wrap (Q.getD (i / 32) 0 * 2))
  if lessL R1 B then (R1, Q1) else (minusL 0 R1 B, Q1.set (i / 32) (IntKind.u64.wrap (Q1.getD (i / 32) 0 + 1)))
def divRun (A B : List Int) : Nat → List Int → List Int → List Int
  | 0, _, Q => Q
  | n + 1, R, Q => divRun A B n (divStep A B n R Q).1 (divStep A B n R Q).2
def divL (A B : List Int) : List Int := divRun A B 384 (List.replicate 12 0) (List.replicate 12 0)
theorem num_zeros : Num (List.replicate 12 0) := ⟨rfl, fun x hx => by rw [List.eq_of_mem_replicate hx]; omega⟩
theorem i64_id {z : Int} (h0 : -9223372036854775808 ≤ z) (h1 : z ≤ 9223372036854775807) : IntKind.i64.wrap z = z := by
  have h : (if z % 2 ^ 64 ≥ 2 ^ (64 - 1) then z % 2 ^ 64 - 2 ^ 64 else z % 2 ^ 64) = z := by
    have e1 : (2 : Int) ^ 64 = 18446744073709551616 := rfl
    have e2 : (2 : Int) ^ (64 - 1) = 9223372036854775808 := rfl
    rw [e1, e2]
    split <;> omega
  simpa [IntKind.wrap, IntKind.signed, IntKind.bits] using h
theorem num_minus {a b : List Int} (ha : Num a) (hb : Num b) : Num (minusL 0 a b) := by
  obtain ⟨h1, h2, _⟩ := minus_val (c := 0) ha.words hb.words (by rw [ha.len, hb.len]) (Or.inl rfl)
  exact ⟨by rw [h2, ha.len], h1⟩
theorem five_new (w : World) (b1 b2 b3 b4 b5 : Bool) (l1 l2 l3 l4 l5 : List Int) :
    let W := ((((w.alloc (.cells (cellsI b1 l1) 58)).alloc (.cells (cellsI b2 l2) 58)).alloc (.cells (cellsI b3 l3) 58)).alloc (.cells (cellsI b4 l4) 58)).alloc (.cells (cellsI b5 l5) 58)
    IsI W w.heap.size b1 l1 ∧ IsI W (w.heap.size + 1) b2 l2 ∧ IsI W (w.heap.size + 1 + 1) b3 l3 ∧ IsI W (w.heap.size + 1 + 1 + 1) b4 l4 ∧ IsI W (w.heap.size + 1 + 1 + 1 + 1) b5 l5 ∧ Below w.heap.size w W ∧ w.heap.size + 5 ≤ W.heap.size := by
  refine ⟨((((IsI.new w b1 l1).alloc _).alloc _).alloc _).alloc _, ?_, ?_, ?_, ?_, below_alloc (below_alloc (below_alloc (below_alloc (below_alloc (Below.refl _ _) _) _) _) _) _, ?_⟩
  · have := IsI.new (w.alloc (.cells (cellsI b1 l1) 58)) b2 l2
    rw [World.size_alloc] at this
    exact ((this.alloc _).alloc _).alloc _
  · have := IsI.new ((w.alloc (.cells (cellsI b1 l1) 58)).alloc (.cells (cellsI b2 l2) 58)) b3 l3
    rw [World.size_alloc, World.size_alloc] at this
    exact (this.alloc _).alloc _
  · have := IsI.new (((w.alloc (.cells (cellsI b1 l1) 58)).alloc (.cells (cellsI b2 l2) 58)).alloc (.cells (cellsI b3 l3) 58)) b4 l4
    rw [World.size_alloc, World.size_alloc, World.size_alloc] at this
    exact this.alloc _
  · have := IsI.new ((((w.alloc (.cells (cellsI b1 l1) 58)).alloc (.cells (cellsI b2 l2) 58)).alloc (.cells (cellsI b3 l3) 58)).alloc (.cells (cellsI b4 l4) 58)) b5 l5
    rwa [World.size_alloc, World.size_alloc, World.size_alloc, World.size_alloc] at this
  · simp only [World.size_alloc]; omega
theorem flag_cells (x : Bool) : cellsI x (List.replicate 12 0) = #[Value.bool x, .int .u64 0, .int .u64 0, .int .u64 0, .int .u64 0, .int .u64 0, .int .u64 0, .int .u64 0, .int .u64 0, .int .u64 0, .int .u64 0, .int .u64 0, .int .u64 0] := rfl
set_option maxHeartbeats 8000000 in
set_option maxRecDepth 100000 in
theorem div_calls (b b2 : Bool) (l l2 : List Int) (w : World) (h : Num l) (h2 : Num l2) :
    Calls Tryd.prog 53 #[.agg (cellsI b l), .agg (cellsI b2 l2)] w fun e w' => e = .returned (.agg (cellsI (b != b2) (divL l l2))) ∧ Below w.heap.size w w' := by
  have HN := Aside0.mk h
  have HN2 := Aside0.mk h2
  clear h h2
  go_enter Tryd.func53, Tryd.ntmps53
  have ka : (((w.alloc (.cells (cellsI b l) 58)).alloc (.cells (cellsI b2 l2) 58)).alloc (.cells (cellsI false (List.replicate 12 0)) 58)).cell? ⟨w.heap.size, 0, none⟩ = some (.bool b) := (blk_cell (((IsI.new w b l).alloc _).alloc _) 0).trans rfl
  have kb : (((w.alloc (.cells (cellsI b l) 58)).alloc (.cells (cellsI b2 l2) 58)).alloc (.cells (cellsI false (List.replicate 12 0)) 58)).cell? ⟨w.heap.size + 1, 0, none⟩ = some (.bool b2) := by
    have := IsI.new (w.alloc (.cells (cellsI b l) 58)) b2 l2
    rw [World.size_alloc] at this
    exact (blk_cell (this.alloc _) 0).trans rfl
  rw [zeros_cells] at ka kb
  go_wp2_with fail
  clear ka kb
  rw [← flag_cells, ← flag_cells]
  obtain ⟨k1, k2, k3, k4, k5, k6, k7⟩ := five_new w b b2 false (!(b == b2)) false l l2 (List.replicate 12 0) (List.replicate 12 0) (List.replicate 12 0)
  have K1 := Aside0.mk k1; have K2 := Aside0.mk k2; have K3 := Aside0.mk k3; have K4 := Aside0.mk k4; have K5 := Aside0.mk k5; have K6 := Aside0.mk k6; have K7 := Aside0.mk k7
  clear k1 k2 k3 k4 k5 k6 k7
  generalize ((((w.alloc _).alloc _).alloc _).alloc _).alloc _ = W0 at K1 K2 K3 K4 K5 K6 K7 ⊢
  go_loopw [7] (fun v7 wr => ∃ (n : Nat) (R Q : List Int), n ≤ 384 ∧ v7 = .int .i64 ((n : Int) - 1) ∧ Q.length = 12 ∧ Aside0 (Num R) ∧ Aside0 (divRun l l2 n R Q = divL l l2) ∧ Aside0 (IsI wr w.heap.size b l) ∧ Aside0 (IsI wr (w.heap.size + 1) b2 l2) ∧ Aside0 (IsI wr (w.heap.size + 1 + 1) false (List.replicate 12 0)) ∧ Aside0 (IsI wr (w.heap.size + 1 + 1 + 1) (!(b == b2)) Q) ∧ Aside0 (IsI wr (w.heap.size + 1 + 1 + 1 + 1) false R) ∧ Aside0 (Below w.heap.size w wr) ∧ Aside0 (w.heap.size + 5 ≤ wr.heap.size)) (fun v7 _ => (intOf v7 + 1).toNat)
  case atStart => exact ⟨384, List.replicate 12 0, List.replicate 12 0, Nat.le_refl _, rfl, rfl, ⟨num_zeros⟩, ⟨rfl⟩, K1, K2, K3, K4, K5, K6, K7⟩
  case round =>
    clear K1 K2 K3 K4 K5 K6 K7
    obtain ⟨n, R, Q, hn, rfl, hQ, HR, HE, K1, K2, K3, K4, K5, K6, K7⟩ := hrel
    cases n with
    | zero =>
      have c1 : decide ((0 : Int) ≤ ((0 : Nat) : Int) - 1) = false := by decide
      have hE : divL l l2 = Q := HE.out.symm
      obtain ⟨y0, y1, y2, y3, y4, y5, y6, y7, y8, y9, y10, y11, rfl⟩ := dozen hQ
      have HF := Aside0.mk hE; clear hE HE
      obtain ⟨p0, p1, p2, p3, p4, p5, p6, p7, p8, p9, p10, p11, p12⟩ := K4.out.cells
      obtain ⟨q0, q1, q2, q3, q4, q5, q6, q7, q8, q9, q10, q11, q12⟩ := IsI.cells (x0 := 0) (x1 := 0) (x2 := 0) (x3 := 0) (x4 := 0) (x5 := 0) (x6 := 0) (x7 := 0) (x8 := 0) (x9 := 0) (x10 := 0) (x11 := 0) K3.out
      obtain ⟨f0, f1, f2, f3, f4, f5, f6, f7, f8, f9, f10, f11, f12⟩ := K3.out.frs
      go_wp2
      obtain ⟨W', hW, e1, e2, e3⟩ := put13 (x0 := 0) (x1 := 0) (x2 := 0) (x3 := 0) (x4 := 0) (x5 := 0) (x6 := 0) (x7 := 0) (x8 := 0) (x9 := 0) (x10 := 0) (x11 := 0) K3.out (!(b == b2)) y0 y1 y2 y3 y4 y5 y6 y7 y8 y9 y10 y11 K6.out (by omega)
      rw [← hW]
      exact end_num rfl rfl e1 rfl rfl ⟨by rw [HF.out]; rfl, e2⟩
    | succ m =>
      have c1 : decide ((0 : Int) ≤ ((m + 1 : Nat) : Int) - 1) = true := decide_eq_true (by omega)
      have e0 : ((m + 1 : Nat) : Int) - 1 = (m : Int) := by omega
      rw [e0] at c1 ⊢
      have ej : (m : Int).tdiv 32 = ((m / 32 : Nat) : Int) := by rw [Int.tdiv_eq_ediv_of_nonneg (by omega)]; omega
      have es : (m : Int).tmod 32 = ((m % 32 : Nat) : Int) := by rw [Int.tmod_eq_emod_of_nonneg (by omega)]; omega
      have hj : m / 32 < 12 := by omega
      have hs : m % 32 < 32 := by omega
      have HB := Aside0.mk (show bitAt l m = l.getD (m / 32) 0 / 2 ^ (m % 32) % 2 from rfl)
      have HJ := Aside0.mk (show (fun (Rr Qq : List Int) => divStep l l2 m Rr Qq) = fun Rr Qq => if lessL (timesL 2 (bitAt l m) Rr) l2 then (timesL 2 (bitAt l m) Rr, Qq.set (m / 32) (IntKind.u64.wrap (Qq.getD (m / 32) 0 * 2))) else (minusL 0 (timesL 2 (bitAt l m) Rr) l2, (Qq.set (m / 32) (IntKind.u64.wrap (Qq.getD (m / 32) 0 * 2))).set (m / 32) (IntKind.u64.wrap ((Qq.set (m / 32) (IntKind.u64.wrap (Qq.getD (m / 32) 0 * 2))).getD (m / 32) 0 + 1))) from rfl)
      have kc := K1.out.at_ (i := m / 32) (by rw [HN.out.len]; exact hj)
      have ha := HN.out.words (l.getD (m / 32) 0) (by rw [List.getD_eq_getElem?_getD, List.getElem?_eq_getElem (by rw [HN.out.len]; exact hj), Option.getD_some]; exact List.getElem_mem _)
      generalize m / 32 = j at *
      generalize m % 32 = s at *
      generalize l.getD j 0 = av at *
      have hj2 : (j : Int) < 12 := by omega
      have ew : IntKind.i64.wrap (j : Int) = (j : Int) := i64_id (by omega) (by omega)
      have ew2 : IntKind.i64.wrap (s : Int) = (s : Int) := i64_id (by omega) (by omega)
      have ew3 : IntKind.u64.wrap (s : Int) = (s : Int) := u64_id (by omega) (by omega)
      obtain ⟨x0, x1, x2, x3, x4, x5, x6, x7, x8, x9, x10, x11, rfl⟩ := dozen HR.out.len
      obtain ⟨p0, p1, p2, p3, p4, p5, p6, p7, p8, p9, p10, p11, p12⟩ := K5.out.cells
      go_wp2
      go_still_tail 11, (by kernel_rfl)
      have hbit : (av / 2 ^ s).tmod 2 = bitAt l m := by
        rw [HB.out]
        exact Int.tmod_eq_emod_of_nonneg (Int.ediv_nonneg ha.1 (Int.le_of_lt (Int.pow_pos (by decide))))
      rw [hbit]
      have HBB := Aside0.mk (show 0 ≤ bitAt l m ∧ bitAt l m < 4294967296 by rw [HB.out]; omega)
      clear hbit kc ha
      change wpList _ _ _ _ _ wr.drew
      go_wp2_with fail
      refine (times_calls false [x0, x1, x2, x3, x4, x5, x6, x7, x8, x9, x10, x11] 2 (bitAt l m) wr.drew HR.out (by omega) HBB.out).mono ?_
      rintro e w1 ⟨rfl, hb⟩
      have L1 := Aside0.mk (IsI.below (W := wr.drew) K1.out hb)
      have L2 := Aside0.mk (IsI.below (W := wr.drew) K2.out hb)
      have L3 := Aside0.mk (IsI.below (W := wr.drew) K3.out hb)
      have L4 := Aside0.mk (IsI.below (W := wr.drew) K4.out hb)
      have L5 := Aside0.mk (IsI.below (W := wr.drew) K5.out hb)
      have L6 := Aside0.mk (below_then (w1 := wr.drew) (pw_below_drewN K6.out 1) (pw_below_drewN K6.out 1).size hb)
      have L7 := Aside0.mk (show w.heap.size + 5 ≤ w1.heap.size from Nat.le_trans K7.out hb.size)
      clear K1 K2 K3 K4 K5 K6 K7 hb p0 p1 p2 p3 p4 p5 p6 p7 p8 p9 p10 p11 p12
      have HR1 := Aside0.mk (HR.out.times (m := 2) (c := bitAt l m) (by omega) HBB.out).1
      have hstep : divStep l l2 m [x0, x1, x2, x3, x4, x5, x6, x7, x8, x9, x10, x11] Q = if lessL (timesL 2 (bitAt l m) [x0, x1, x2, x3, x4, x5, x6, x7, x8, x9, x10, x11]) l2 then (timesL 2 (bitAt l m) [x0, x1, x2, x3, x4, x5, x6, x7, x8, x9, x10, x11], Q.set j (IntKind.u64.wrap (Q.getD j 0 * 2))) else (minusL 0 (timesL 2 (bitAt l m) [x0, x1, x2, x3, x4, x5, x6, x7, x8, x9, x10, x11]) l2, (Q.set j (IntKind.u64.wrap (Q.getD j 0 * 2))).set j (IntKind.u64.wrap ((Q.set j (IntKind.u64.wrap (Q.getD j 0 * 2))).getD j 0 + 1))) := congrFun (congrFun HJ.out [x0, x1, x2, x3, x4, x5, x6, x7, x8, x9, x10, x11]) Q
      generalize timesL 2 (bitAt l m) [x0, x1, x2, x3, x4, x5, x6, x7, x8, x9, x10, x11] = R1 at *
      obtain ⟨qa, q, qr, rfl, hqa⟩ := split_at (l := Q) (k := j) (by rw [hQ]; exact hj)
      have g1 : (qa ++ q :: qr).getD j 0 = q := by rw [← hqa]; exact getD_mid qa qr q
      have g2 : ∀ u, (qa ++ q :: qr).set j u = qa ++ u :: qr := fun u => by rw [← hqa]; exact set_mid qa qr q u
      have g3 : ∀ u v, (qa ++ u :: qr).set j v = qa ++ v :: qr := fun u v => by rw [← hqa]; exact set_mid qa qr u v
      have g4 : ∀ u, (qa ++ u :: qr).getD j 0 = u := fun u => by rw [← hqa]; exact getD_mid qa qr u
      rw [g1, g2, g4, g3] at hstep
      have G2 := Aside0.mk g2; have G3 := Aside0.mk g3; have G4 := Aside0.mk g4
      have hQ2 : ∀ u, (qa ++ u :: qr).length = 12 := fun u => by have := hQ; simp at this ⊢; omega
      have HQ2 := Aside0.mk hQ2
      clear g2 g3 g4 hQ2
      have HST := Aside0.mk hstep; clear hstep
      obtain ⟨y0, y1, y2, y3, y4, y5, y6, y7, y8, y9, y10, y11, rfl⟩ := dozen HR1.out.len
      rw [cells12]
      obtain ⟨z0, z1, z2, z3, z4, z5, z6, z7, z8, z9, z10, z11, hz⟩ := dozen HN2.out.len
      subst hz
      obtain ⟨b0_, b1_, b2_, b3_, b4_, b5_, b6_, b7_, b8_, b9_, b10_, b11_, b12_⟩ := L2.out.cells
      obtain ⟨p0, p1, p2, p3, p4, p5, p6, p7, p8, p9, p10, p11, p12⟩ := L5.out.cells
      obtain ⟨f0, f1, f2, f3, f4, f5, f6, f7, f8, f9, f10, f11, f12⟩ := L5.out.frs
      have kx := L4.out.at_ (i := j) (by rw [hQ]; exact hj)
      rw [g1] at kx
      have kf := L4.out.fr (1 + j)
      clear g1
      go_wp2_with fail
      obtain ⟨W', hW, e1, e2, e3⟩ := put13 L5.out false y0 y1 y2 y3 y4 y5 y6 y7 y8 y9 y10 y11 L6.out (by omega : w.heap.size ≤ w.heap.size + 1 + 1 + 1 + 1)
      have hs7 : w.heap.size + 5 ≤ W'.heap.size := by rw [hW]; have := L7.out; simpa [World.setCell] using this
      rw [← hW]
      clear hW
      have M1 := Aside0.mk ((e3 _ _ _ (by omega) L1.out).far (g' := w.heap.size + 1 + 1 + 1) (by omega) (1 + j) (.int .u64 (IntKind.u64.wrap (q * 2))))
      have M2 := Aside0.mk ((e3 _ _ _ (by omega) L2.out).far (g' := w.heap.size + 1 + 1 + 1) (by omega) (1 + j) (.int .u64 (IntKind.u64.wrap (q * 2))))
      have M3 := Aside0.mk ((e3 _ _ _ (by omega) L3.out).far (g' := w.heap.size + 1 + 1 + 1) (by omega) (1 + j) (.int .u64 (IntKind.u64.wrap (q * 2))))
      have M4 := Aside0.mk ((e3 _ _ _ (by omega) L4.out).set j (IntKind.u64.wrap (q * 2)))
      rw [G2.out] at M4
      have M5 := Aside0.mk (e1.far (g' := w.heap.size + 1 + 1 + 1) (by omega) (1 + j) (.int .u64 (IntKind.u64.wrap (q * 2))))
      have M6 := Aside0.mk (Below.setCell (p := ⟨w.heap.size + 1 + 1 + 1, 1 + j, none⟩) e2 (by show w.heap.size ≤ w.heap.size + 1 + 1 + 1; omega) (.int .u64 (IntKind.u64.wrap (q * 2))))
      have M7 := Aside0.mk (show w.heap.size + 5 ≤ (W'.setCell ⟨w.heap.size + 1 + 1 + 1, 1 + j, none⟩ (.int .u64 (IntKind.u64.wrap (q * 2)))).heap.size by simpa [World.setCell] using hs7)
      generalize W'.setCell _ _ = W2 at M1 M2 M3 M4 M5 M6 M7 ⊢
      clear e1 e2 e3 hs7 L1 L2 L3 L4 L5 L6 L7 kx kf
      refine (less_calls false b2 [y0, y1, y2, y3, y4, y5, y6, y7, y8, y9, y10, y11] [z0, z1, z2, z3, z4, z5, z6, z7, z8, z9, z10, z11] W2 HR1.out HN2.out).mono ?_
      rintro e w2 ⟨rfl, hb⟩
      have N1 := Aside0.mk (M1.out.below hb)
      have N2 := Aside0.mk (M2.out.below hb)
      have N3 := Aside0.mk (M3.out.below hb)
      have N4 := Aside0.mk (M4.out.below hb)
      have N5 := Aside0.mk (M5.out.below hb)
      have N6 := Aside0.mk (below_then M6.out M6.out.size hb)
      have N7 := Aside0.mk (show w.heap.size + 5 ≤ w2.heap.size from Nat.le_trans M7.out hb.size)
      clear M1 M2 M3 M4 M5 M6 M7 hb
      cases hless : lessL [y0, y1, y2, y3, y4, y5, y6, y7, y8, y9, y10, y11] [z0, z1, z2, z3, z4, z5, z6, z7, z8, z9, z10, z11] with
      | true =>
        have hd := HST.out
        rw [hless, if_pos rfl] at hd
        have hE := HE.out
        rw [divRun, hd] at hE
        have HE2 := Aside0.mk hE
        clear hd hE HE HST
        go_wp2
        refine ⟨?_, by simp [intOf]⟩
        (repeat apply Exists.intro)
        refine ⟨?rel, rfl⟩
        case rel => exact ⟨m, _, _, by omega, rfl, HQ2.out _, HR1, HE2, N1, N2, N3, N4, N5, N6, N7⟩
      | false =>
        have hd := HST.out
        rw [hless, if_neg (by decide)] at hd
        have hE := HE.out
        rw [divRun, hd] at hE
        have HE2 := Aside0.mk hE
        clear hd hE HE HST
        have HR2 := Aside0.mk (num_minus HR1.out HN2.out)
        obtain ⟨b0_, b1_, b2_, b3_, b4_, b5_, b6_, b7_, b8_, b9_, b10_, b11_, b12_⟩ := N2.out.cells
        obtain ⟨c0_, c1_, c2_, c3_, c4_, c5_, c6_, c7_, c8_, c9_, c10_, c11_, c12_⟩ := N5.out.cells
        go_wp2_with fail
        refine (minus_calls false b2 [y0, y1, y2, y3, y4, y5, y6, y7, y8, y9, y10, y11] [z0, z1, z2, z3, z4, z5, z6, z7, z8, z9, z10, z11] w2 HR1.out HN2.out).mono ?_
        rintro e w3 ⟨rfl, hb⟩
        have O1 := Aside0.mk (N1.out.below hb)
        have O2 := Aside0.mk (N2.out.below hb)
        have O3 := Aside0.mk (N3.out.below hb)
        have O4 := Aside0.mk (N4.out.below hb)
        have O5 := Aside0.mk (N5.out.below hb)
        have O6 := Aside0.mk (below_then N6.out N6.out.size hb)
        have O7 := Aside0.mk (show w.heap.size + 5 ≤ w3.heap.size from Nat.le_trans N7.out hb.size)
        clear N1 N2 N3 N4 N5 N6 N7 hb c0_ c1_ c2_ c3_ c4_ c5_ c6_ c7_ c8_ c9_ c10_ c11_ c12_ b0_ b1_ b2_ b3_ b4_ b5_ b6_ b7_ b8_ b9_ b10_ b11_ b12_
        generalize minusL 0 [y0, y1, y2, y3, y4, y5, y6, y7, y8, y9, y10, y11] [z0, z1, z2, z3, z4, z5, z6, z7, z8, z9, z10, z11] = R2 at *
        obtain ⟨v0, v1, v2, v3, v4, v5, v6, v7, v8, v9, v10, v11, rfl⟩ := dozen HR2.out.len
        rw [cells12]
        obtain ⟨p0, p1, p2, p3, p4, p5, p6, p7, p8, p9, p10, p11, p12⟩ := O5.out.cells
        obtain ⟨f0, f1, f2, f3, f4, f5, f6, f7, f8, f9, f10, f11, f12⟩ := O5.out.frs
        have kx := O4.out.at_ (i := j) (by rw [HQ2.out]; exact hj)
        rw [G4.out] at kx
        have kf := O4.out.fr (1 + j)
        go_wp2
        obtain ⟨W', hW, e1, e2, e3⟩ := put13 O5.out false v0 v1 v2 v3 v4 v5 v6 v7 v8 v9 v10 v11 O6.out (by omega : w.heap.size ≤ w.heap.size + 1 + 1 + 1 + 1)
        have hs7 : w.heap.size + 5 ≤ W'.heap.size := by rw [hW]; have := O7.out; simpa [World.setCell] using this
        rw [← hW]
        clear hW
        have M1 := Aside0.mk ((e3 _ _ _ (by omega) O1.out).far (g' := w.heap.size + 1 + 1 + 1) (by omega) (1 + j) (.int .u64 (IntKind.u64.wrap (IntKind.u64.wrap (q * 2) + 1))))
        have M2 := Aside0.mk ((e3 _ _ _ (by omega) O2.out).far (g' := w.heap.size + 1 + 1 + 1) (by omega) (1 + j) (.int .u64 (IntKind.u64.wrap (IntKind.u64.wrap (q * 2) + 1))))
        have M3 := Aside0.mk ((e3 _ _ _ (by omega) O3.out).far (g' := w.heap.size + 1 + 1 + 1) (by omega) (1 + j) (.int .u64 (IntKind.u64.wrap (IntKind.u64.wrap (q * 2) + 1))))
        have M4 := Aside0.mk ((e3 _ _ _ (by omega) O4.out).set j (IntKind.u64.wrap (IntKind.u64.wrap (q * 2) + 1)))
        rw [G3.out] at M4
        have M5 := Aside0.mk (e1.far (g' := w.heap.size + 1 + 1 + 1) (by omega) (1 + j) (.int .u64 (IntKind.u64.wrap (IntKind.u64.wrap (q * 2) + 1))))
        have M6 := Aside0.mk (Below.setCell (p := ⟨w.heap.size + 1 + 1 + 1, 1 + j, none⟩) e2 (by show w.heap.size ≤ w.heap.size + 1 + 1 + 1; omega) (.int .u64 (IntKind.u64.wrap (IntKind.u64.wrap (q * 2) + 1))))
        have M7 := Aside0.mk (show w.heap.size + 5 ≤ (W'.setCell ⟨w.heap.size + 1 + 1 + 1, 1 + j, none⟩ (.int .u64 (IntKind.u64.wrap (IntKind.u64.wrap (q * 2) + 1)))).heap.size by simpa [World.setCell] using hs7)
        generalize W'.setCell _ _ = W2 at M1 M2 M3 M4 M5 M6 M7 ⊢
        refine ⟨?_, by simp [intOf]⟩
        (repeat apply Exists.intro)
        refine ⟨?rel, rfl⟩
        case rel => exact ⟨m, _, _, by omega, rfl, HQ2.out _, HR2, HE2, M1, M2, M3, M4, M5, M6, M7⟩
end Go.Proofs.YtgodmbcebpbdiaaDoor.R2
end

/- What products of numbers of words come to, and what they are told as. No Go stands here. -/
section
set_option linter.unusedVariables false
set_option linter.unusedSimpArgs false
namespace Go.Proofs.YtgodmbcebpbdiaaDoor.R2

theorem pw_mono {m n : Nat} (h : m ≤ n) : pw m ≤ pw n := by
  induction n with
  | zero => have : m = 0 := by omega
            subst this; exact Int.le_refl _
  | succ n ih =>
    by_cases he : m = n + 1
    · subst he; exact Int.le_refl _
    · have := ih (by omega)
      have := pw_pos n
      rw [pw]; omega
/-! ### What a number of words is told as -/
/-- What a size and a sign are told as. -/
def toldN (b : Bool) (v : Int) : Int × Int :=
  if b then (if v > 9223372036854775808 then (0, 3) else (-v, 0)) else (if v > 9223372036854775807 then (0, 3) else (v, 0))
theorem back_val (b : Bool) {l : List Int} (h : Num l) : backV b l = toldN b (val l) := by
  have hw := h.words
  obtain ⟨x0, x1, x2, x3, x4, x5, x6, x7, x8, x9, x10, x11, rfl⟩ := dozen h.len
  have hx : ∀ y, y ∈ [x0, x1, x2, x3, x4, x5, x6, x7, x8, x9, x10, x11] → 0 ≤ y ∧ y < 4294967296 := hw
  have h0 := hx x0 (by simp); have h1 := hx x1 (by simp); have h2 := hx x2 (by simp); have h3 := hx x3 (by simp); have h4 := hx x4 (by simp); have h5 := hx x5 (by simp)
  have h6 := hx x6 (by simp); have h7 := hx x7 (by simp); have h8 := hx x8 (by simp); have h9 := hx x9 (by simp); have h10 := hx x10 (by simp); have h11 := hx x11 (by simp)
  unfold backV toldN
  have e0 : [x0, x1, x2, x3, x4, x5, x6, x7, x8, x9, x10, x11].getD 0 0 = x0 := rfl
  have e1 : [x0, x1, x2, x3, x4, x5, x6, x7, x8, x9, x10, x11].getD 1 0 = x1 := rfl
  have ed : ([x0, x1, x2, x3, x4, x5, x6, x7, x8, x9, x10, x11].drop 2).all (fun x => x == 0) = decide (x2 = 0 ∧ x3 = 0 ∧ x4 = 0 ∧ x5 = 0 ∧ x6 = 0 ∧ x7 = 0 ∧ x8 = 0 ∧ x9 = 0 ∧ x10 = 0 ∧ x11 = 0) := by
    simp [List.drop, List.all, beq_iff_eq, Bool.decide_and]
    rfl
  rw [e0, e1, ed]
  by_cases hz : x2 = 0 ∧ x3 = 0 ∧ x4 = 0 ∧ x5 = 0 ∧ x6 = 0 ∧ x7 = 0 ∧ x8 = 0 ∧ x9 = 0 ∧ x10 = 0 ∧ x11 = 0
  · rw [decide_eq_true hz, if_pos rfl]
    obtain ⟨rfl, rfl, rfl, rfl, rfl, rfl, rfl, rfl, rfl, rfl⟩ := hz
    have ev : val [x0, x1, 0, 0, 0, 0, 0, 0, 0, 0, 0, 0] = x0 + x1 * 4294967296 := by simp only [val]; omega
    rw [ev]
  · rw [decide_eq_false hz, if_neg (by decide)]
    have hbig : val [x0, x1, x2, x3, x4, x5, x6, x7, x8, x9, x10, x11] > 9223372036854775808 := by simp only [val]; omega
    cases b with
    | true => rw [if_pos rfl, if_pos hbig]
    | false => rw [if_neg (by decide), if_pos (by omega)]
end Go.Proofs.YtgodmbcebpbdiaaDoor.R2
end

/- What quotients of numbers of words, bit by bit, come to. No Go stands here. -/
section
set_option linter.unusedVariables false
set_option linter.unusedSimpArgs false
namespace Go.Proofs.YtgodmbcebpbdiaaDoor.R2

/-! ### The quotient so far -/
theorem getD_set_ne {Q : List Int} {j k : Nat} {x : Int} (h : k ≠ j) : (Q.set j x).getD k 0 = Q.getD k 0 := by
  rw [List.getD_eq_getElem?_getD, List.getD_eq_getElem?_getD, List.getElem?_set_ne (Ne.symm h)]
/-! ### All bits -/
end Go.Proofs.YtgodmbcebpbdiaaDoor.R2
end
