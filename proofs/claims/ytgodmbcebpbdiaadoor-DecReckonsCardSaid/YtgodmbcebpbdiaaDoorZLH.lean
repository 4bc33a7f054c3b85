/- Products of numbers of words, walked: one round's first half. -/
import Derived.Test.YtgodmbcebpbdiaaDoorZMl
import Derived.Deep.RegionHeld
import Derived.WalkSpells
set_option linter.unusedVariables false
set_option linter.unusedSimpArgs false
namespace Go.Proofs.YtgodmbcebpbdiaaDoor.R2
open Go.RowKit Go.Proofs.YtgodmbcebpbdiaaDoorW.PrintWords

/-- What holds while a product's round is reckoned: both numbers lie as they did, all else is new. -/
def HeldM (g : Nat) (b b2 : Bool) (X Z : List Int) (W w' : World) : Prop := IsI w' g b X ∧ IsI w' (g + 1) b2 Z ∧ Below W.heap.size W w'
theorem HeldM.step {g : Nat} {b b2 : Bool} {X Z : List Int} {W w1 w2 : World} (h : HeldM g b b2 X Z W w1) (hb : Below w1.heap.size w1 w2) : HeldM g b b2 X Z W w2 :=
  ⟨h.1.below hb, h.2.1.below hb, below_then h.2.2 h.2.2.size hb⟩
theorem HeldM.new {g : Nat} {b b2 : Bool} {X Z : List Int} {W w1 : World} (h : HeldM g b b2 X Z W w1) :
    IsI (w1.alloc (.cells (cellsI false (List.replicate 12 0)) 58)) w1.heap.size false (List.replicate 12 0) ∧ W.heap.size ≤ w1.heap.size ∧ HeldM g b b2 X Z W (w1.alloc (.cells (cellsI false (List.replicate 12 0)) 58)) :=
  ⟨IsI.new _ _ _, h.2.2.size, h.1.alloc _, h.2.1.alloc _, below_alloc h.2.2 _⟩
/-- One step of a product. -/
def mulStep (a b x : List Int) (i : Nat) : List Int := addL 0 x (shiftL i (timesL (b.getD i 0) 0 a))
set_option maxHeartbeats 8000000 in
set_option maxRecDepth 100000 in
theorem mul_calls (b b2 : Bool) (l l2 : List Int) (w : World) (h : Num l) (h2 : Num l2) :
    Calls Tryd.prog 54 #[.agg (cellsI b l), .agg (cellsI b2 l2)] w fun e w' => e = .returned (.agg (cellsI (b != b2) (mulStep l l2 (mulStep l l2 (List.replicate 12 0) 0) 1))) ∧ Below w.heap.size w w' := by
  have HN := Aside0.mk h
  have HN2 := Aside0.mk h2
  obtain ⟨x0, x1, x2, x3, x4, x5, x6, x7, x8, x9, x10, x11, rfl⟩ := dozen h.len
  obtain ⟨z0, z1, z2, z3, z4, z5, z6, z7, z8, z9, z10, z11, rfl⟩ := dozen h2.len
  clear h h2
  go_enter Tryd.func54, Tryd.ntmps54
  go_wp2_with fail
  rw [← zeros_cells]
  have K1 := Aside0.mk (show IsI ((((w.alloc (.cells (cellsI b [x0, x1, x2, x3, x4, x5, x6, x7, x8, x9, x10, x11]) 58)).alloc (.cells (cellsI b2 [z0, z1, z2, z3, z4, z5, z6, z7, z8, z9, z10, z11]) 58)).alloc (.cells (cellsI false (List.replicate 12 0)) 58)).alloc (.cells (cellsI false (List.replicate 12 0)) 58)) w.heap.size b [x0, x1, x2, x3, x4, x5, x6, x7, x8, x9, x10, x11] from (((IsI.new w b [x0, x1, x2, x3, x4, x5, x6, x7, x8, x9, x10, x11]).alloc _).alloc _).alloc _)
  have K2 := Aside0.mk (show IsI ((((w.alloc (.cells (cellsI b [x0, x1, x2, x3, x4, x5, x6, x7, x8, x9, x10, x11]) 58)).alloc (.cells (cellsI b2 [z0, z1, z2, z3, z4, z5, z6, z7, z8, z9, z10, z11]) 58)).alloc (.cells (cellsI false (List.replicate 12 0)) 58)).alloc (.cells (cellsI false (List.replicate 12 0)) 58)) (w.heap.size + 1) b2 [z0, z1, z2, z3, z4, z5, z6, z7, z8, z9, z10, z11] from by
    have := IsI.new (w.alloc (.cells (cellsI b [x0, x1, x2, x3, x4, x5, x6, x7, x8, x9, x10, x11]) 58)) b2 [z0, z1, z2, z3, z4, z5, z6, z7, z8, z9, z10, z11]
    rw [World.size_alloc] at this
    exact (this.alloc _).alloc _)
  have K3 := Aside0.mk (show IsI ((((w.alloc (.cells (cellsI b [x0, x1, x2, x3, x4, x5, x6, x7, x8, x9, x10, x11]) 58)).alloc (.cells (cellsI b2 [z0, z1, z2, z3, z4, z5, z6, z7, z8, z9, z10, z11]) 58)).alloc (.cells (cellsI false (List.replicate 12 0)) 58)).alloc (.cells (cellsI false (List.replicate 12 0)) 58)) (w.heap.size + 1 + 1) false (List.replicate 12 0) from by
    have := IsI.new ((w.alloc (.cells (cellsI b [x0, x1, x2, x3, x4, x5, x6, x7, x8, x9, x10, x11]) 58)).alloc (.cells (cellsI b2 [z0, z1, z2, z3, z4, z5, z6, z7, z8, z9, z10, z11]) 58)) false (List.replicate 12 0)
    rw [World.size_alloc, World.size_alloc] at this
    exact this.alloc _)
  have K5 := Aside0.mk (show IsI ((((w.alloc (.cells (cellsI b [x0, x1, x2, x3, x4, x5, x6, x7, x8, x9, x10, x11]) 58)).alloc (.cells (cellsI b2 [z0, z1, z2, z3, z4, z5, z6, z7, z8, z9, z10, z11]) 58)).alloc (.cells (cellsI false (List.replicate 12 0)) 58)).alloc (.cells (cellsI false (List.replicate 12 0)) 58)) (w.heap.size + 1 + 1 + 1) false (List.replicate 12 0) from by
    have := IsI.new (((w.alloc (.cells (cellsI b [x0, x1, x2, x3, x4, x5, x6, x7, x8, x9, x10, x11]) 58)).alloc (.cells (cellsI b2 [z0, z1, z2, z3, z4, z5, z6, z7, z8, z9, z10, z11]) 58)).alloc (.cells (cellsI false (List.replicate 12 0)) 58)) false (List.replicate 12 0)
    rwa [World.size_alloc, World.size_alloc, World.size_alloc] at this)
  have K4 := Aside0.mk (show Below w.heap.size w ((((w.alloc (.cells (cellsI b [x0, x1, x2, x3, x4, x5, x6, x7, x8, x9, x10, x11]) 58)).alloc (.cells (cellsI b2 [z0, z1, z2, z3, z4, z5, z6, z7, z8, z9, z10, z11]) 58)).alloc (.cells (cellsI false (List.replicate 12 0)) 58)).alloc (.cells (cellsI false (List.replicate 12 0)) 58)) from below_alloc (below_alloc (below_alloc (below_alloc (Below.refl _ _) _) _) _) _)
  have K6 := Aside0.mk (show w.heap.size + 4 ≤ ((((w.alloc (.cells (cellsI b [x0, x1, x2, x3, x4, x5, x6, x7, x8, x9, x10, x11]) 58)).alloc (.cells (cellsI b2 [z0, z1, z2, z3, z4, z5, z6, z7, z8, z9, z10, z11]) 58)).alloc (.cells (cellsI false (List.replicate 12 0)) 58)).alloc (.cells (cellsI false (List.replicate 12 0)) 58)).heap.size by simp only [World.size_alloc]; omega)
  generalize (((w.alloc _).alloc _).alloc _).alloc _ = W0 at K1 K2 K3 K4 K5 K6 ⊢
  go_loopw [6] (fun v6 wr => ∃ (k : Nat) (xl : List Int), k ≤ 2 ∧ v6 = .int .i64 k ∧ Aside0 (Num xl) ∧ Aside0 (xl = (if k = 0 then List.replicate 12 0 else if k = 1 then mulStep [x0, x1, x2, x3, x4, x5, x6, x7, x8, x9, x10, x11] [z0, z1, z2, z3, z4, z5, z6, z7, z8, z9, z10, z11] (List.replicate 12 0) 0 else mulStep [x0, x1, x2, x3, x4, x5, x6, x7, x8, x9, x10, x11] [z0, z1, z2, z3, z4, z5, z6, z7, z8, z9, z10, z11] (mulStep [x0, x1, x2, x3, x4, x5, x6, x7, x8, x9, x10, x11] [z0, z1, z2, z3, z4, z5, z6, z7, z8, z9, z10, z11] (List.replicate 12 0) 0) 1)) ∧ Aside0 (IsI wr w.heap.size b [x0, x1, x2, x3, x4, x5, x6, x7, x8, x9, x10, x11]) ∧ Aside0 (IsI wr (w.heap.size + 1) b2 [z0, z1, z2, z3, z4, z5, z6, z7, z8, z9, z10, z11]) ∧ Aside0 (IsI wr (w.heap.size + 1 + 1) false (List.replicate 12 0)) ∧ Aside0 (IsI wr (w.heap.size + 1 + 1 + 1) false xl) ∧ Aside0 (Below w.heap.size w wr) ∧ Aside0 (w.heap.size + 4 ≤ wr.heap.size)) (fun v6 _ => 2 - (intOf v6).toNat)
  case atStart => exact ⟨0, List.replicate 12 0, by omega, rfl, ⟨⟨rfl, fun x hx => by rw [List.eq_of_mem_replicate hx]; omega⟩⟩, ⟨rfl⟩, K1, K2, K3, K5, K4, K6⟩
  case round =>
    clear K1 K2 K3 K4 K5 K6
    obtain ⟨k, xl, hk, rfl, HX, HE, K1, K2, K3, K5, K4, K6⟩ := hrel
    by_cases hlt : k < 2
    · have c1 : decide ((k : Int) < 2) = true := decide_eq_true (by omega)
      have c2 : (k : Int) < 12 := by omega
      have kz := K2.out.at_ (i := k) (by rw [HN2.out.len]; omega)
      obtain ⟨p0, p1, p2, p3, p4, p5, p6, p7, p8, p9, p10, p11, p12⟩ := K1.out.cells
      have hzk := HN2.out.words ([z0, z1, z2, z3, z4, z5, z6, z7, z8, z9, z10, z11].getD k 0) (by rw [List.getD_eq_getElem?_getD, List.getElem?_eq_getElem (by rw [HN2.out.len]; omega), Option.getD_some]; exact List.getElem_mem _)
      have HT := Aside0.mk (HN.out.times hzk (c := 0) (by omega)).1
      have HY := Aside0.mk (moved_num k 12 HT.out)
      generalize hzq : [z0, z1, z2, z3, z4, z5, z6, z7, z8, z9, z10, z11].getD k 0 = zk at kz hzk HT HY
      have HZ := Aside0.mk hzq; clear hzq
      have HZK := Aside0.mk hzk; clear hzk
      obtain ⟨y0, y1, y2, y3, y4, y5, y6, y7, y8, y9, y10, y11, hy⟩ := dozen HY.out.len
      have HYE := Aside0.mk (show shiftL k (timesL zk 0 [x0, x1, x2, x3, x4, x5, x6, x7, x8, x9, x10, x11]) = [y0, y1, y2, y3, y4, y5, y6, y7, y8, y9, y10, y11] from hy); clear hy
      have k6 : w.heap.size + 4 ≤ wr.heap.size := K6.out
      go_wp2
      go_cut [7] (fun v7 wc => ∃ (gy : Nat), v7 = .pointer (some ⟨gy, 0, none⟩) ∧ Aside0 (wr.heap.size ≤ gy) ∧ Aside0 (IsI wc gy b [y0, y1, y2, y3, y4, y5, y6, y7, y8, y9, y10, y11]) ∧ Aside0 (Below wr.heap.size wr wc))
      case first jc ja jb jd =>
        refine wp_region_held_drew (S := HeldM w.heap.size b b2 [x0, x1, x2, x3, x4, x5, x6, x7, x8, x9, x10, x11] [z0, z1, z2, z3, z4, z5, z6, z7, z8, z9, z10, z11] wr) (by kernel_rfl) ⟨K1.out, K2.out, pw_below_drewN (Below.refl _ _) 1⟩ (fun hHeld => ?_)
        refine wpAnyH_take (i := 0) (oi := { dst := some 15, op := Go.Op.load 58 (Go.Operand.tmp 2), type := 58, pos := "ref.go:78", after := #[], guard := none }) (v := .agg (cellsI b [x0, x1, x2, x3, x4, x5, x6, x7, x8, x9, x10, x11])) rfl (by kernel_rfl) (by kernel_rfl) (by kernel_rfl) (fun _ _ _ h => h) (Or.inl ⟨by kernel_rfl, ?_⟩) (by assumption) ?_
        · (intro w0 hSw; obtain ⟨h1, h2, h3⟩ := hSw; obtain ⟨p0, p1, p2, p3, p4, p5, p6, p7, p8, p9, p10, p11, p12⟩ := h1.cells; have hz := h2.at_ (i := k) (by rw [HN2.out.len]; omega); rw [HZ.out] at hz; go_simp; try rfl)
        try simp only [Act.put, List.setIfInBounds_toArray, List.set_cons_zero, List.set_cons_succ]
        refine wpAnyH_take (i := 1) (oi := { dst := some 16, op := Go.Op.move (Go.Operand.tmp 6), type := 3, pos := "ref.go:78", after := #[], guard := none }) (v := .int .i64 k) rfl (by kernel_rfl) (by kernel_rfl) (by kernel_rfl) (fun _ _ _ h => h) (Or.inl ⟨by kernel_rfl, ?_⟩) (by assumption) ?_
        · (intro w0 hSw; obtain ⟨h1, h2, h3⟩ := hSw; obtain ⟨p0, p1, p2, p3, p4, p5, p6, p7, p8, p9, p10, p11, p12⟩ := h1.cells; have hz := h2.at_ (i := k) (by rw [HN2.out.len]; omega); rw [HZ.out] at hz; go_simp; try rfl)
        try simp only [Act.put, List.setIfInBounds_toArray, List.set_cons_zero, List.set_cons_succ]
        refine wpAnyH_take (i := 2) (oi := { dst := some 17, op := Go.Op.fieldAddr 58 (Go.Operand.tmp 3) 1, type := 0, pos := "ref.go:78", after := #[], guard := none }) (v := .pointer (some ⟨w.heap.size + 1, 1, none⟩)) rfl (by kernel_rfl) (by kernel_rfl) (by kernel_rfl) (fun _ _ _ h => h) (Or.inl ⟨by kernel_rfl, ?_⟩) (by assumption) ?_
        · (intro w0 hSw; obtain ⟨h1, h2, h3⟩ := hSw; obtain ⟨p0, p1, p2, p3, p4, p5, p6, p7, p8, p9, p10, p11, p12⟩ := h1.cells; have hz := h2.at_ (i := k) (by rw [HN2.out.len]; omega); rw [HZ.out] at hz; go_simp; try rfl)
        try simp only [Act.put, List.setIfInBounds_toArray, List.set_cons_zero, List.set_cons_succ]
        refine wpAnyH_take (i := 3) (oi := { dst := some 18, op := Go.Op.indexAddr 56 (Go.Operand.tmp 17) (Go.Operand.tmp 16), type := 0, pos := "ref.go:78", after := #[{ on := 2, ground := Go.Ground.data }, { on := 1, ground := Go.Ground.data }], guard := none }) (v := .pointer (some ⟨w.heap.size + 1, 1 + k, none⟩)) rfl (by kernel_rfl) (by kernel_rfl) (by kernel_rfl) (fun _ _ _ h => h) (Or.inl ⟨by kernel_rfl, ?_⟩) (by assumption) ?_
        · (intro w0 hSw; obtain ⟨h1, h2, h3⟩ := hSw; obtain ⟨p0, p1, p2, p3, p4, p5, p6, p7, p8, p9, p10, p11, p12⟩ := h1.cells; have hz := h2.at_ (i := k) (by rw [HN2.out.len]; omega); rw [HZ.out] at hz; go_simp; try rfl)
        try simp only [Act.put, List.setIfInBounds_toArray, List.set_cons_zero, List.set_cons_succ]
        refine wpAnyH_take (i := 4) (oi := { dst := some 19, op := Go.Op.load 51 (Go.Operand.tmp 18), type := 51, pos := "ref.go:78", after := #[{ on := 3, ground := Go.Ground.data }], guard := none }) (v := .int .u64 zk) rfl (by kernel_rfl) (by kernel_rfl) (by kernel_rfl) (fun _ _ _ h => h) (Or.inl ⟨by kernel_rfl, ?_⟩) (by assumption) ?_
        · (intro w0 hSw; obtain ⟨h1, h2, h3⟩ := hSw; obtain ⟨p0, p1, p2, p3, p4, p5, p6, p7, p8, p9, p10, p11, p12⟩ := h1.cells; have hz := h2.at_ (i := k) (by rw [HN2.out.len]; omega); rw [HZ.out] at hz; go_simp; try rfl)
        try simp only [Act.put, List.setIfInBounds_toArray, List.set_cons_zero, List.set_cons_succ]
        refine wpAnyH_take (i := 6) (oi := { dst := some 21, op := Go.Op.move (Go.Operand.tmp 6), type := 3, pos := "ref.go:78", after := #[], guard := none }) (v := .int .i64 k) rfl (by kernel_rfl) (by kernel_rfl) (by kernel_rfl) (fun _ _ _ h => h) (Or.inl ⟨by kernel_rfl, ?_⟩) (by assumption) ?_
        · (intro w0 hSw; obtain ⟨h1, h2, h3⟩ := hSw; obtain ⟨p0, p1, p2, p3, p4, p5, p6, p7, p8, p9, p10, p11, p12⟩ := h1.cells; have hz := h2.at_ (i := k) (by rw [HN2.out.len]; omega); rw [HZ.out] at hz; go_simp; try rfl)
        try simp only [Act.put, List.setIfInBounds_toArray, List.set_cons_zero, List.set_cons_succ]
        refine wpAnyH_ready (rs := [5, 8]) (by kernel_rfl) (by simp) ?_
        refine (AllReadyH.cons (o := { dst := some 20, op := Go.Op.call { callee := Go.Callee.value (Go.Operand.func 41), args := #[Go.Operand.tmp 15, Go.Operand.tmp 19, Go.Operand.const (Go.Value.int Go.IntKind.u64 0)], argTypes := #[58, 51, 51] }, type := 58, pos := "ref.go:78", after := #[{ on := 0, ground := Go.Ground.data }, { on := 4, ground := Go.Ground.data }], guard := none }) rfl (fun K hK => ?_) (AllReadyH.cons (o := { dst := some 7, op := Go.Op.alloc 58, type := 0, pos := "ref.go:78", after := #[], guard := none }) rfl (fun K hK => ?_) AllReadyH.nil))
        · go_simp
          refine (times_calls b [x0, x1, x2, x3, x4, x5, x6, x7, x8, x9, x10, x11] zk 0 _ HN.out HZK.out (by omega)).mono ?_
          rintro e w1 ⟨rfl, hb1⟩
          refine hK.out _ _ (hHeld.step hb1) (fun hH1 => ?_)
          clear hK K
          try simp only [Act.put, List.setIfInBounds_toArray, List.set_cons_zero, List.set_cons_succ]
          refine wpAnyH_ready (rs := [7, 8]) (by kernel_rfl) (by simp) ?_
          refine (AllReadyH.cons (o := { dst := some 22, op := Go.Op.call { callee := Go.Callee.value (Go.Operand.func 63), args := #[Go.Operand.tmp 20, Go.Operand.tmp 21], argTypes := #[58, 3] }, type := 58, pos := "ref.go:78", after := #[{ on := 5, ground := Go.Ground.data }, { on := 6, ground := Go.Ground.data }, { on := 5, ground := Go.Ground.chain }], guard := none }) rfl (fun K hK => ?_) (AllReadyH.cons (o := { dst := some 7, op := Go.Op.alloc 58, type := 0, pos := "ref.go:78", after := #[], guard := none }) rfl (fun K hK => ?_) AllReadyH.nil))
          · go_simp
            refine (shift_calls b (timesL zk 0 [x0, x1, x2, x3, x4, x5, x6, x7, x8, x9, x10, x11]) k _ HT.out (by omega)).mono ?_
            rintro e w2 ⟨rfl, hb2⟩
            rw [HYE.out, cells12]
            refine hK.out _ _ (hH1.step hb2) (fun hH2 => ?_)
            clear hK K
            try simp only [Act.put, List.setIfInBounds_toArray, List.set_cons_zero, List.set_cons_succ]
            refine wpAnyH_ready (rs := [8]) (by kernel_rfl) (by simp) ?_
            refine (AllReadyH.cons (o := { dst := some 7, op := Go.Op.alloc 58, type := 0, pos := "ref.go:78", after := #[], guard := none }) rfl (fun K hK => ?_) AllReadyH.nil)
            go_simp
            rw [← zeros_cells]
            have hn3 := hH2.new
            generalize hw3 : World.alloc _ _ = w3 at hn3 ⊢
            obtain ⟨hA3, hn3b, hN3⟩ := hn3
            refine hK.out _ _ (hN3) (fun hH3 => ?_)
            clear hK K
            try simp only [Act.put, List.setIfInBounds_toArray, List.set_cons_zero, List.set_cons_succ]
            refine wpAnyH_ready (rs := [9]) (by kernel_rfl) (by simp) ?_
            refine (AllReadyH.cons (o := { dst := none, op := Go.Op.store 58 (Go.Operand.tmp 7) (Go.Operand.tmp 22), type := 0, pos := "ref.go:78", after := #[{ on := 8, ground := Go.Ground.data }, { on := 7, ground := Go.Ground.data }, { on := 7, ground := Go.Ground.chain }, { on := 0, ground := Go.Ground.phase }, { on := 1, ground := Go.Ground.phase }, { on := 2, ground := Go.Ground.phase }, { on := 3, ground := Go.Ground.phase }, { on := 4, ground := Go.Ground.phase }, { on := 5, ground := Go.Ground.phase }, { on := 6, ground := Go.Ground.phase }, { on := 7, ground := Go.Ground.phase }, { on := 8, ground := Go.Ground.phase }], guard := none }) rfl (fun K hK => ?_) AllReadyH.nil)
            obtain ⟨q0, q1, q2, q3, q4, q5, q6, q7, q8, q9, q10, q11, q12⟩ := IsI.cells (x0 := 0) (x1 := 0) (x2 := 0) (x3 := 0) (x4 := 0) (x5 := 0) (x6 := 0) (x7 := 0) (x8 := 0) (x9 := 0) (x10 := 0) (x11 := 0) hA3
            obtain ⟨f0, f1, f2, f3, f4, f5, f6, f7, f8, f9, f10, f11, f12⟩ := hA3.frs
            go_simp
            obtain ⟨W', hW, e1, e2, e3⟩ := put13 (x0 := 0) (x1 := 0) (x2 := 0) (x3 := 0) (x4 := 0) (x5 := 0) (x6 := 0) (x7 := 0) (x8 := 0) (x9 := 0) (x10 := 0) (x11 := 0) hA3 b y0 y1 y2 y3 y4 y5 y6 y7 y8 y9 y10 y11 hH3.2.2 hn3b
            rw [← hW]
            refine hK.out _ _ (⟨e3 _ _ _ (by omega) hH3.1, e3 _ _ _ (by omega) hH3.2.1, e2⟩) (fun hHe => ?_)
            clear hK K
            try simp only [Act.put, List.setIfInBounds_toArray, List.set_cons_zero, List.set_cons_succ]
            refine wpAnyH_done (by kernel_rfl) ?_ _
            refine jd _ _ (Met.intro (jb _ _ ?_))
            (repeat apply Exists.intro)
            refine ⟨?rel, rfl⟩
            case rel => exact ⟨_, rfl, ⟨hn3b⟩, ⟨e1⟩, ⟨e2⟩⟩
          · go_simp
            rw [← zeros_cells]
            have hn2 := hH1.new
            generalize hw2 : World.alloc _ _ = w2 at hn2 ⊢
            obtain ⟨hA2, hn2b, hN2⟩ := hn2
            refine hK.out _ _ (hN2) (fun hH2 => ?_)
            clear hK K
            try simp only [Act.put, List.setIfInBounds_toArray, List.set_cons_zero, List.set_cons_succ]
            refine wpAnyH_ready (rs := [7]) (by kernel_rfl) (by simp) ?_
            refine (AllReadyH.cons (o := { dst := some 22, op := Go.Op.call { callee := Go.Callee.value (Go.Operand.func 63), args := #[Go.Operand.tmp 20, Go.Operand.tmp 21], argTypes := #[58, 3] }, type := 58, pos := "ref.go:78", after := #[{ on := 5, ground := Go.Ground.data }, { on := 6, ground := Go.Ground.data }, { on := 5, ground := Go.Ground.chain }], guard := none }) rfl (fun K hK => ?_) AllReadyH.nil)
            go_simp
            refine (shift_calls b (timesL zk 0 [x0, x1, x2, x3, x4, x5, x6, x7, x8, x9, x10, x11]) k _ HT.out (by omega)).mono ?_
            rintro e w3 ⟨rfl, hb3⟩
            rw [HYE.out, cells12]
            refine hK.out _ _ (hH2.step hb3) (fun hH3 => ?_)
            clear hK K
            try simp only [Act.put, List.setIfInBounds_toArray, List.set_cons_zero, List.set_cons_succ]
            have hA3 := hA2.below hb3
            refine wpAnyH_ready (rs := [9]) (by kernel_rfl) (by simp) ?_
            refine (AllReadyH.cons (o := { dst := none, op := Go.Op.store 58 (Go.Operand.tmp 7) (Go.Operand.tmp 22), type := 0, pos := "ref.go:78", after := #[{ on := 8, ground := Go.Ground.data }, { on := 7, ground := Go.Ground.data }, { on := 7, ground := Go.Ground.chain }, { on := 0, ground := Go.Ground.phase }, { on := 1, ground := Go.Ground.phase }, { on := 2, ground := Go.Ground.phase }, { on := 3, ground := Go.Ground.phase }, { on := 4, ground := Go.Ground.phase }, { on := 5, ground := Go.Ground.phase }, { on := 6, ground := Go.Ground.phase }, { on := 7, ground := Go.Ground.phase }, { on := 8, ground := Go.Ground.phase }], guard := none }) rfl (fun K hK => ?_) AllReadyH.nil)
            obtain ⟨q0, q1, q2, q3, q4, q5, q6, q7, q8, q9, q10, q11, q12⟩ := IsI.cells (x0 := 0) (x1 := 0) (x2 := 0) (x3 := 0) (x4 := 0) (x5 := 0) (x6 := 0) (x7 := 0) (x8 := 0) (x9 := 0) (x10 := 0) (x11 := 0) hA3
            obtain ⟨f0, f1, f2, f3, f4, f5, f6, f7, f8, f9, f10, f11, f12⟩ := hA3.frs
            go_simp
            obtain ⟨W', hW, e1, e2, e3⟩ := put13 (x0 := 0) (x1 := 0) (x2 := 0) (x3 := 0) (x4 := 0) (x5 := 0) (x6 := 0) (x7 := 0) (x8 := 0) (x9 := 0) (x10 := 0) (x11 := 0) hA3 b y0 y1 y2 y3 y4 y5 y6 y7 y8 y9 y10 y11 hH3.2.2 hn2b
            rw [← hW]
            refine hK.out _ _ (⟨e3 _ _ _ (by omega) hH3.1, e3 _ _ _ (by omega) hH3.2.1, e2⟩) (fun hHe => ?_)
            clear hK K
            try simp only [Act.put, List.setIfInBounds_toArray, List.set_cons_zero, List.set_cons_succ]
            refine wpAnyH_done (by kernel_rfl) ?_ _
            refine jd _ _ (Met.intro (jb _ _ ?_))
            (repeat apply Exists.intro)
            refine ⟨?rel, rfl⟩
            case rel => exact ⟨_, rfl, ⟨hn2b⟩, ⟨e1⟩, ⟨e2⟩⟩
        · go_simp
          rw [← zeros_cells]
          have hn1 := hHeld.new
          rw [show wr.drew.alloc (.cells (cellsI false (List.replicate 12 0)) 58) = (wr.alloc (.cells (cellsI false (List.replicate 12 0)) 58)).drew from rfl] at hn1
          change IsI _ wr.heap.size false _ ∧ wr.heap.size ≤ wr.heap.size ∧ _ at hn1
          generalize hw1 : World.drew (World.alloc _ _) = w1 at hn1 ⊢
          obtain ⟨hA1, hn1b, hN1⟩ := hn1
          refine hK.out _ _ (hN1) (fun hH1 => ?_)
          clear hK K
          try simp only [Act.put, List.setIfInBounds_toArray, List.set_cons_zero, List.set_cons_succ]
          refine wpAnyH_ready (rs := [5]) (by kernel_rfl) (by simp) ?_
          refine (AllReadyH.cons (o := { dst := some 20, op := Go.Op.call { callee := Go.Callee.value (Go.Operand.func 41), args := #[Go.Operand.tmp 15, Go.Operand.tmp 19, Go.Operand.const (Go.Value.int Go.IntKind.u64 0)], argTypes := #[58, 51, 51] }, type := 58, pos := "ref.go:78", after := #[{ on := 0, ground := Go.Ground.data }, { on := 4, ground := Go.Ground.data }], guard := none }) rfl (fun K hK => ?_) AllReadyH.nil)
          go_simp
          refine (times_calls b [x0, x1, x2, x3, x4, x5, x6, x7, x8, x9, x10, x11] zk 0 _ HN.out HZK.out (by omega)).mono ?_
          rintro e w2 ⟨rfl, hb2⟩
          refine hK.out _ _ (hH1.step hb2) (fun hH2 => ?_)
          clear hK K
          try simp only [Act.put, List.setIfInBounds_toArray, List.set_cons_zero, List.set_cons_succ]
          have hA2 := hA1.below hb2
          refine wpAnyH_ready (rs := [7]) (by kernel_rfl) (by simp) ?_
          refine (AllReadyH.cons (o := { dst := some 22, op := Go.Op.call { callee := Go.Callee.value (Go.Operand.func 63), args := #[Go.Operand.tmp 20, Go.Operand.tmp 21], argTypes := #[58, 3] }, type := 58, pos := "ref.go:78", after := #[{ on := 5, ground := Go.Ground.data }, { on := 6, ground := Go.Ground.data }, { on := 5, ground := Go.Ground.chain }], guard := none }) rfl (fun K hK => ?_) AllReadyH.nil)
          go_simp
          refine (shift_calls b (timesL zk 0 [x0, x1, x2, x3, x4, x5, x6, x7, x8, x9, x10, x11]) k _ HT.out (by omega)).mono ?_
          rintro e w3 ⟨rfl, hb3⟩
          rw [HYE.out, cells12]
          refine hK.out _ _ (hH2.step hb3) (fun hH3 => ?_)
          clear hK K
          try simp only [Act.put, List.setIfInBounds_toArray, List.set_cons_zero, List.set_cons_succ]
          have hA3 := hA2.below hb3
          refine wpAnyH_ready (rs := [9]) (by kernel_rfl) (by simp) ?_
          refine (AllReadyH.cons (o := { dst := none, op := Go.Op.store 58 (Go.Operand.tmp 7) (Go.Operand.tmp 22), type := 0, pos := "ref.go:78", after := #[{ on := 8, ground := Go.Ground.data }, { on := 7, ground := Go.Ground.data }, { on := 7, ground := Go.Ground.chain }, { on := 0, ground := Go.Ground.phase }, { on := 1, ground := Go.Ground.phase }, { on := 2, ground := Go.Ground.phase }, { on := 3, ground := Go.Ground.phase }, { on := 4, ground := Go.Ground.phase }, { on := 5, ground := Go.Ground.phase }, { on := 6, ground := Go.Ground.phase }, { on := 7, ground := Go.Ground.phase }, { on := 8, ground := Go.Ground.phase }], guard := none }) rfl (fun K hK => ?_) AllReadyH.nil)
          obtain ⟨q0, q1, q2, q3, q4, q5, q6, q7, q8, q9, q10, q11, q12⟩ := IsI.cells (x0 := 0) (x1 := 0) (x2 := 0) (x3 := 0) (x4 := 0) (x5 := 0) (x6 := 0) (x7 := 0) (x8 := 0) (x9 := 0) (x10 := 0) (x11 := 0) hA3
          obtain ⟨f0, f1, f2, f3, f4, f5, f6, f7, f8, f9, f10, f11, f12⟩ := hA3.frs
          go_simp
          obtain ⟨W', hW, e1, e2, e3⟩ := put13 (x0 := 0) (x1 := 0) (x2 := 0) (x3 := 0) (x4 := 0) (x5 := 0) (x6 := 0) (x7 := 0) (x8 := 0) (x9 := 0) (x10 := 0) (x11 := 0) hA3 b y0 y1 y2 y3 y4 y5 y6 y7 y8 y9 y10 y11 hH3.2.2 hn1b
          rw [← hW]
          refine hK.out _ _ (⟨e3 _ _ _ (by omega) hH3.1, e3 _ _ _ (by omega) hH3.2.1, e2⟩) (fun hHe => ?_)
          clear hK K
          try simp only [Act.put, List.setIfInBounds_toArray, List.set_cons_zero, List.set_cons_succ]
          refine wpAnyH_done (by kernel_rfl) ?_ _
          refine jd _ _ (Met.intro (jb _ _ ?_))
          (repeat apply Exists.intro)
          refine ⟨?rel, rfl⟩
          case rel => exact ⟨_, rfl, ⟨hn1b⟩, ⟨e1⟩, ⟨e2⟩⟩
      case rest =>
        obtain ⟨gy, rfl, HG, KY, HBW⟩ := hcut
        have L1 := Aside0.mk (K1.out.below HBW.out)
        have L2 := Aside0.mk (K2.out.below HBW.out)
        have L3 := Aside0.mk (K3.out.below HBW.out)
        have L5 := Aside0.mk (K5.out.below HBW.out)
        have L4 := Aside0.mk (below_then K4.out K4.out.size HBW.out)
        have L6 := Aside0.mk (show w.heap.size + 4 ≤ wc.heap.size from Nat.le_trans K6.out HBW.out.size)
        have hgy : w.heap.size + 4 ≤ gy := Nat.le_trans K6.out HG.out
        clear K1 K2 K3 K4 K5 K6 HBW HG kz p0 p1 p2 p3 p4 p5 p6 p7 p8 p9 p10 p11 p12 k6
        go_wp2_with fail
        go_loopw [8, 9] (fun v8 v9 wz => ∃ (j : Nat) (cc : Int) (a r p q : List Int), j ≤ 12 ∧ a.length = j ∧ p.length = j ∧ v9 = .int .i64 j ∧ v8 = .int .u64 cc ∧ [y0, y1, y2, y3, y4, y5, y6, y7, y8, y9, y10, y11] = p ++ q ∧ Aside0 (Num (a ++ r)) ∧ Aside0 (cc = 0 ∨ cc = 1) ∧ Aside0 (addL 0 xl [y0, y1, y2, y3, y4, y5, y6, y7, y8, y9, y10, y11] = a ++ addL cc r q) ∧ Aside0 (IsI wz (w.heap.size + 1 + 1 + 1) false (a ++ r)) ∧ Aside0 (IsI wz gy b [y0, y1, y2, y3, y4, y5, y6, y7, y8, y9, y10, y11]) ∧ Aside0 (IsI wz w.heap.size b [x0, x1, x2, x3, x4, x5, x6, x7, x8, x9, x10, x11]) ∧ Aside0 (IsI wz (w.heap.size + 1) b2 [z0, z1, z2, z3, z4, z5, z6, z7, z8, z9, z10, z11]) ∧ Aside0 (IsI wz (w.heap.size + 1 + 1) false (List.replicate 12 0)) ∧ Aside0 (Below w.heap.size w wz) ∧ Aside0 (w.heap.size + 4 ≤ wz.heap.size)) (fun _ v9 _ => 12 - (intOf v9).toNat)
        case atStart => exact ⟨0, 0, [], xl, [], [y0, y1, y2, y3, y4, y5, y6, y7, y8, y9, y10, y11], by omega, rfl, rfl, rfl, rfl, rfl, HX, ⟨Or.inl rfl⟩, ⟨rfl⟩, L5, KY, L1, L2, L3, L4, L6⟩
        case round =>
          clear L1 L2 L3 L4 L5 L6 KY
          obtain ⟨j, cc, a, r, p, q, hj, ha, hp, rfl, rfl, hyq, HNa, HCc, HAd, M5, MY, M1, M2, M3, M4, M6⟩ := hrel
          by_cases hjt : j < 12
          · have hlen := HNa.out.len
            have hlen2 : ([y0, y1, y2, y3, y4, y5, y6, y7, y8, y9, y10, y11] : List Int).length = 12 := rfl
            rw [List.length_append] at hlen
            rw [hyq, List.length_append] at hlen2
            obtain ⟨x, r, rfl⟩ : ∃ x r', r = x :: r' := by
              cases r with
              | nil => simp at hlen; omega
              | cons x r' => exact ⟨x, r', rfl⟩
            obtain ⟨y, q, rfl⟩ : ∃ y q', q = y :: q' := by
              cases q with
              | nil => simp at hlen2; omega
              | cons x r' => exact ⟨x, r', rfl⟩
            have d1 : decide ((j : Int) < 12) = true := decide_eq_true (by omega)
            have d2 : (j : Int) < 12 := by omega
            have kc := M5.out.at_ (i := j) (by rw [HNa.out.len]; exact hjt)
            rw [← ha, getD_mid, ha] at kc
            have kd := MY.out.at_ (i := j) (by show j < 12; exact hjt)
            rw [hyq, ← hp, getD_mid, hp] at kd
            have kf := M5.out.fr (1 + j)
            have hy : 0 ≤ y ∧ y < 4294967296 := by
              have h0 := HY.out.words
              have hYE := HYE.out
              unfold shiftL at hYE
              rw [hYE, hyq] at h0
              exact h0 y (by simp)
            have HYW := Aside0.mk hy
            have HYQ := Aside0.mk hyq
            clear hlen hlen2 hyq hy
            go_wp2
            repeat (go_quiet (fail); try go_wp2)
            have hx := HNa.out.words x (by simp)
            have hy := HYW.out
            have hc := HCc.out
            have e1 : IntKind.u64.wrap (cc + x) = cc + x := u64_id (by omega) (by omega)
            have e2 : IntKind.u64.wrap (cc + x + y) = cc + x + y := u64_id (by omega) (by omega)
            rw [e1, e2, Int.tdiv_eq_ediv_of_nonneg (by omega), Int.tmod_eq_emod_of_nonneg (by omega), u64_id (z := (cc + x + y) / 4294967296) (by omega) (by omega)]
            clear e1 e2
            refine ⟨⟨j + 1, (cc + x + y) / 4294967296, a ++ [(cc + x + y) % 4294967296], r, p ++ [y], q, by omega, by simp [ha], by simp [hp], rfl, rfl, by rw [HYQ.out, List.append_assoc]; rfl, ⟨?_⟩, ⟨by omega⟩, ⟨?_⟩, ⟨?_⟩, ⟨(MY.out.drewN nq).far (by omega) _ _⟩, ⟨(M1.out.drewN nq).far (by omega) _ _⟩, ⟨(M2.out.drewN nq).far (by omega) _ _⟩, ⟨(M3.out.drewN nq).far (by omega) _ _⟩, ⟨?_⟩, ⟨?_⟩⟩, ?_⟩
            · rw [List.append_assoc]; exact num_mid HNa.out (by omega)
            · rw [HAd.out, addL, List.append_assoc]; rfl
            · have h1 := (M5.out.drewN nq).set j ((cc + x + y) % 4294967296)
              rw [← ha, set_mid] at h1
              rw [← ha, List.append_assoc]
              exact h1
            · exact Below.setCell (p := ⟨w.heap.size + 1 + 1 + 1, 1 + j, none⟩) (pw_below_drewN M4.out nq) (by show w.heap.size ≤ w.heap.size + 1 + 1 + 1; omega) _
            · have := M6.out; simpa [World.setCell] using this
            · simp [intOf]; omega
          · obtain ⟨rfl, hla⟩ := num_end HNa.out (by omega)
            have d1 : decide ((j : Int) < 12) = false := decide_eq_false (by omega)
            have hfin : addL 0 xl [y0, y1, y2, y3, y4, y5, y6, y7, y8, y9, y10, y11] = a := by rw [HAd.out, addL, List.append_nil] <;> simp
            have hstep : mulStep [x0, x1, x2, x3, x4, x5, x6, x7, x8, x9, x10, x11] [z0, z1, z2, z3, z4, z5, z6, z7, z8, z9, z10, z11] xl k = a := by
              unfold mulStep
              rw [HZ.out, HYE.out]
              exact hfin
            have HS := Aside0.mk hstep
            have HNA := Aside0.mk (show Num a by have := HNa.out; rwa [List.append_nil] at this)
            have N5 := Aside0.mk (show IsI wr (w.heap.size + 1 + 1 + 1) false a by have := M5.out; rwa [List.append_nil] at this)
            clear hstep hfin hla HNa HAd M5
            go_wp2
            refine ⟨⟨k + 1, a, by omega, rfl, HNA, ⟨?_⟩, M1, M2, M3, N5, M4, M6⟩, by simp [intOf]; omega⟩
            have hE := HE.out
            rw [← HS.out]
            by_cases hk0 : k = 0
            · subst hk0
              rw [if_pos rfl] at hE
              rw [hE, if_neg (by decide), if_pos rfl]
            · have hk1 : k = 1 := by omega
              subst hk1
              rw [if_neg (by decide), if_pos rfl] at hE
              rw [hE, if_neg (by decide), if_neg (by decide)]
    · have hk2 : k = 2 := by omega
      subst hk2
      have c1 : decide (((2 : Nat) : Int) < 2) = false := by decide
      have hE : mulStep [x0, x1, x2, x3, x4, x5, x6, x7, x8, x9, x10, x11] [z0, z1, z2, z3, z4, z5, z6, z7, z8, z9, z10, z11] (mulStep [x0, x1, x2, x3, x4, x5, x6, x7, x8, x9, x10, x11] [z0, z1, z2, z3, z4, z5, z6, z7, z8, z9, z10, z11] (List.replicate 12 0) 0) 1 = xl := by
        have := HE.out
        rw [if_neg (by decide), if_neg (by decide)] at this
        exact this.symm
      have HF := Aside0.mk hE; clear hE HE
      obtain ⟨y0, y1, y2, y3, y4, y5, y6, y7, y8, y9, y10, y11, rfl⟩ := dozen HX.out.len
      obtain ⟨p0, p1, p2, p3, p4, p5, p6, p7, p8, p9, p10, p11, p12⟩ := K5.out.cells
      obtain ⟨q0, q1, q2, q3, q4, q5, q6, q7, q8, q9, q10, q11, q12⟩ := IsI.cells (x0 := 0) (x1 := 0) (x2 := 0) (x3 := 0) (x4 := 0) (x5 := 0) (x6 := 0) (x7 := 0) (x8 := 0) (x9 := 0) (x10 := 0) (x11 := 0) K3.out
      obtain ⟨f0, f1, f2, f3, f4, f5, f6, f7, f8, f9, f10, f11, f12⟩ := K3.out.frs
      have ka := (IsI.cells K1.out).1
      have kb := (IsI.cells K2.out).1
      have kx := K5.out.fr 0
      go_wp2
      obtain ⟨W', hW, e1, e2, e3⟩ := put13 (x0 := 0) (x1 := 0) (x2 := 0) (x3 := 0) (x4 := 0) (x5 := 0) (x6 := 0) (x7 := 0) (x8 := 0) (x9 := 0) (x10 := 0) (x11 := 0) (K3.out.far (g' := w.heap.size + 1 + 1 + 1) (by omega) 0 (.bool (!(b == b2)))) (!(b == b2)) y0 y1 y2 y3 y4 y5 y6 y7 y8 y9 y10 y11 (Below.setCell (p := ⟨w.heap.size + 1 + 1 + 1, 0, none⟩) K4.out (by show w.heap.size ≤ w.heap.size + 1 + 1 + 1; omega) (.bool (!(b == b2)))) (by omega)
      rw [← hW]
      exact end_num rfl rfl e1 rfl rfl ⟨by rw [HF.out]; rfl, e2⟩
end Go.Proofs.YtgodmbcebpbdiaaDoor.R2
