/- The Go functions of this part as Lean functions, each with a proof that a call of it comes to just what the Lean function does. Written by a program of the session's. Conditions: none but those in each theorem. -/
import Derived.Test.YtambnodgfhlpfaaDoorJQGx0
namespace Go.Proofs.YtambnodgfhlpfaaDoor.QG
open Go.Proofs.YtambnodgfhlpfaaDoor.G Go.Proofs.YtambnodgfhlpfaaDoor.QA
open Go.RowKit Go.Proofs.YtambnodgfhlpfaaDoorW.PrintWords Go.Proofs.YtambnodgfhlpfaaDoorW.PrintLast Go.Proofs.YtambnodgfhlpfaaDoorW.PrintMore
attribute [local go_sem] max2_int min2_int max_two min_two max_three min_three max_four min_four   -- for this text's walks alone
set_option linter.unusedVariables false
set_option linter.unusedSimpArgs false

/-- A state of type 67 at block g of W; what its slices lead to came in by w0. -/
def IsS67 (w0 W : World) (g : Nat) (f0 : ByteArray) (f1 : Int) (f2 : Int) (f3 : List (S39)) (f4 : Int) (f5 : Int) : Prop := ∃ A3 c3, W.heap[g]? = some (.cells #[.string f0, .int .i64 f1, .int .i64 f2, .slice A3 f3.length c3, .int .i64 f4, .int .i64 f5] 67 (0, 0)) ∧ w0.heap.size ≤ g ∧ Kd.C k39 w0 A3 f3.length f3
theorem IsS67.grown {w0 W : World} {g : Nat} {f0 : ByteArray} {f1 : Int} {f2 : Int} {f3 : List (S39)} {f4 : Int} {f5 : Int} {W1 : World} {row : Option Nat} (h : IsS67 w0 W g f0 f1 f2 f3 f4 f5) (hw : W.grownBy W1 row) (hne : some g ≠ row) : IsS67 w0 W1 g f0 f1 f2 f3 f4 f5 := by
  obtain ⟨A3, c3, hb, hg, hr3⟩ := h
  exact ⟨A3, c3, blk_grown hb hw hne, hg, hr3⟩
theorem IsS67.kept {w0 W : World} {g : Nat} {f0 : ByteArray} {f1 : Int} {f2 : Int} {f3 : List (S39)} {f4 : Int} {f5 : Int} {W1 : World} {S : Nat → Prop} (h : IsS67 w0 W g f0 f1 f2 f3 f4 f5) (hk : Kept W W1 S) (hne : ¬ S g) : IsS67 w0 W1 g f0 f1 f2 f3 f4 f5 := by
  obtain ⟨A3, c3, hb, hg, hr3⟩ := h
  exact ⟨A3, c3, blk_kept hb hk hne, hg, hr3⟩
theorem IsS67.below {w0 W : World} {g : Nat} {f0 : ByteArray} {f1 : Int} {f2 : Int} {f3 : List (S39)} {f4 : Int} {f5 : Int} {W1 : World} (h : IsS67 w0 W g f0 f1 f2 f3 f4 f5) (hw : Below W.heap.size W W1) : IsS67 w0 W1 g f0 f1 f2 f3 f4 f5 := h.grown (grown_of_below hw none) (by simp)
theorem IsS67.alloc {w0 W : World} {g : Nat} {f0 : ByteArray} {f1 : Int} {f2 : Int} {f3 : List (S39)} {f4 : Int} {f5 : Int} (h : IsS67 w0 W g f0 f1 f2 f3 f4 f5) (o : Obj) : IsS67 w0 (W.alloc o) g f0 f1 f2 f3 f4 f5 := h.below (below_alloc (Below.refl _ _) o)
theorem IsS67.drewN {w0 W : World} {g : Nat} {f0 : ByteArray} {f1 : Int} {f2 : Int} {f3 : List (S39)} {f4 : Int} {f5 : Int} (h : IsS67 w0 W g f0 f1 f2 f3 f4 f5) (m : Nat) : IsS67 w0 (W.drewN m) g f0 f1 f2 f3 f4 f5 := h
theorem IsS67.drew {w0 W : World} {g : Nat} {f0 : ByteArray} {f1 : Int} {f2 : Int} {f3 : List (S39)} {f4 : Int} {f5 : Int} (h : IsS67 w0 W g f0 f1 f2 f3 f4 f5) : IsS67 w0 W.drew g f0 f1 f2 f3 f4 f5 := h
theorem IsS67.at_ {w0 W : World} {g : Nat} {f0 : ByteArray} {f1 : Int} {f2 : Int} {f3 : List (S39)} {f4 : Int} {f5 : Int} {w' : World} {m : Nat} (hq : W.drewN m = w') (h : IsS67 w0 W g f0 f1 f2 f3 f4 f5) : IsS67 w0 w' g f0 f1 f2 f3 f4 f5 := by subst hq; exact IsS67.drewN h m
theorem IsS67.own_ne {w0 W : World} {g : Nat} {f0 : ByteArray} {f1 : Int} {f2 : Int} {f3 : List (S39)} {f4 : Int} {f5 : Int} {α : Type} {d : Kd α} {e : Nat} {base : Nat} {ok : Nat → Prop} {v : Value} {xs : List α} (h : IsS67 w0 W g f0 f1 f2 f3 f4 f5) (ho : d.R e W base ok v xs) (ht : e ≠ 67) : some g ≠ v.ownBlock := by
  obtain ⟨A3, c3, hb, hg, hr3⟩ := h
  exact Kd.R_ne ho hb ht
theorem IsS67.lt {w0 W : World} {g : Nat} {f0 : ByteArray} {f1 : Int} {f2 : Int} {f3 : List (S39)} {f4 : Int} {f5 : Int} (h : IsS67 w0 W g f0 f1 f2 f3 f4 f5) : g < W.heap.size := by
  obtain ⟨A3, c3, hb, hg, hr3⟩ := h
  exact blk_lt hb
theorem IsS67.ge {w0 W : World} {g : Nat} {f0 : ByteArray} {f1 : Int} {f2 : Int} {f3 : List (S39)} {f4 : Int} {f5 : Int} (h : IsS67 w0 W g f0 f1 f2 f3 f4 f5) : w0.heap.size ≤ g := by
  obtain ⟨A3, c3, hb, hg, hr3⟩ := h
  exact hg
theorem cellS67_0 {W : World} {g : Nat} {A3 : Option Addr} {c3 : Nat} {f0 : ByteArray} {f1 : Int} {f2 : Int} {f3 : List (S39)} {f4 : Int} {f5 : Int} (h : W.heap[g]? = some (.cells #[.string f0, .int .i64 f1, .int .i64 f2, .slice A3 f3.length c3, .int .i64 f4, .int .i64 f5] 67 (0, 0))) : W.cell? ⟨g, 0, none⟩ = some (.string f0) := (blk_cell h 0).trans rfl
theorem IsS67.set_0 {w0 W : World} {g : Nat} {f0 : ByteArray} {f1 : Int} {f2 : Int} {f3 : List (S39)} {f4 : Int} {f5 : Int} (h : IsS67 w0 W g f0 f1 f2 f3 f4 f5) (x : ByteArray) : IsS67 w0 (W.setCell ⟨g, 0, none⟩ (.string x)) g x f1 f2 f3 f4 f5 := by
  obtain ⟨A3, c3, hb, hg, hr3⟩ := h
  exact ⟨A3, c3, by simpa using blk_set hb 0 (.string x), hg, hr3⟩
theorem cellS67_1 {W : World} {g : Nat} {A3 : Option Addr} {c3 : Nat} {f0 : ByteArray} {f1 : Int} {f2 : Int} {f3 : List (S39)} {f4 : Int} {f5 : Int} (h : W.heap[g]? = some (.cells #[.string f0, .int .i64 f1, .int .i64 f2, .slice A3 f3.length c3, .int .i64 f4, .int .i64 f5] 67 (0, 0))) : W.cell? ⟨g, 1, none⟩ = some (.int .i64 f1) := (blk_cell h 1).trans rfl
theorem IsS67.set_1 {w0 W : World} {g : Nat} {f0 : ByteArray} {f1 : Int} {f2 : Int} {f3 : List (S39)} {f4 : Int} {f5 : Int} (h : IsS67 w0 W g f0 f1 f2 f3 f4 f5) (x : Int) : IsS67 w0 (W.setCell ⟨g, 1, none⟩ (.int .i64 x)) g f0 x f2 f3 f4 f5 := by
  obtain ⟨A3, c3, hb, hg, hr3⟩ := h
  exact ⟨A3, c3, by simpa using blk_set hb 1 (.int .i64 x), hg, hr3⟩
theorem cellS67_2 {W : World} {g : Nat} {A3 : Option Addr} {c3 : Nat} {f0 : ByteArray} {f1 : Int} {f2 : Int} {f3 : List (S39)} {f4 : Int} {f5 : Int} (h : W.heap[g]? = some (.cells #[.string f0, .int .i64 f1, .int .i64 f2, .slice A3 f3.length c3, .int .i64 f4, .int .i64 f5] 67 (0, 0))) : W.cell? ⟨g, 2, none⟩ = some (.int .i64 f2) := (blk_cell h 2).trans rfl
theorem IsS67.set_2 {w0 W : World} {g : Nat} {f0 : ByteArray} {f1 : Int} {f2 : Int} {f3 : List (S39)} {f4 : Int} {f5 : Int} (h : IsS67 w0 W g f0 f1 f2 f3 f4 f5) (x : Int) : IsS67 w0 (W.setCell ⟨g, 2, none⟩ (.int .i64 x)) g f0 f1 x f3 f4 f5 := by
  obtain ⟨A3, c3, hb, hg, hr3⟩ := h
  exact ⟨A3, c3, by simpa using blk_set hb 2 (.int .i64 x), hg, hr3⟩
theorem cellS67_3 {W : World} {g : Nat} {A3 : Option Addr} {c3 : Nat} {f0 : ByteArray} {f1 : Int} {f2 : Int} {f3 : List (S39)} {f4 : Int} {f5 : Int} (h : W.heap[g]? = some (.cells #[.string f0, .int .i64 f1, .int .i64 f2, .slice A3 f3.length c3, .int .i64 f4, .int .i64 f5] 67 (0, 0))) : W.cell? ⟨g, 3, none⟩ = some (.slice A3 f3.length c3) := (blk_cell h 3).trans rfl
theorem cellS67_4 {W : World} {g : Nat} {A3 : Option Addr} {c3 : Nat} {f0 : ByteArray} {f1 : Int} {f2 : Int} {f3 : List (S39)} {f4 : Int} {f5 : Int} (h : W.heap[g]? = some (.cells #[.string f0, .int .i64 f1, .int .i64 f2, .slice A3 f3.length c3, .int .i64 f4, .int .i64 f5] 67 (0, 0))) : W.cell? ⟨g, 4, none⟩ = some (.int .i64 f4) := (blk_cell h 4).trans rfl
theorem IsS67.set_4 {w0 W : World} {g : Nat} {f0 : ByteArray} {f1 : Int} {f2 : Int} {f3 : List (S39)} {f4 : Int} {f5 : Int} (h : IsS67 w0 W g f0 f1 f2 f3 f4 f5) (x : Int) : IsS67 w0 (W.setCell ⟨g, 4, none⟩ (.int .i64 x)) g f0 f1 f2 f3 x f5 := by
  obtain ⟨A3, c3, hb, hg, hr3⟩ := h
  exact ⟨A3, c3, by simpa using blk_set hb 4 (.int .i64 x), hg, hr3⟩
theorem cellS67_5 {W : World} {g : Nat} {A3 : Option Addr} {c3 : Nat} {f0 : ByteArray} {f1 : Int} {f2 : Int} {f3 : List (S39)} {f4 : Int} {f5 : Int} (h : W.heap[g]? = some (.cells #[.string f0, .int .i64 f1, .int .i64 f2, .slice A3 f3.length c3, .int .i64 f4, .int .i64 f5] 67 (0, 0))) : W.cell? ⟨g, 5, none⟩ = some (.int .i64 f5) := (blk_cell h 5).trans rfl
theorem IsS67.set_5 {w0 W : World} {g : Nat} {f0 : ByteArray} {f1 : Int} {f2 : Int} {f3 : List (S39)} {f4 : Int} {f5 : Int} (h : IsS67 w0 W g f0 f1 f2 f3 f4 f5) (x : Int) : IsS67 w0 (W.setCell ⟨g, 5, none⟩ (.int .i64 x)) g f0 f1 f2 f3 f4 x := by
  obtain ⟨A3, c3, hb, hg, hr3⟩ := h
  exact ⟨A3, c3, by simpa using blk_set hb 5 (.int .i64 x), hg, hr3⟩
theorem IsS67.new (w0 W : World) (A3 : Option Addr) (c3 : Nat) (f0 : ByteArray) (f1 : Int) (f2 : Int) (f3 : List (S39)) (f4 : Int) (f5 : Int) (hB : Below w0.heap.size w0 W) (hr3 : Kd.C k39 w0 A3 f3.length f3) : IsS67 w0 (W.alloc (.cells #[.string f0, .int .i64 f1, .int .i64 f2, .slice A3 f3.length c3, .int .i64 f4, .int .i64 f5] 67)) W.heap.size f0 f1 f2 f3 f4 f5 := ⟨A3, c3, by simpa using heap_alloc_new W _, hB.size, hr3⟩

/-! ### dragomanref10_eval_fails: function 34 -/
def dragomanref10_eval_fails.f (s0_0 : ByteArray) (s0_1 : Int) (s0_2 : Int) (s0_3 : List (S39)) (s0_4 : Int) (s0_5 : Int) (a1 : Int) : Option (ByteArray × Int × Int × Int × Int) := if s0_4 = 0 then (some (s0_0, s0_1, s0_2, a1, s0_5)) else (some (s0_0, s0_1, s0_2, s0_4, s0_5))
set_option maxHeartbeats 8000000 in
set_option maxRecDepth 100000 in
theorem dragomanref10_eval_fails.calls (g : Nat) (s0_0 : ByteArray) (s0_1 : Int) (s0_2 : Int) (s0_3 : List (S39)) (s0_4 : Int) (s0_5 : Int) (a1 : Int) (r1 : ByteArray) (r2 : Int) (r3 : Int) (r4 : Int) (r5 : Int) (w0 w : World) (hI : IsS67 w0 w g s0_0 s0_1 s0_2 s0_3 s0_4 s0_5) (hB : Below w0.heap.size w0 w) (h : dragomanref10_eval_fails.f s0_0 s0_1 s0_2 s0_3 s0_4 s0_5 a1 = some (r1, r2, r3, r4, r5)) :
    Calls Tryd.prog 34 #[.pointer (some ⟨g, 0, none⟩), .int .i64 a1] w fun e w' => e = .returned (.tuple #[]) ∧ IsS67 w0 w' g r1 r2 r3 s0_3 r4 r5 ∧ Below w0.heap.size w0 w' ∧ KeepBut w w' g none := by
  have HI0 := Aside0.mk hI
  have HK := Aside0.mk (KeepBut.refl w g none)
  have HL := Aside0.mk hB.size
  clear hI
  have HW0 := Aside0.mk hB.size
  have HB := Aside0.mk hB
  clear hB
  have H : (if s0_4 = 0 then (some (s0_0, s0_1, s0_2, a1, s0_5)) else (some (s0_0, s0_1, s0_2, s0_4, s0_5))) = some (r1, r2, r3, r4, r5) := h
  clear h
  by_cases c3 : s0_4 = 0
  · rw [if_pos c3] at H
    have c3b0 : (s0_4 == 0) = true := beq_iff_eq.mpr c3
    have c3b1 : (s0_4 != 0) = false := bne_eq_false_iff_eq.mpr c3
    clear c3
    simp only [Option.some.injEq, Prod.mk.injEq] at H
    obtain ⟨rfl, rfl, rfl, rfl, rfl⟩ := H
    obtain ⟨ASz4_3, cSz4_3, HGz4, hgz4, HSz4_3⟩ := HI0.out
    have hcz4_0 := cellS67_0 HGz4
    have hcz4_1 := cellS67_1 HGz4
    have hcz4_2 := cellS67_2 HGz4
    have hcz4_3 := cellS67_3 HGz4
    have hcz4_4 := cellS67_4 HGz4
    have hcz4_5 := cellS67_5 HGz4
    have hfz4_0 := blk_frozen HGz4 0
    have hfz4_1 := blk_frozen HGz4 1
    have hfz4_2 := blk_frozen HGz4 2
    have hfz4_4 := blk_frozen HGz4 4
    have hfz4_5 := blk_frozen HGz4 5
    clear HGz4 hgz4
    go_enter Tryd.func34, Tryd.ntmps34
    go_wp2
    first | go_end0 | ((try simp only [Exit.inBlock, Exit.then]); refine bodyPost_ret (results_none rfl _ _ _) rfl ?_)
    exact ⟨by first | rfl | (simp [errW_none, errW_some] <;> rfl) | (simp [*, errW_none, errW_some] <;> rfl), by repeat (first | (with_reducible first | exact HI0.out | apply IsS67.alloc | apply IsS67.drewN | apply IsS67.drew | apply IsS67.set_0 | apply IsS67.set_1 | apply IsS67.set_2 | apply IsS67.set_4 | apply IsS67.set_5) | exact HI0.out), by repeat (first | (with_reducible first | exact HB.out | apply below_alloc | apply pw_below_drewN | apply below_drew1 | refine below_set ?_ (IsS67.ge HI0.out)) | exact HB.out), by repeat (first | (with_reducible first | exact HK.out | apply KeepBut.set_ | apply keep_drewN | apply keep_drew | apply keep_alloc) | exact HK.out)⟩
  · rw [if_neg c3] at H
    have c3b0 : (s0_4 == 0) = false := beq_eq_false_iff_ne.mpr c3
    have c3b1 : (s0_4 != 0) = true := bne_iff_ne.mpr c3
    simp only [Option.some.injEq, Prod.mk.injEq] at H
    obtain ⟨rfl, rfl, rfl, rfl, rfl⟩ := H
    obtain ⟨ASz5_3, cSz5_3, HGz5, hgz5, HSz5_3⟩ := HI0.out
    have hcz5_0 := cellS67_0 HGz5
    have hcz5_1 := cellS67_1 HGz5
    have hcz5_2 := cellS67_2 HGz5
    have hcz5_3 := cellS67_3 HGz5
    have hcz5_4 := cellS67_4 HGz5
    have hcz5_5 := cellS67_5 HGz5
    have hfz5_0 := blk_frozen HGz5 0
    have hfz5_1 := blk_frozen HGz5 1
    have hfz5_2 := blk_frozen HGz5 2
    have hfz5_4 := blk_frozen HGz5 4
    have hfz5_5 := blk_frozen HGz5 5
    clear HGz5 hgz5
    go_enter Tryd.func34, Tryd.ntmps34
    go_wp2
    first | go_end0 | ((try simp only [Exit.inBlock, Exit.then]); refine bodyPost_ret (results_none rfl _ _ _) rfl ?_)
    exact ⟨by first | rfl | (simp [errW_none, errW_some] <;> rfl) | (simp [*, errW_none, errW_some] <;> rfl), by repeat (first | (with_reducible first | exact HI0.out | apply IsS67.alloc | apply IsS67.drewN | apply IsS67.drew | apply IsS67.set_0 | apply IsS67.set_1 | apply IsS67.set_2 | apply IsS67.set_4 | apply IsS67.set_5) | exact HI0.out), by repeat (first | (with_reducible first | exact HB.out | apply below_alloc | apply pw_below_drewN | apply below_drew1 | refine below_set ?_ (IsS67.ge HI0.out)) | exact HB.out), by repeat (first | (with_reducible first | exact HK.out | apply KeepBut.set_ | apply keep_drewN | apply keep_drew | apply keep_alloc) | exact HK.out)⟩

/-! ### dragomanref10_eval_deeper: function 101 -/
def dragomanref10_eval_deeper.f (s0_0 : ByteArray) (s0_1 : Int) (s0_2 : Int) (s0_3 : List (S39)) (s0_4 : Int) (s0_5 : Int) : Option (Bool × ByteArray × Int × Int × Int × Int) := if s0_2 = 30 then ((dragomanref10_eval_fails.f s0_0 s0_1 s0_2 s0_3 s0_4 s0_5 7).bind fun bt101 => (some (false, bt101.1, bt101.2.1, bt101.2.2.1, bt101.2.2.2.1, bt101.2.2.2.2))) else (some (true, s0_0, s0_1, wrap64 (s0_2 + 1), s0_4, s0_5))
set_option maxHeartbeats 8000000 in
set_option maxRecDepth 100000 in
theorem dragomanref10_eval_deeper.calls (g : Nat) (s0_0 : ByteArray) (s0_1 : Int) (s0_2 : Int) (s0_3 : List (S39)) (s0_4 : Int) (s0_5 : Int) (r1 : Bool) (r2 : ByteArray) (r3 : Int) (r4 : Int) (r5 : Int) (r6 : Int) (w0 w : World) (hI : IsS67 w0 w g s0_0 s0_1 s0_2 s0_3 s0_4 s0_5) (hB : Below w0.heap.size w0 w) (h : dragomanref10_eval_deeper.f s0_0 s0_1 s0_2 s0_3 s0_4 s0_5 = some (r1, r2, r3, r4, r5, r6)) :
    Calls Tryd.prog 101 #[.pointer (some ⟨g, 0, none⟩)] w fun e w' => e = .returned (.bool r1) ∧ IsS67 w0 w' g r2 r3 r4 s0_3 r5 r6 ∧ Below w0.heap.size w0 w' ∧ KeepBut w w' g none := by
  have HI0 := Aside0.mk hI
  have HK := Aside0.mk (KeepBut.refl w g none)
  have HL := Aside0.mk hB.size
  clear hI
  have HW0 := Aside0.mk hB.size
  have HB := Aside0.mk hB
  clear hB
  have H : (if s0_2 = 30 then ((dragomanref10_eval_fails.f s0_0 s0_1 s0_2 s0_3 s0_4 s0_5 7).bind fun bt101 => (some (false, bt101.1, bt101.2.1, bt101.2.2.1, bt101.2.2.2.1, bt101.2.2.2.2))) else (some (true, s0_0, s0_1, wrap64 (s0_2 + 1), s0_4, s0_5))) = some (r1, r2, r3, r4, r5, r6) := h
  clear h
  by_cases c2 : s0_2 = 30
  · rw [if_pos c2] at H
    have c2b0 : (s0_2 == 30) = true := beq_iff_eq.mpr c2
    have c2b1 : (s0_2 != 30) = false := bne_eq_false_iff_eq.mpr c2
    clear c2
    replace H := Option.bind_eq_some_iff.mp H
    obtain ⟨⟨t101, t102, t103, t104, t105⟩, A30, H⟩ := H
    replace H : (some (false, t101, t102, t103, t104, t105)) = some (r1, r2, r3, r4, r5, r6) := H
    have A3 := Aside0.mk A30
    clear A30
    simp only [Option.some.injEq, Prod.mk.injEq] at H
    obtain ⟨rfl, rfl, rfl, rfl, rfl, rfl⟩ := H
    obtain ⟨ASz4_3, cSz4_3, HGz4, hgz4, HSz4_3⟩ := HI0.out
    have hcz4_0 := cellS67_0 HGz4
    have hcz4_1 := cellS67_1 HGz4
    have hcz4_2 := cellS67_2 HGz4
    have hcz4_3 := cellS67_3 HGz4
    have hcz4_4 := cellS67_4 HGz4
    have hcz4_5 := cellS67_5 HGz4
    have hfz4_0 := blk_frozen HGz4 0
    have hfz4_1 := blk_frozen HGz4 1
    have hfz4_2 := blk_frozen HGz4 2
    have hfz4_4 := blk_frozen HGz4 4
    have hfz4_5 := blk_frozen HGz4 5
    clear HGz4 hgz4
    go_enter Tryd.func101, Tryd.ntmps101
    go_wp2_with (first | ((with_reducible refine gate_callee (f := 34) rfl ?_); refine goesL_ (some 9) rfl rfl Tryd.func34 (by kernel_rfl) rfl #[.pointer (some ⟨g, 0, none⟩), .int .i64 7] rfl (by (try simp only [List.map_toArray, List.map_cons, List.map_nil]); first | done | rfl | (simp only [List.length_drop, List.length_take]; rfl)) ?_; (with_reducible refine (dragomanref10_eval_fails.calls g s0_0 s0_1 s0_2 s0_3 s0_4 s0_5 7 t101 t102 t103 t104 t105 w0 _ ?side1 ?side2 A3.out).mono ?_); (case side1 => repeat (first | (with_reducible first | exact HI0.out | apply IsS67.alloc | apply IsS67.drewN | apply IsS67.drew | apply IsS67.set_0 | apply IsS67.set_1 | apply IsS67.set_2 | apply IsS67.set_4 | apply IsS67.set_5) | exact HI0.out)); (case side2 => repeat (first | (with_reducible first | exact HB.out | apply below_alloc | apply pw_below_drewN | apply below_drew1 | refine below_set ?_ (IsS67.ge HI0.out)) | exact HB.out)); rintro e w5 ⟨rfl, hi, hb, hk⟩; refine ⟨_, rfl, ?_⟩; have n0_ := Aside0.mk (KeepBut.trans (by repeat (first | (with_reducible first | exact HK.out | apply KeepBut.set_ | apply keep_drewN | apply keep_drew | apply keep_alloc) | exact HK.out)) hk (.inl rfl)); have n1_ := Aside0.mk (hb); have n2_ := Aside0.mk (hi); clear HK; clear HB; clear HI0; have HK := n0_; have HB := n1_; have HI0 := n2_; clear n0_ n1_ n2_; (try clear hb); (try clear hb2); (try clear hk); (try clear hi)))
    go_ret
    exact ⟨by first | rfl | (simp [errW_none, errW_some] <;> rfl) | (simp [*, errW_none, errW_some] <;> rfl), by repeat (first | (with_reducible first | exact HI0.out | apply IsS67.alloc | apply IsS67.drewN | apply IsS67.drew | apply IsS67.set_0 | apply IsS67.set_1 | apply IsS67.set_2 | apply IsS67.set_4 | apply IsS67.set_5) | exact HI0.out), by repeat (first | (with_reducible first | exact HB.out | apply below_alloc | apply pw_below_drewN | apply below_drew1 | refine below_set ?_ (IsS67.ge HI0.out)) | exact HB.out), by repeat (first | (with_reducible first | exact HK.out | apply KeepBut.set_ | apply keep_drewN | apply keep_drew | apply keep_alloc) | exact HK.out)⟩
  · rw [if_neg c2] at H
    have c2b0 : (s0_2 == 30) = false := beq_eq_false_iff_ne.mpr c2
    have c2b1 : (s0_2 != 30) = true := bne_iff_ne.mpr c2
    simp only [Option.some.injEq, Prod.mk.injEq] at H
    obtain ⟨rfl, rfl, rfl, rfl, rfl, rfl⟩ := H
    obtain ⟨ASz6_3, cSz6_3, HGz6, hgz6, HSz6_3⟩ := HI0.out
    have hcz6_0 := cellS67_0 HGz6
    have hcz6_1 := cellS67_1 HGz6
    have hcz6_2 := cellS67_2 HGz6
    have hcz6_3 := cellS67_3 HGz6
    have hcz6_4 := cellS67_4 HGz6
    have hcz6_5 := cellS67_5 HGz6
    have hfz6_0 := blk_frozen HGz6 0
    have hfz6_1 := blk_frozen HGz6 1
    have hfz6_2 := blk_frozen HGz6 2
    have hfz6_4 := blk_frozen HGz6 4
    have hfz6_5 := blk_frozen HGz6 5
    clear HGz6 hgz6
    go_enter Tryd.func101, Tryd.ntmps101
    go_wp2
    go_ret
    exact ⟨by first | rfl | (simp [errW_none, errW_some] <;> rfl) | (simp [*, errW_none, errW_some] <;> rfl), by repeat (first | (with_reducible first | exact HI0.out | apply IsS67.alloc | apply IsS67.drewN | apply IsS67.drew | apply IsS67.set_0 | apply IsS67.set_1 | apply IsS67.set_2 | apply IsS67.set_4 | apply IsS67.set_5) | exact HI0.out), by repeat (first | (with_reducible first | exact HB.out | apply below_alloc | apply pw_below_drewN | apply below_drew1 | refine below_set ?_ (IsS67.ge HI0.out)) | exact HB.out), by repeat (first | (with_reducible first | exact HK.out | apply KeepBut.set_ | apply keep_drewN | apply keep_drew | apply keep_alloc) | exact HK.out)⟩

/-! ### dragomanref10_eval_comes: function 99 -/
def dragomanref10_eval_comes.f (s0_0 : ByteArray) (s0_1 : Int) (s0_2 : Int) (s0_3 : List (S39)) (s0_4 : Int) (s0_5 : Int) (a1 : Int) (a2 : Bool) : Option (ByteArray × Int × Int × Int × Int) := if a2 = true then (if s0_5 = 0 then (some (s0_0, s0_1, s0_2, s0_4, a1)) else (some (s0_0, s0_1, s0_2, s0_4, s0_5))) else (some (s0_0, s0_1, s0_2, s0_4, s0_5))
set_option maxHeartbeats 8000000 in
set_option maxRecDepth 100000 in
theorem dragomanref10_eval_comes.calls (g : Nat) (s0_0 : ByteArray) (s0_1 : Int) (s0_2 : Int) (s0_3 : List (S39)) (s0_4 : Int) (s0_5 : Int) (a1 : Int) (a2 : Bool) (r1 : ByteArray) (r2 : Int) (r3 : Int) (r4 : Int) (r5 : Int) (w0 w : World) (hI : IsS67 w0 w g s0_0 s0_1 s0_2 s0_3 s0_4 s0_5) (hB : Below w0.heap.size w0 w) (h : dragomanref10_eval_comes.f s0_0 s0_1 s0_2 s0_3 s0_4 s0_5 a1 a2 = some (r1, r2, r3, r4, r5)) :
    Calls Tryd.prog 99 #[.pointer (some ⟨g, 0, none⟩), .int .i64 a1, .bool a2] w fun e w' => e = .returned (.tuple #[]) ∧ IsS67 w0 w' g r1 r2 r3 s0_3 r4 r5 ∧ Below w0.heap.size w0 w' ∧ KeepBut w w' g none := by
  have HI0 := Aside0.mk hI
  have HK := Aside0.mk (KeepBut.refl w g none)
  have HL := Aside0.mk hB.size
  clear hI
  have HW0 := Aside0.mk hB.size
  have HB := Aside0.mk hB
  clear hB
  have H : (if a2 = true then (if s0_5 = 0 then (some (s0_0, s0_1, s0_2, s0_4, a1)) else (some (s0_0, s0_1, s0_2, s0_4, s0_5))) else (some (s0_0, s0_1, s0_2, s0_4, s0_5))) = some (r1, r2, r3, r4, r5) := h
  clear h
  by_cases c4 : a2 = true
  · subst c4
    have H1 : (if s0_5 = 0 then (some (s0_0, s0_1, s0_2, s0_4, a1)) else (some (s0_0, s0_1, s0_2, s0_4, s0_5))) = some (r1, r2, r3, r4, r5) := by rw [if_pos rfl] at H; exact H
    clear H
    have H := H1
    clear H1
    by_cases c5 : s0_5 = 0
    · rw [if_pos c5] at H
      have c5b0 : (s0_5 == 0) = true := beq_iff_eq.mpr c5
      have c5b1 : (s0_5 != 0) = false := bne_eq_false_iff_eq.mpr c5
      clear c5
      simp only [Option.some.injEq, Prod.mk.injEq] at H
      obtain ⟨rfl, rfl, rfl, rfl, rfl⟩ := H
      obtain ⟨ASz6_3, cSz6_3, HGz6, hgz6, HSz6_3⟩ := HI0.out
      have hcz6_0 := cellS67_0 HGz6
      have hcz6_1 := cellS67_1 HGz6
      have hcz6_2 := cellS67_2 HGz6
      have hcz6_3 := cellS67_3 HGz6
      have hcz6_4 := cellS67_4 HGz6
      have hcz6_5 := cellS67_5 HGz6
      have hfz6_0 := blk_frozen HGz6 0
      have hfz6_1 := blk_frozen HGz6 1
      have hfz6_2 := blk_frozen HGz6 2
      have hfz6_4 := blk_frozen HGz6 4
      have hfz6_5 := blk_frozen HGz6 5
      clear HGz6 hgz6
      go_enter Tryd.func99, Tryd.ntmps99
      go_wp2
      first | go_end0 | ((try simp only [Exit.inBlock, Exit.then]); refine bodyPost_ret (results_none rfl _ _ _) rfl ?_)
      exact ⟨by first | rfl | (simp [errW_none, errW_some] <;> rfl) | (simp [*, errW_none, errW_some] <;> rfl), by repeat (first | (with_reducible first | exact HI0.out | apply IsS67.alloc | apply IsS67.drewN | apply IsS67.drew | apply IsS67.set_0 | apply IsS67.set_1 | apply IsS67.set_2 | apply IsS67.set_4 | apply IsS67.set_5) | exact HI0.out), by repeat (first | (with_reducible first | exact HB.out | apply below_alloc | apply pw_below_drewN | apply below_drew1 | refine below_set ?_ (IsS67.ge HI0.out)) | exact HB.out), by repeat (first | (with_reducible first | exact HK.out | apply KeepBut.set_ | apply keep_drewN | apply keep_drew | apply keep_alloc) | exact HK.out)⟩
    · rw [if_neg c5] at H
      have c5b0 : (s0_5 == 0) = false := beq_eq_false_iff_ne.mpr c5
      have c5b1 : (s0_5 != 0) = true := bne_iff_ne.mpr c5
      simp only [Option.some.injEq, Prod.mk.injEq] at H
      obtain ⟨rfl, rfl, rfl, rfl, rfl⟩ := H
      obtain ⟨ASz7_3, cSz7_3, HGz7, hgz7, HSz7_3⟩ := HI0.out
      have hcz7_0 := cellS67_0 HGz7
      have hcz7_1 := cellS67_1 HGz7
      have hcz7_2 := cellS67_2 HGz7
      have hcz7_3 := cellS67_3 HGz7
      have hcz7_4 := cellS67_4 HGz7
      have hcz7_5 := cellS67_5 HGz7
      have hfz7_0 := blk_frozen HGz7 0
      have hfz7_1 := blk_frozen HGz7 1
      have hfz7_2 := blk_frozen HGz7 2
      have hfz7_4 := blk_frozen HGz7 4
      have hfz7_5 := blk_frozen HGz7 5
      clear HGz7 hgz7
      go_enter Tryd.func99, Tryd.ntmps99
      go_wp2
      first | go_end0 | ((try simp only [Exit.inBlock, Exit.then]); refine bodyPost_ret (results_none rfl _ _ _) rfl ?_)
      exact ⟨by first | rfl | (simp [errW_none, errW_some] <;> rfl) | (simp [*, errW_none, errW_some] <;> rfl), by repeat (first | (with_reducible first | exact HI0.out | apply IsS67.alloc | apply IsS67.drewN | apply IsS67.drew | apply IsS67.set_0 | apply IsS67.set_1 | apply IsS67.set_2 | apply IsS67.set_4 | apply IsS67.set_5) | exact HI0.out), by repeat (first | (with_reducible first | exact HB.out | apply below_alloc | apply pw_below_drewN | apply below_drew1 | refine below_set ?_ (IsS67.ge HI0.out)) | exact HB.out), by repeat (first | (with_reducible first | exact HK.out | apply KeepBut.set_ | apply keep_drewN | apply keep_drew | apply keep_alloc) | exact HK.out)⟩
  · replace c4 := Bool.eq_false_iff.mpr c4
    subst c4
    have H1 : (some (s0_0, s0_1, s0_2, s0_4, s0_5)) = some (r1, r2, r3, r4, r5) := by rw [if_neg (show ¬ (false = true) by decide)] at H; exact H
    clear H
    have H := H1
    clear H1
    simp only [Option.some.injEq, Prod.mk.injEq] at H
    obtain ⟨rfl, rfl, rfl, rfl, rfl⟩ := H
    go_enter Tryd.func99, Tryd.ntmps99
    go_wp2
    first | go_end0 | ((try simp only [Exit.inBlock, Exit.then]); refine bodyPost_ret (results_none rfl _ _ _) rfl ?_)
    exact ⟨by first | rfl | (simp [errW_none, errW_some] <;> rfl) | (simp [*, errW_none, errW_some] <;> rfl), by repeat (first | (with_reducible first | exact HI0.out | apply IsS67.alloc | apply IsS67.drewN | apply IsS67.drew | apply IsS67.set_0 | apply IsS67.set_1 | apply IsS67.set_2 | apply IsS67.set_4 | apply IsS67.set_5) | exact HI0.out), by repeat (first | (with_reducible first | exact HB.out | apply below_alloc | apply pw_below_drewN | apply below_drew1 | refine below_set ?_ (IsS67.ge HI0.out)) | exact HB.out), by repeat (first | (with_reducible first | exact HK.out | apply KeepBut.set_ | apply keep_drewN | apply keep_drew | apply keep_alloc) | exact HK.out)⟩

end Go.Proofs.YtambnodgfhlpfaaDoor.QG
