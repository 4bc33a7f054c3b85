/- Package arith: the table of marks, walked; where a node lies in memory. -/
import Derived.Test.YtambnodgfhlpfaaDoorJRB
set_option linter.unusedVariables false
set_option linter.unusedSimpArgs false
namespace Go.Proofs.YtambnodgfhlpfaaDoor.A
open Go.RowKit Go.Proofs.YtambnodgfhlpfaaDoorW.PrintWords Go.Proofs.YtambnodgfhlpfaaDoorW.PrintLast Go.Proofs.YtambnodgfhlpfaaDoor.G

/-- The cells of a level's row of marks. -/
def rowOf (n : Nat) : Array Value := (((opsOf n).map Bop.str).map Value.string).toArray
/-- The rows of marks lie from block B on. -/
def LvAt (W : World) (B : Nat) : Prop := ∀ n, n < 6 → W.heap[B + n]? = some (.cells (rowOf n) 9 (0, 0))
def lvS (B n : Nat) : Value := .slice (some ⟨B + n, 0, none⟩) ((opsOf n).map Bop.str).length ((opsOf n).map Bop.str).length
theorem LvAt.keep {W W' : World} {B : Nat} (h : LvAt W B) (hk : ∀ k, B ≤ k → k < W.heap.size → W'.heap[k]? = W.heap[k]?) : LvAt W' B := fun n hn => (hk _ (by omega) (blk_lt (h n hn))).trans (h n hn)
theorem info70 : (Tryd.prog.info? 70).map (fun i => i.size) = some 6 := by kernel_rfl
theorem info55s : (Tryd.prog.info? 55).map (fun i => i.size) = some 4 := by kernel_rfl
theorem results35 : Tryd.f35.results = #[.cell 0 70] := by kernel_rfl
theorem levels_end (w : World) (C : Array Value) (o0 o1 o2 o3 o4 o5 : Array Value) (h0 : o0 = rowOf 0) (h1 : o1 = rowOf 1) (h2 : o2 = rowOf 2) (h3 : o3 = rowOf 3) (h4 : o4 = rowOf 4) (h5 : o5 = rowOf 5) (W : World)
    (hW : W = ((((((w.alloc (.cells C 70)).alloc (.cells o0 9)).alloc (.cells o1 9)).alloc (.cells o2 9)).alloc (.cells o3 9)).alloc (.cells o4 9)).alloc (.cells o5 9)) :
    W.heap[w.heap.size]? = some (.cells C 70 (0, 0)) ∧ LvAt W (w.heap.size + 1) ∧ Below w.heap.size w W := by
  subst hW h0 h1 h2 h3 h4 h5
  have k0 := blk_alloc (blk_alloc (blk_alloc (blk_alloc (blk_alloc (blk_new (w.alloc (.cells C 70)) (.cells (rowOf 0) 9)) (.cells (rowOf 1) 9)) (.cells (rowOf 2) 9)) (.cells (rowOf 3) 9)) (.cells (rowOf 4) 9)) (.cells (rowOf 5) 9)
  have k1 := blk_alloc (blk_alloc (blk_alloc (blk_alloc (blk_new ((w.alloc (.cells C 70)).alloc (.cells (rowOf 0) 9)) (.cells (rowOf 1) 9)) (.cells (rowOf 2) 9)) (.cells (rowOf 3) 9)) (.cells (rowOf 4) 9)) (.cells (rowOf 5) 9)
  have k2 := blk_alloc (blk_alloc (blk_alloc (blk_new (((w.alloc (.cells C 70)).alloc (.cells (rowOf 0) 9)).alloc (.cells (rowOf 1) 9)) (.cells (rowOf 2) 9)) (.cells (rowOf 3) 9)) (.cells (rowOf 4) 9)) (.cells (rowOf 5) 9)
  have k3 := blk_alloc (blk_alloc (blk_new ((((w.alloc (.cells C 70)).alloc (.cells (rowOf 0) 9)).alloc (.cells (rowOf 1) 9)).alloc (.cells (rowOf 2) 9)) (.cells (rowOf 3) 9)) (.cells (rowOf 4) 9)) (.cells (rowOf 5) 9)
  have k4 := blk_alloc (blk_new (((((w.alloc (.cells C 70)).alloc (.cells (rowOf 0) 9)).alloc (.cells (rowOf 1) 9)).alloc (.cells (rowOf 2) 9)).alloc (.cells (rowOf 3) 9)) (.cells (rowOf 4) 9)) (.cells (rowOf 5) 9)
  have k5 := blk_new ((((((w.alloc (.cells C 70)).alloc (.cells (rowOf 0) 9)).alloc (.cells (rowOf 1) 9)).alloc (.cells (rowOf 2) 9)).alloc (.cells (rowOf 3) 9)).alloc (.cells (rowOf 4) 9)) (.cells (rowOf 5) 9)
  simp only [World.size_alloc, Nat.add_assoc, Nat.reduceAdd] at k0 k1 k2 k3 k4 k5
  refine ⟨blk_alloc (blk_alloc (blk_alloc (blk_alloc (blk_alloc (blk_alloc (blk_new w _) _) _) _) _) _) _, fun n hn => ?_, ?_⟩
  · rcases (show n = 0 ∨ n = 1 ∨ n = 2 ∨ n = 3 ∨ n = 4 ∨ n = 5 by omega) with rfl | rfl | rfl | rfl | rfl | rfl <;> assumption
  · exact below_alloc (below_alloc (below_alloc (below_alloc (below_alloc (below_alloc (below_alloc (Below.refl _ _) _) _) _) _) _) _) _
set_option maxHeartbeats 4000000 in
set_option maxRecDepth 100000 in
theorem levels_calls (w : World) :
    Calls Tryd.prog 35 #[] w fun e w' => ∃ B, e = .returned (.agg #[.slice (some ⟨B, 0, none⟩) 1 1, .slice (some ⟨B + 1, 0, none⟩) 1 1, .slice (some ⟨B + 2, 0, none⟩) 2 2, .slice (some ⟨B + 3, 0, none⟩) 4 4, .slice (some ⟨B + 4, 0, none⟩) 2 2, .slice (some ⟨B + 5, 0, none⟩) 3 3]) ∧ LvAt w' B ∧ w.heap.size < B ∧ Below w.heap.size w w' := by
  go_enter Tryd.func35, Tryd.ntmps35
  go_wp2_with fail
  obtain ⟨h0, h1, h2⟩ := levels_end w _ _ _ _ _ _ _ rfl rfl rfl rfl rfl rfl _ rfl
  exact bodyPost_ret (results_cell_row results35 _ _ w.heap.size 70 _ (0, 0) _ rfl h0 Tryd.underlying70 rfl info70) rfl ⟨w.heap.size + 1, rfl, h1, by omega, h2⟩
theorem lvS_at (B n : Nat) (hn : n < 6) : (#[.slice (some ⟨B, 0, none⟩) 1 1, .slice (some ⟨B + 1, 0, none⟩) 1 1, .slice (some ⟨B + 2, 0, none⟩) 2 2, .slice (some ⟨B + 3, 0, none⟩) 4 4, .slice (some ⟨B + 4, 0, none⟩) 2 2, .slice (some ⟨B + 5, 0, none⟩) 3 3] : Array Value)[n]? = some (lvS B n) := by
  rcases (show n = 0 ∨ n = 1 ∨ n = 2 ∨ n = 3 ∨ n = 4 ∨ n = 5 by omega) with rfl | rfl | rfl | rfl | rfl | rfl <;> rfl
end Go.Proofs.YtambnodgfhlpfaaDoor.A
