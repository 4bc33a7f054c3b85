/- dec.Read, walked: no numeral. -/
import Derived.Test.YtpdihjedcplmnaaDoorGDecH
import Derived.Test.YtpdihjedcplmnaaDoorQ1x
set_option linter.unusedVariables false
set_option linter.unusedSimpArgs false
namespace Go.Proofs.YtpdihjedcplmnaaDoor.G
open Go.RowKit Go.Proofs.YtpdihjedcplmnaaDoorW.PrintWords Go.Proofs.YtpdihjedcplmnaaDoorW.PrintLast Go.Proofs.YtpdihjedcplmnaaDoorW.PrintMore
set_option maxHeartbeats 4000000 in
set_option maxRecDepth 100000 in
theorem read_form (s : ByteArray) (a b c d : Int) (w : World)
    (hs : ∀ w, Calls Tryd.prog 27 #[.string s] w fun e w' => e = .returned (.tuple #[.int .i64 a, .int .i64 b, .int .i64 c, .int .i64 d]) ∧ Drawn0 w w')
    (h1 : (c == b) = true) (h2 : decide (d ≤ wrap64 (c + 1)) = true) :
    Calls Tryd.prog 15 #[.string s] w fun x w' => x = .returned (.tuple #[.int .i64 0, .int .i64 0, .int .i64 2]) ∧ Below w.heap.size w w' := by
    go_enter_defers Tryd.func15, Tryd.ntmps15
    go_wp2_with fail
    refine (hs _).mono ?_
    rintro e w' ⟨rfl, nd, rfl⟩
    go_wp2_with fail
    refine (wrong_yes _ _).mono ?_
    rintro e w' ⟨rfl, rfl⟩
    refine leaves_cons (f := 26) (args := #[.pointer (some ⟨w.heap.size, 0, none⟩), .pointer (some ⟨w.heap.size + 2, 0, none⟩)]) (by simp) (by simp [go_sem]) ?_
    refine (caught_yes w.heap.size (w.heap.size + 2) 0 0 2 [] _ (by simp [go_sem]) (by simp [go_sem]) (by simp [go_sem]) (by simp [go_sem]) (by omega)).mono ?_
    rintro e u' w'' ⟨rfl, rfl, rfl⟩
    clear hs
    refine leaves_cons (f := 25) (args := #[.pointer (some ⟨w.heap.size + 1 + 1, 0, none⟩), .pointer (some ⟨w.heap.size + 1, 0, none⟩)]) (by simp [settle, fault]) (by simp [go_sem]) ?_
    refine (read1_no (w.heap.size + 1 + 1) (w.heap.size + 1) 2 (.int .i64 0) _ _ rfl (by simp [go_sem]) (by simp [go_sem]) (by simp [go_sem])).mono ?_
    rintro e u' w'' ⟨rfl, rfl, rfl⟩
    have k0 : ((((w.alloc (.cells #[.int .i64 0] 2)).alloc (.cells #[.int .i64 0] 3)).alloc (.cells #[.int .i64 0] 35)).drewN nd).cell? ⟨w.heap.size, 0, none⟩ = some (.int .i64 0) := by simp [go_sem]
    have c0 := World.cell?_setCell_same _ _ (v := .int .i64 0) k0
    simp [Leaves, settle, fault, results, Tryd.results15, go_sem, c0]
    exact below_drew (below_alloc ((((belowN ((((Below.refl _ _).alloc (Nat.le_refl _) _).alloc (by simp) _).alloc (by simp; omega) _) nd).setCell (by simp) _).setCell (by simp) _).setCell (by simp) _) _)
/-- Where Read gives up: its two deferred functions run. -/
theorem read_ends (tmps : Array Value) (p : Nat) (e : Int) (w W : World) (he : (e != 0) = true)
    (t2 : tmps[2]? = some (.pointer (some ⟨p, 0, none⟩))) (t3 : tmps[3]? = some (.pointer (some ⟨p + 1, 0, none⟩))) (t4 : tmps[4]? = some (.pointer (some ⟨p + 1 + 1, 0, none⟩)))
    (k0 : W.cell? ⟨p, 0, none⟩ = some (.int .i64 0)) (k1 : W.cell? ⟨p + 1, 0, none⟩ = some (.int .i64 0)) (k2 : W.cell? ⟨p + 1 + 1, 0, none⟩ = some (.int .i64 0))
    (f0 : W.frozen? ⟨p, 0, none⟩ = false) (f1 : W.frozen? ⟨p + 1, 0, none⟩ = false) (f2 : W.frozen? ⟨p + 1 + 1, 0, none⟩ = false)
    (hp : w.heap.size ≤ p) (hB : Below w.heap.size w W) :
    Leaves Tryd.prog Tryd.f15 tmps (fun x w' => x = .returned (.tuple #[.int .i64 0, .int .i64 0, .int .i64 e]) ∧ Below w.heap.size w w')
      [{ target := .fn (.func 26) #[], args := #[.pointer (some ⟨p, 0, none⟩), .pointer (some ⟨p + 1 + 1, 0, none⟩)] }, { target := .fn (.func 25) #[.pointer (some ⟨p + 1 + 1, 0, none⟩), .pointer (some ⟨p + 1, 0, none⟩)], args := #[] }]
      (.panicking [fault e]) W := by
  have n1 : p + 1 + 1 < W.heap.size := World.block_lt_of_cell? W _ k2
  refine leaves_cons (f := 26) (args := #[.pointer (some ⟨p, 0, none⟩), .pointer (some ⟨p + 1 + 1, 0, none⟩)]) (by simp) (by simp [go_sem]) ?_
  refine (caught_yes p (p + 1 + 1) 0 0 e [] _ k0 k2 f0 f2 (by omega)).mono ?_
  rintro e' u' w'' ⟨rfl, rfl, rfl⟩
  have a0 := World.cell?_setCell_same _ _ (v := .int .i64 0) k0
  have a2 : (W.setCell ⟨p, 0, none⟩ (.int .i64 0)).cell? ⟨p + 1 + 1, 0, none⟩ = some (.int .i64 0) := by rw [World.cell?_setCell_far _ _ _ _ (by simp <;> omega)]; exact k2
  have b2 := World.cell?_setCell_same _ _ (v := .int .i64 e) a2
  have b0 : ((W.setCell ⟨p, 0, none⟩ (.int .i64 0)).setCell ⟨p + 1 + 1, 0, none⟩ (.int .i64 e)).cell? ⟨p, 0, none⟩ = some (.int .i64 0) := by rw [World.cell?_setCell_far _ _ _ _ (by simp <;> omega)]; exact a0
  have b1 : ((W.setCell ⟨p, 0, none⟩ (.int .i64 0)).setCell ⟨p + 1 + 1, 0, none⟩ (.int .i64 e)).cell? ⟨p + 1, 0, none⟩ = some (.int .i64 0) := by rw [World.cell?_setCell_far _ _ _ _ (by simp), World.cell?_setCell_far _ _ _ _ (by simp <;> omega)]; exact k1
  have g1 : ((W.setCell ⟨p, 0, none⟩ (.int .i64 0)).setCell ⟨p + 1 + 1, 0, none⟩ (.int .i64 e)).frozen? ⟨p + 1, 0, none⟩ = false := by simp [go_sem, f1]
  have hB' : Below w.heap.size w ((W.setCell ⟨p, 0, none⟩ (.int .i64 0)).setCell ⟨p + 1 + 1, 0, none⟩ (.int .i64 e)) := (hB.setCell (by simpa using hp) _).setCell (by simp; omega) _
  have n2 : p + 1 + 1 < ((W.setCell ⟨p, 0, none⟩ (.int .i64 0)).setCell ⟨p + 1 + 1, 0, none⟩ (.int .i64 e)).heap.size := World.block_lt_of_cell? _ _ b2
  generalize (W.setCell ⟨p, 0, none⟩ (.int .i64 0)).setCell ⟨p + 1 + 1, 0, none⟩ (.int .i64 e) = V at b0 b1 b2 g1 hB' n2 ⊢
  have d0 : ((V.alloc (.cells #[.int .i64 e] 65)).drew).cell? ⟨p, 0, none⟩ = some (.int .i64 0) := by rw [← b0]; exact World.cell?_alloc_lt _ _ _ (by simp; omega)
  have d1 : ((V.alloc (.cells #[.int .i64 e] 65)).drew).cell? ⟨p + 1, 0, none⟩ = some (.int .i64 0) := by rw [← b1]; exact World.cell?_alloc_lt _ _ _ (by simp; omega)
  have d2 : ((V.alloc (.cells #[.int .i64 e] 65)).drew).cell? ⟨p + 1 + 1, 0, none⟩ = some (.int .i64 e) := by rw [← b2]; exact World.cell?_alloc_lt _ _ _ (by simp; omega)
  have q1 : ((V.alloc (.cells #[.int .i64 e] 65)).drew).frozen? ⟨p + 1, 0, none⟩ = false := by rw [← g1]; exact (below_drew ((Below.refl V.heap.size V).alloc (Nat.le_refl _) _)).frozen (p := ⟨p + 1, 0, none⟩) (by simp; omega)
  have hB'' := below_drew (below_alloc hB' (.cells #[.int .i64 e] 65))
  generalize (V.alloc (.cells #[.int .i64 e] 65)).drew = U at d0 d1 d2 q1 hB'' ⊢
  refine leaves_cons (f := 25) (args := #[.pointer (some ⟨p + 1 + 1, 0, none⟩), .pointer (some ⟨p + 1, 0, none⟩)]) (by simp [settle, fault]) (by simp [go_sem]) ?_
  refine (read1_no (p + 1 + 1) (p + 1) e (.int .i64 0) _ _ he d2 d1 q1).mono ?_
  rintro e' u' w'' ⟨rfl, rfl, rfl⟩
  have c1 := World.cell?_setCell_same _ _ (v := .int .i64 0) d1
  have c0 : (U.setCell ⟨p + 1, 0, none⟩ (.int .i64 0)).cell? ⟨p, 0, none⟩ = some (.int .i64 0) := by rw [World.cell?_setCell_far _ _ _ _ (by simp <;> omega)]; exact d0
  have c2 : (U.setCell ⟨p + 1, 0, none⟩ (.int .i64 0)).cell? ⟨p + 1 + 1, 0, none⟩ = some (.int .i64 e) := by rw [World.cell?_setCell_far _ _ _ _ (by simp <;> omega)]; exact d2
  have hBz := hB''.setCell (p := ⟨p + 1, 0, none⟩) (by simp; omega) (.int .i64 0)
  generalize U.setCell ⟨p + 1, 0, none⟩ (.int .i64 0) = Z at c0 c1 c2 hBz ⊢
  simp [Leaves, settle, fault, results, Tryd.results15, go_sem, t2, t3, t4, c0, c1, c2]
  exact hBz
end Go.Proofs.YtpdihjedcplmnaaDoor.G
