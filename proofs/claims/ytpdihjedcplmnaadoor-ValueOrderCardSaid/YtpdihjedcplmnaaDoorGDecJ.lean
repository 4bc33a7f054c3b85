/- dec.Read, walked: where it returns. -/
import Derived.Test.YtpdihjedcplmnaaDoorGDecI
set_option linter.unusedVariables false
set_option linter.unusedSimpArgs false
namespace Go.Proofs.YtpdihjedcplmnaaDoor.G
open Go.RowKit Go.Proofs.YtpdihjedcplmnaaDoorW.PrintWords Go.Proofs.YtpdihjedcplmnaaDoorW.PrintLast Go.Proofs.YtpdihjedcplmnaaDoorW.PrintMore
/-- Where Read returns: its two deferred functions run. -/
theorem read_leaves (tmps : Array Value) (p : Nat) (v d : Int) (w W : World)
    (t2 : tmps[2]? = some (.pointer (some ⟨p, 0, none⟩))) (t3 : tmps[3]? = some (.pointer (some ⟨p + 1, 0, none⟩))) (t4 : tmps[4]? = some (.pointer (some ⟨p + 1 + 1, 0, none⟩)))
    (k0 : W.cell? ⟨p, 0, none⟩ = some (.int .i64 v)) (k1 : W.cell? ⟨p + 1, 0, none⟩ = some (.int .i64 d)) (k2 : W.cell? ⟨p + 1 + 1, 0, none⟩ = some (.int .i64 0))
    (hB : Below w.heap.size w W) :
    Leaves Tryd.prog Tryd.f15 tmps (fun x w' => x = .returned (.tuple #[.int .i64 v, .int .i64 d, .int .i64 0]) ∧ Below w.heap.size w w')
      [{ target := .fn (.func 26) #[], args := #[.pointer (some ⟨p, 0, none⟩), .pointer (some ⟨p + 1 + 1, 0, none⟩)] }, { target := .fn (.func 25) #[.pointer (some ⟨p + 1 + 1, 0, none⟩), .pointer (some ⟨p + 1, 0, none⟩)], args := #[] }]
      .returning W := by
  refine leaves_cons (f := 26) (args := #[.pointer (some ⟨p, 0, none⟩), .pointer (some ⟨p + 1 + 1, 0, none⟩)]) (by simp) (by simp [go_sem]) ?_
  refine (caught_no p (p + 1 + 1) _).mono ?_
  rintro e' u' w'' ⟨rfl, rfl, rfl⟩
  refine leaves_cons (f := 25) (args := #[.pointer (some ⟨p + 1 + 1, 0, none⟩), .pointer (some ⟨p + 1, 0, none⟩)]) (by simp [settle]) (by simp [go_sem]) ?_
  refine (read1_ok (p + 1 + 1) (p + 1) _ _ k2).mono ?_
  rintro e' u' w'' ⟨rfl, rfl, rfl⟩
  simp [Leaves, settle, results, Tryd.results15, go_sem, t2, t3, t4, k0, k1, k2]
  exact hB
end Go.Proofs.YtpdihjedcplmnaaDoor.G
