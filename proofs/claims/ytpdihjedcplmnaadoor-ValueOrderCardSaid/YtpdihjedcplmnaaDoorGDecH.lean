/- dec.Read's first deferred function, walked. -/
import Derived.Test.YtpdihjedcplmnaaDoorGDecG
set_option linter.unusedVariables false
set_option linter.unusedSimpArgs false
namespace Go.Proofs.YtpdihjedcplmnaaDoor.G
open Go.RowKit Go.Proofs.YtpdihjedcplmnaaDoorW.PrintWords Go.Proofs.YtpdihjedcplmnaaDoorW.PrintLast
set_option maxHeartbeats 4000000 in
set_option maxRecDepth 100000 in
theorem read1_ok (p q : Nat) (w : World) (u : FrameMode) (hp : w.cell? ⟨p, 0, none⟩ = some (.int .i64 0)) :
    CallsD Tryd.prog 25 #[.pointer (some ⟨p, 0, none⟩), .pointer (some ⟨q, 0, none⟩)] u w fun x' u' w' =>
      x' = .returned (.tuple #[]) ∧ u' = u ∧ w' = w := by
  refine (callsD_of_wp (R := fun x' w' => x' = .returned (.tuple #[]) ∧ w' = w) Tryd.func25 rfl ?_).mono (fun e u' w' h => ⟨h.2.1, h.1, h.2.2⟩)
  have ht : (#[.pointer (some ⟨p, 0, none⟩), .pointer (some ⟨q, 0, none⟩)] ++ Array.replicate (Tryd.f25.ntmps - (#[.pointer (some ⟨p, 0, none⟩), .pointer (some ⟨q, 0, none⟩)] : Array Value).size) undef : Array Value) = #[.pointer (some ⟨p, 0, none⟩), .pointer (some ⟨q, 0, none⟩), undef, undef] := by simp [Array.replicate, Tryd.ntmps25]
  rw [ht]
  clear ht
  go_wp2
  go_end0
  exact ⟨rfl, rfl⟩
set_option maxHeartbeats 4000000 in
set_option maxRecDepth 100000 in
theorem read1_no (p q : Nat) (e : Int) (y : Value) (w : World) (u : FrameMode) (he : (e != 0) = true) (hp : w.cell? ⟨p, 0, none⟩ = some (.int .i64 e)) (hq : w.cell? ⟨q, 0, none⟩ = some y) (fq : w.frozen? ⟨q, 0, none⟩ = false) :
    CallsD Tryd.prog 25 #[.pointer (some ⟨p, 0, none⟩), .pointer (some ⟨q, 0, none⟩)] u w fun x' u' w' =>
      x' = .returned (.tuple #[]) ∧ u' = u ∧ w' = w.setCell ⟨q, 0, none⟩ (.int .i64 0) := by
  refine (callsD_of_wp (R := fun x' w' => x' = .returned (.tuple #[]) ∧ w' = w.setCell ⟨q, 0, none⟩ (.int .i64 0)) Tryd.func25 rfl ?_).mono (fun e u' w' h => ⟨h.2.1, h.1, h.2.2⟩)
  have ht : (#[.pointer (some ⟨p, 0, none⟩), .pointer (some ⟨q, 0, none⟩)] ++ Array.replicate (Tryd.f25.ntmps - (#[.pointer (some ⟨p, 0, none⟩), .pointer (some ⟨q, 0, none⟩)] : Array Value).size) undef : Array Value) = #[.pointer (some ⟨p, 0, none⟩), .pointer (some ⟨q, 0, none⟩), undef, undef] := by simp [Array.replicate, Tryd.ntmps25]
  rw [ht]
  clear ht
  go_wp2
  go_end0
  exact ⟨rfl, rfl⟩
end Go.Proofs.YtpdihjedcplmnaaDoor.G
