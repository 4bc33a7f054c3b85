/- Functions of package dec that give up and catch, walked. -/
import Derived.Test.YtgodmbcebpbdiaaDoorProg
import Derived.Below
import Derived.Deep.Draws
import Derived.OwnWalk
import Derived.Outline
import Derived.Lib.Hide
import Derived.WalkKit
import Derived.WalkSpells
import Derived.WalkLawsBesides
import Derived.KernelRfl
import Derived.RowKit3
import Derived.Deep.DeepCutAuto
import Derived.Deep.CutBlock
import Derived.RegionTactic
import Derived.BigRegion
import Derived.Defers
import Derived.Recover
import Derived.Laws.Pointers
import Derived.Test.YtgodmbcebpbdiaaDoorXWWords
import Derived.Test.YtgodmbcebpbdiaaDoorXWLast
set_option linter.unusedVariables false
set_option linter.unusedSimpArgs false
namespace Go.Proofs.YtgodmbcebpbdiaaDoor.G
open Go.RowKit Go.Proofs.YtgodmbcebpbdiaaDoorW.PrintWords Go.Proofs.YtgodmbcebpbdiaaDoorW.PrintLast

/-- What is given up with. -/
def fault (e : Int) : PanicEntry := { v := .iface 74 (.agg #[.int .i64 e]), recovered := false }

set_option maxHeartbeats 2000000 in
theorem wrong_no (e : Int) (w : World) : Calls Tryd.prog 36 #[.bool false, .int .i64 e] w fun x w' => x = .returned (.tuple #[]) ∧ w = w' := by
  go_enter Tryd.func36, Tryd.ntmps36
  go_wp2
  go_end0
  exact ⟨rfl, rfl⟩
set_option maxHeartbeats 2000000 in
theorem wrong_yes (e : Int) (w : World) : Calls Tryd.prog 36 #[.bool true, .int .i64 e] w fun x w' => x = .panicked [fault e] ∧ w = w' := by
  go_enter Tryd.func36, Tryd.ntmps36
  go_wp2
  exact ⟨rfl, rfl, rfl⟩

theorem as74 (v : Value) (w : World) : (Instr.typeAssert (.iface 74 v) 20 74 true).run Tryd.prog w = .ok (.tuple #[v, .bool true]) w := by kernel_rfl
set_option maxHeartbeats 2000000 in
theorem caught_yes (p q : Nat) (x y e : Int) (older : List PanicEntry) (w : World) (hp : w.cell? ⟨p, 0, none⟩ = some (.int .i64 x)) (hq : w.cell? ⟨q, 0, none⟩ = some (.int .i64 y)) (fp : w.frozen? ⟨p, 0, none⟩ = false) (fq : w.frozen? ⟨q, 0, none⟩ = false) (hpq : p ≠ q) :
    CallsD Tryd.prog 34 #[.pointer (some ⟨p, 0, none⟩), .pointer (some ⟨q, 0, none⟩)] (.panicking (fault e :: older)) w fun x' u' w' =>
      x' = .returned (.tuple #[]) ∧ u' = .panicking ({ fault e with recovered := true } :: older) ∧ w' = (((w.setCell ⟨p, 0, none⟩ (.int .i64 0)).setCell ⟨q, 0, none⟩ (.int .i64 e)).alloc (.cells #[.int .i64 e] 74)).drew := by
  refine callsD_of_wpS Tryd.func34 rfl fun c₀ cs hu => ?_
  apply wpS_seq
  apply wpS_region
  simp [wpOpsS, go_sem, recoverD, hu, Tryd.ntmps34, Exit.thenS, fault]
  refine wpS_of_wp ?_
  have Hu := Lib.hid hu; clear hu
  have ht : (#[(.pointer (some ⟨p, 0, none⟩)), (.pointer (some ⟨q, 0, none⟩))] ++ ((Array.replicate 22 undef).setIfInBounds 5 (.iface 74 (.agg #[.int .i64 e]))).setIfInBounds 2 (.iface 74 (.agg #[.int .i64 e])) : Array Value) = #[(.pointer (some ⟨p, 0, none⟩)), (.pointer (some ⟨q, 0, none⟩)), undef, undef, (.iface 74 (.agg #[.int .i64 e])), undef, undef, (.iface 74 (.agg #[.int .i64 e])), undef, undef, undef, undef, undef, undef, undef, undef, undef, undef, undef, undef, undef, undef, undef, undef] := by simp [Array.replicate, Array.setIfInBounds]
  rw [ht]
  clear ht
  have hta := as74 (.agg #[.int .i64 e])
  go_wp2
  have hlp : p < w.heap.size := World.block_lt_of_cell? w _ hp
  have hlq : q < w.heap.size := World.block_lt_of_cell? w _ hq
  have hnp : w.heap.size ≠ p := by omega
  have hnq : w.heap.size ≠ q := by omega
  go_region
  exact ⟨rfl, _, rfl, _, results_none rfl _ _ _, rfl, rfl, rfl⟩

set_option maxHeartbeats 2000000 in
theorem caught_no (p q : Nat) (w : World) :
    CallsD Tryd.prog 34 #[.pointer (some ⟨p, 0, none⟩), .pointer (some ⟨q, 0, none⟩)] .returning w fun x' u' w' =>
      x' = .returned (.tuple #[]) ∧ u' = .returning ∧ w' = w := by
  refine callsD_of_wpS Tryd.func34 rfl fun c₀ cs hu => ?_
  apply wpS_seq
  apply wpS_region
  simp [wpOpsS, go_sem, recoverD, hu, Tryd.ntmps34, Exit.thenS]
  refine wpS_of_wp ?_
  have Hu := Lib.hid hu
  have ht : (#[.pointer (some ⟨p, 0, none⟩), .pointer (some ⟨q, 0, none⟩)] ++ ((Array.replicate 22 undef).setIfInBounds 5 .nilIface).setIfInBounds 2 .nilIface : Array Value) = #[(.pointer (some ⟨p, 0, none⟩)), (.pointer (some ⟨q, 0, none⟩)), undef, undef, .nilIface, undef, undef, .nilIface, undef, undef, undef, undef, undef, undef, undef, undef, undef, undef, undef, undef, undef, undef, undef, undef] := by simp [Array.replicate, Array.setIfInBounds]
  rw [ht]
  clear ht hu
  go_wp2
  refine ⟨rfl, .returning, ?_, _, results_none rfl _ _ _, rfl, rfl, rfl⟩
  rw [← Hu.out]

end Go.Proofs.YtgodmbcebpbdiaaDoor.G
