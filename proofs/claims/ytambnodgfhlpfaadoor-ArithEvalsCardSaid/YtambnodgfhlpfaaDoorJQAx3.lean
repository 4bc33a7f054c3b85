/- The Go functions of this part as Lean functions, each with a proof that a call of it comes to just what the Lean function does. Written by a program of the session's. Conditions: none but those in each theorem. -/
import Derived.Test.YtambnodgfhlpfaaDoorJQAx0
import Derived.Test.YtambnodgfhlpfaaDoorJQAx1
namespace Go.Proofs.YtambnodgfhlpfaaDoor.QA
open Go.Proofs.YtambnodgfhlpfaaDoor.G
open Go.RowKit Go.Proofs.YtambnodgfhlpfaaDoorW.PrintWords Go.Proofs.YtambnodgfhlpfaaDoorW.PrintLast Go.Proofs.YtambnodgfhlpfaaDoorW.PrintMore
attribute [local go_sem] max2_int min2_int max_two min_two max_three min_three max_four min_four   -- for this text's walks alone
set_option linter.unusedVariables false
set_option linter.unusedSimpArgs false

attribute [local go_sem high] eqA39
/-! ### dragomanref10_Find: function 19 -/
def dragomanref10_Find.l0 : Nat → List (S39) → ByteArray → Int → Option (ByteArray × Bool)
  | 0, _, _, _ => none
  | k + 1, x0, x1, x6 => if x6 < (x0.length : Int) then (if 0 ≤ x6 then (if ((rd_T39 x0 x6).f0).toList = x1.toList then (some ((rd_T39 x0 x6).f1, true)) else (dragomanref10_Find.l0 k x0 x1 (wrap64 (x6 + 1)))) else (none)) else (some ((⟨#[]⟩ : ByteArray), false))
def dragomanref10_Find.f (k : Nat) (l0 : List (S39)) (a1 : ByteArray) : Option (ByteArray × Bool) := dragomanref10_Find.l0 k l0 a1 0
theorem dragomanref10_Find.mono_l : ∀ k, (∀ y0 y1 y2, LeO (dragomanref10_Find.l0 k y0 y1 y2) (dragomanref10_Find.l0 (k + 1) y0 y1 y2))
  | 0 => fun _ _ _ r h => by simp [dragomanref10_Find.l0] at h
  | k + 1 => by
    have ih0 := dragomanref10_Find.mono_l k
    · intro y0 y1 y2
      unfold dragomanref10_Find.l0
      repeat' first
      | (with_reducible exact ih0 _ _ _)
      | (with_reducible exact LeO.refl _)
      | (with_reducible exact LeO.none _)
      | (with_reducible refine LeO.ite ?_ ?_)
      | (with_reducible refine LeO.bind ?_ (fun _ => ?_))
      | exact ih0 _ _ _
      | exact LeO.none _
      | refine LeO.ite ?_ ?_
      | refine LeO.bind ?_ (fun _ => ?_)
theorem dragomanref10_Find.mono : ∀ a0 a1 k, LeO (dragomanref10_Find.f k a0 a1) (dragomanref10_Find.f (k + 1) a0 a1) := by
  intro a0 a1 k
  have ih0 := dragomanref10_Find.mono_l k
  unfold dragomanref10_Find.f
  repeat' first
      | (with_reducible exact ih0 _ _ _)
      | (with_reducible exact LeO.refl _)
      | (with_reducible exact LeO.none _)
      | (with_reducible refine LeO.ite ?_ ?_)
      | (with_reducible refine LeO.bind ?_ (fun _ => ?_))
      | exact ih0 _ _ _
      | exact LeO.none _
      | refine LeO.ite ?_ ?_
      | refine LeO.bind ?_ (fun _ => ?_)
/-! ### dragomanref10_Same: function 20 -/
end Go.Proofs.YtambnodgfhlpfaaDoor.QA
