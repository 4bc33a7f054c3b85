/- The Go functions of this part as Lean functions, each with a proof that a call of it comes to just what the Lean function does. Written by a program of the session's. Conditions: none but those in each theorem. -/
import Derived.Test.YthnfmpieoondaaaJQAx0
namespace Go.Proofs.Ythnfmpieoondaaa.QA
open Go.Proofs.Ythnfmpieoondaaa.G
open Go.RowKit Go.Proofs.YthnfmpieoondaaaW.PrintWords Go.Proofs.YthnfmpieoondaaaW.PrintLast Go.Proofs.YthnfmpieoondaaaW.PrintMore
attribute [local go_sem] max2_int min2_int max_two min_two max_three min_three max_four min_four   -- for this text's walks alone
attribute [local go_sem ↓] ix28_0 ix28_1 ia28_0 ia28_1
set_option linter.unusedVariables false
set_option linter.unusedSimpArgs false

/-! ### dragomanref06_parent: function 72 -/
def dragomanref06_parent.l0 : Nat → List (S55) → Int → Int → Option (Int)
  | 0, _, _, _ => none
  | k + 1, x0, x1, x5 => if x5 < (x0.length : Int) then (if 0 ≤ x5 then (if ((rd_T55 x0 x5).f0) ≥ 2 then (if ((rd_T55 x0 x5).f0) ≤ 6 then (if ((rd_T55 x0 x5).f2.f0) = x1 then (some x5) else (if ((rd_T55 x0 x5).f0) = 2 then (if ((rd_T55 x0 x5).f2.f1) = x1 then (some x5) else (dragomanref06_parent.l0 k x0 x1 (wrap64 (x5 + 1)))) else (if ((rd_T55 x0 x5).f0) = 3 then (if ((rd_T55 x0 x5).f2.f1) = x1 then (some x5) else (dragomanref06_parent.l0 k x0 x1 (wrap64 (x5 + 1)))) else (dragomanref06_parent.l0 k x0 x1 (wrap64 (x5 + 1)))))) else (if ((rd_T55 x0 x5).f0) = 2 then (if ((rd_T55 x0 x5).f2.f1) = x1 then (some x5) else (dragomanref06_parent.l0 k x0 x1 (wrap64 (x5 + 1)))) else (if ((rd_T55 x0 x5).f0) = 3 then (if ((rd_T55 x0 x5).f2.f1) = x1 then (some x5) else (dragomanref06_parent.l0 k x0 x1 (wrap64 (x5 + 1)))) else (dragomanref06_parent.l0 k x0 x1 (wrap64 (x5 + 1)))))) else (if ((rd_T55 x0 x5).f0) = 2 then (if ((rd_T55 x0 x5).f2.f1) = x1 then (some x5) else (dragomanref06_parent.l0 k x0 x1 (wrap64 (x5 + 1)))) else (if ((rd_T55 x0 x5).f0) = 3 then (if ((rd_T55 x0 x5).f2.f1) = x1 then (some x5) else (dragomanref06_parent.l0 k x0 x1 (wrap64 (x5 + 1)))) else (dragomanref06_parent.l0 k x0 x1 (wrap64 (x5 + 1)))))) else (none)) else (some (-1))
def dragomanref06_parent.f (k : Nat) (l0 : List (S55)) (a1 : Int) : Option (Int) := dragomanref06_parent.l0 k l0 a1 (wrap64 (a1 + 1))
theorem dragomanref06_parent.mono_l : ∀ k, (∀ y0 y1 y2, LeO (dragomanref06_parent.l0 k y0 y1 y2) (dragomanref06_parent.l0 (k + 1) y0 y1 y2))
  | 0 => fun _ _ _ r h => by simp [dragomanref06_parent.l0] at h
  | k + 1 => by
    have ih0 := dragomanref06_parent.mono_l k
    · intro y0 y1 y2
      unfold dragomanref06_parent.l0
      repeat' first
      | (with_reducible exact ih0 _ _ _)
      | (with_reducible exact LeO.refl _)
      | (with_reducible exact LeO.none _)
      | (with_reducible refine LeO.ite ?_ ?_)
      | (with_reducible refine LeO.bind ?_ (fun _ => ?_))
      | exact ih0 _ _ _
      | exact LeO.none _
      | refine LeO.ite ?_ ?_
      | refine LeO.bind ?_ (fun _ => ?_)
theorem dragomanref06_parent.mono : ∀ a0 a1 k, LeO (dragomanref06_parent.f k a0 a1) (dragomanref06_parent.f (k + 1) a0 a1) := by
  intro a0 a1 k
  have ih0 := dragomanref06_parent.mono_l k
  unfold dragomanref06_parent.f
  repeat' first
      | (with_reducible exact ih0 _ _ _)
      | (with_reducible exact LeO.refl _)
      | (with_reducible exact LeO.none _)
      | (with_reducible refine LeO.ite ?_ ?_)
      | (with_reducible refine LeO.bind ?_ (fun _ => ?_))
      | exact ih0 _ _ _
      | exact LeO.none _
      | refine LeO.ite ?_ ?_
      | refine LeO.bind ?_ (fun _ => ?_)
end Go.Proofs.Ythnfmpieoondaaa.QA
