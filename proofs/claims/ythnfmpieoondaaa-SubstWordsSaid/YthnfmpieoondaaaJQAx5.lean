/- The Go functions of this part as Lean functions, each with a proof that a call of it comes to just what the Lean function does. Written by a program of the session's. Conditions: none but those in each theorem. -/
import Derived.Test.YthnfmpieoondaaaJQAx0
import Derived.Test.YthnfmpieoondaaaJQAx4
namespace Go.Proofs.Ythnfmpieoondaaa.QA
open Go.Proofs.Ythnfmpieoondaaa.G
open Go.RowKit Go.Proofs.YthnfmpieoondaaaW.PrintWords Go.Proofs.YthnfmpieoondaaaW.PrintLast Go.Proofs.YthnfmpieoondaaaW.PrintMore
attribute [local go_sem] max2_int min2_int max_two min_two max_three min_three max_four min_four   -- for this text's walks alone
attribute [local go_sem ↓] ix28_0 ix28_1 ia28_0 ia28_1
set_option linter.unusedVariables false
set_option linter.unusedSimpArgs false

/-! ### dragomanref06_beyond: function 62 -/
def dragomanref06_beyond.j0 : Nat → List (S55) → Int → Bool → Int → Bool → Int → Int → Bool → Int → Option ((List (S97)))
  | 0, _, _, _, _, _, _, _, _, _ => none
  | k + 1, x0, x5, x31, x120000, x120001, x120002, x122000, x122001, x122002 => if x31 = true then (if 0 ≤ x5 then (if x5 < (x0.length : Int) then (some (([(⟨(rd_T55 x0 x5).f2.f1, false, x120002⟩ : S97)] : List (S97)))) else (none)) else (none)) else (if 0 ≤ x5 then (if x5 < (x0.length : Int) then (if ((rd_T55 x0 x5).f0) = 4 then (some (([(⟨x122000, x122001, x122002⟩ : S97), (⟨x120000, false, x120002⟩ : S97)] : List (S97)))) else (if ((rd_T55 x0 x5).f0) = 5 then (some (([(⟨x122000, x122001, x122002⟩ : S97), (⟨x120000, false, x120002⟩ : S97)] : List (S97)))) else (some (([(⟨x122000, x122001, x122002⟩ : S97)] : List (S97)))))) else (none)) else (none))
def dragomanref06_beyond.f (k : Nat) (l0 : List (S55)) (a1_0 : Int) (a1_1 : Bool) (a1_2 : Int) : Option ((List (S97))) := (dragomanref06_parent.f k l0 a1_0).bind fun t120 => (if 0 ≤ t120 then (if t120 < (l0.length : Int) then (if ((rd_T55 l0 t120).f0) = 2 then (dragomanref06_beyond.j0 k l0 t120 (((rd_T55 l0 t120).f2.f0) == a1_0) a1_0 a1_1 a1_2 t120 true a1_2) else (dragomanref06_beyond.j0 k l0 t120 false a1_0 a1_1 a1_2 t120 true a1_2)) else (none)) else (none))
theorem dragomanref06_beyond.mono_l : ∀ k, (∀ y0 y1 y2 y3 y4 y5 y6 y7 y8, LeO (dragomanref06_beyond.j0 k y0 y1 y2 y3 y4 y5 y6 y7 y8) (dragomanref06_beyond.j0 (k + 1) y0 y1 y2 y3 y4 y5 y6 y7 y8))
  | 0 => fun _ _ _ _ _ _ _ _ _ r h => by simp [dragomanref06_beyond.j0] at h
  | k + 1 => by
    have ih0 := dragomanref06_beyond.mono_l k
    · intro y0 y1 y2 y3 y4 y5 y6 y7 y8
      unfold dragomanref06_beyond.j0
      repeat' first
      | (with_reducible exact ih0 _ _ _ _ _ _ _ _ _)
      | (with_reducible exact dragomanref06_parent.mono _ _ _)
      | (with_reducible exact LeO.refl _)
      | (with_reducible exact LeO.none _)
      | (with_reducible refine LeO.ite ?_ ?_)
      | (with_reducible refine LeO.bind ?_ (fun _ => ?_))
      | exact ih0 _ _ _ _ _ _ _ _ _
      | exact dragomanref06_parent.mono _ _ _
      | exact LeO.none _
      | refine LeO.ite ?_ ?_
      | refine LeO.bind ?_ (fun _ => ?_)
theorem dragomanref06_beyond.mono : ∀ a0 a1 a2 a3 k, LeO (dragomanref06_beyond.f k a0 a1 a2 a3) (dragomanref06_beyond.f (k + 1) a0 a1 a2 a3) := by
  intro a0 a1 a2 a3 k
  have ih0 := dragomanref06_beyond.mono_l k
  unfold dragomanref06_beyond.f
  repeat' first
      | (with_reducible exact ih0 _ _ _ _ _ _ _ _ _)
      | (with_reducible exact dragomanref06_parent.mono _ _ _)
      | (with_reducible exact LeO.refl _)
      | (with_reducible exact LeO.none _)
      | (with_reducible refine LeO.ite ?_ ?_)
      | (with_reducible refine LeO.bind ?_ (fun _ => ?_))
      | exact ih0 _ _ _ _ _ _ _ _ _
      | exact dragomanref06_parent.mono _ _ _
      | exact LeO.none _
      | refine LeO.ite ?_ ?_
      | refine LeO.bind ?_ (fun _ => ?_)
end Go.Proofs.Ythnfmpieoondaaa.QA
