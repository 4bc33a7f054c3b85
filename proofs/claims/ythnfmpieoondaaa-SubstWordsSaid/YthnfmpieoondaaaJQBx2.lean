/- The Go functions of this part as Lean functions, each with a proof that a call of it comes to just what the Lean function does. Written by a program of the session's. Conditions: none but those in each theorem. -/
import Derived.Test.YthnfmpieoondaaaJQBx0
import Derived.Test.YthnfmpieoondaaaJWI
namespace Go.Proofs.Ythnfmpieoondaaa.QB
open Go.Proofs.Ythnfmpieoondaaa.G Go.Proofs.Ythnfmpieoondaaa.QA
open Go.RowKit Go.Proofs.YthnfmpieoondaaaW.PrintWords Go.Proofs.YthnfmpieoondaaaW.PrintLast Go.Proofs.YthnfmpieoondaaaW.PrintMore
attribute [local go_sem] max2_int min2_int max_two min_two max_three min_three max_four min_four   -- for this text's walks alone
attribute [local go_sem ↓] ix28_0 ix28_1 ia28_0 ia28_1
set_option linter.unusedVariables false
set_option linter.unusedSimpArgs false

/-! ### dragomanref06_within: function 63 -/
mutual
def dragomanref06_within.j0 : Nat → Bool → Int → Bool → Int → Option ((List (S97)))
  | 0, _, _, _, _ => none
  | k + 1, x47, x113000, x113001, x113002 => if x47 = true then (some (([(⟨x113000, true, wrap64 (x113002 + 1)⟩ : S97)] : List (S97)))) else (some ([] : List (S97)))
def dragomanref06_within.j1 : Nat → ByteArray → Int → Bool → Int → Bool → Int → Int → Int → Int → Int → Int → Int → Int → Int → Bool → Int → Int → Bool → Int → Option ((List (S97)))
  | 0, _, _, _, _, _, _, _, _, _, _, _, _, _, _, _, _, _, _, _ => none
  | k + 1, x1, x27, x55, x113000, x113001, x113002, x115000, x115001, x115002, x115003, x115004, x115005, x115006, x116000, x116001, x116002, x117000, x117001, x117002 => if x55 = true then (some (([(⟨x117000, x117001, x117002⟩ : S97)] : List (S97)))) else (if x27 = 3 then (some (([(⟨x117000, x117001, x117002⟩ : S97), (⟨x115006, false, x113002⟩ : S97)] : List (S97)))) else (if x27 = 4 then (dragomanref06_within.j2 k x1 x27 (x27 == 4) x113000 x113001 x113002 x116000 x116001 x116002 x117000 x117001 x117002) else (dragomanref06_within.j2 k x1 x27 (x27 == 6) x113000 x113001 x113002 x116000 x116001 x116002 x117000 x117001 x117002)))
def dragomanref06_within.j2 : Nat → ByteArray → Int → Bool → Int → Bool → Int → Int → Bool → Int → Int → Bool → Int → Option ((List (S97)))
  | 0, _, _, _, _, _, _, _, _, _, _, _, _ => none
  | k + 1, x1, x27, x70, x113000, x113001, x113002, x116000, x116001, x116002, x117000, x117001, x117002 => if x70 = true then (some (([(⟨x116000, x116001, x116002⟩ : S97), (⟨x117000, x117001, x117002⟩ : S97)] : List (S97)))) else (if x27 = 7 then (if x113002 = 0 then (some (([(⟨x116000, x116001, x116002⟩ : S97)] : List (S97)))) else (some ([] : List (S97)))) else (if x113002 = (x1.size : Int) then (some (([(⟨x116000, x116001, x116002⟩ : S97)] : List (S97)))) else (some ([] : List (S97)))))
end
def dragomanref06_within.f (k : Nat) (l0 : List (S55)) (a1 : ByteArray) (a2_0 : Int) (a2_1 : Bool) (a2_2 : Int) : Option ((List (S97))) := if 0 ≤ a2_0 then (if a2_0 < (l0.length : Int) then (if ((rd_T55 l0 a2_0).f0) = 0 then (some (([(⟨a2_0, true, a2_2⟩ : S97)] : List (S97)))) else (if ((rd_T55 l0 a2_0).f0) = 1 then (if a2_2 < (a1.size : Int) then (if 0 ≤ a2_2 then ((ref04_Has.f ((rd_T55 l0 a2_0).f1.f0) ((rd_T55 l0 a2_0).f1.f1) ((rd_T55 l0 a2_0).f1.f2) ((rd_T55 l0 a2_0).f1.f3) (bt a1 a2_2)).bind fun t120 => (dragomanref06_within.j0 k t120 a2_0 a2_1 a2_2)) else (none)) else (dragomanref06_within.j0 k false a2_0 a2_1 a2_2)) else (if ((rd_T55 l0 a2_0).f0) = 2 then (dragomanref06_within.j1 k a1 ((rd_T55 l0 a2_0).f0) (((rd_T55 l0 a2_0).f0) == 2) a2_0 a2_1 a2_2 ((rd_T55 l0 a2_0).f0) ((rd_T55 l0 a2_0).f1.f0) ((rd_T55 l0 a2_0).f1.f1) ((rd_T55 l0 a2_0).f1.f2) ((rd_T55 l0 a2_0).f1.f3) ((rd_T55 l0 a2_0).f2.f0) ((rd_T55 l0 a2_0).f2.f1) a2_0 true a2_2 ((rd_T55 l0 a2_0).f2.f0) false a2_2) else (dragomanref06_within.j1 k a1 ((rd_T55 l0 a2_0).f0) (((rd_T55 l0 a2_0).f0) == 5) a2_0 a2_1 a2_2 ((rd_T55 l0 a2_0).f0) ((rd_T55 l0 a2_0).f1.f0) ((rd_T55 l0 a2_0).f1.f1) ((rd_T55 l0 a2_0).f1.f2) ((rd_T55 l0 a2_0).f1.f3) ((rd_T55 l0 a2_0).f2.f0) ((rd_T55 l0 a2_0).f2.f1) a2_0 true a2_2 ((rd_T55 l0 a2_0).f2.f0) false a2_2)))) else (none)) else (none)
theorem dragomanref06_within.mono_l : ∀ k, (∀ y0 y1 y2 y3, LeO (dragomanref06_within.j0 k y0 y1 y2 y3) (dragomanref06_within.j0 (k + 1) y0 y1 y2 y3)) ∧ (∀ y0 y1 y2 y3 y4 y5 y6 y7 y8 y9 y10 y11 y12 y13 y14 y15 y16 y17 y18, LeO (dragomanref06_within.j1 k y0 y1 y2 y3 y4 y5 y6 y7 y8 y9 y10 y11 y12 y13 y14 y15 y16 y17 y18) (dragomanref06_within.j1 (k + 1) y0 y1 y2 y3 y4 y5 y6 y7 y8 y9 y10 y11 y12 y13 y14 y15 y16 y17 y18)) ∧ (∀ y0 y1 y2 y3 y4 y5 y6 y7 y8 y9 y10 y11, LeO (dragomanref06_within.j2 k y0 y1 y2 y3 y4 y5 y6 y7 y8 y9 y10 y11) (dragomanref06_within.j2 (k + 1) y0 y1 y2 y3 y4 y5 y6 y7 y8 y9 y10 y11))
  | 0 => ⟨fun _ _ _ _ r h => by simp [dragomanref06_within.j0] at h, fun _ _ _ _ _ _ _ _ _ _ _ _ _ _ _ _ _ _ _ r h => by simp [dragomanref06_within.j1] at h, fun _ _ _ _ _ _ _ _ _ _ _ _ r h => by simp [dragomanref06_within.j2] at h⟩
  | k + 1 => by
    obtain ⟨ih0, ih1, ih2⟩ := dragomanref06_within.mono_l k
    refine ⟨?_, ?_, ?_⟩
    · intro y0 y1 y2 y3
      unfold dragomanref06_within.j0
      repeat' first
      | (with_reducible exact ih0 _ _ _ _)
      | (with_reducible exact ih1 _ _ _ _ _ _ _ _ _ _ _ _ _ _ _ _ _ _ _)
      | (with_reducible exact ih2 _ _ _ _ _ _ _ _ _ _ _ _)
      | (with_reducible exact LeO.refl _)
      | (with_reducible exact LeO.none _)
      | (with_reducible refine LeO.ite ?_ ?_)
      | (with_reducible refine LeO.bind ?_ (fun _ => ?_))
      | exact ih0 _ _ _ _
      | exact ih1 _ _ _ _ _ _ _ _ _ _ _ _ _ _ _ _ _ _ _
      | exact ih2 _ _ _ _ _ _ _ _ _ _ _ _
      | exact LeO.none _
      | refine LeO.ite ?_ ?_
      | refine LeO.bind ?_ (fun _ => ?_)
    · intro y0 y1 y2 y3 y4 y5 y6 y7 y8 y9 y10 y11 y12 y13 y14 y15 y16 y17 y18
      unfold dragomanref06_within.j1
      repeat' first
      | (with_reducible exact ih0 _ _ _ _)
      | (with_reducible exact ih1 _ _ _ _ _ _ _ _ _ _ _ _ _ _ _ _ _ _ _)
      | (with_reducible exact ih2 _ _ _ _ _ _ _ _ _ _ _ _)
      | (with_reducible exact LeO.refl _)
      | (with_reducible exact LeO.none _)
      | (with_reducible refine LeO.ite ?_ ?_)
      | (with_reducible refine LeO.bind ?_ (fun _ => ?_))
      | exact ih0 _ _ _ _
      | exact ih1 _ _ _ _ _ _ _ _ _ _ _ _ _ _ _ _ _ _ _
      | exact ih2 _ _ _ _ _ _ _ _ _ _ _ _
      | exact LeO.none _
      | refine LeO.ite ?_ ?_
      | refine LeO.bind ?_ (fun _ => ?_)
    · intro y0 y1 y2 y3 y4 y5 y6 y7 y8 y9 y10 y11
      unfold dragomanref06_within.j2
      repeat' first
      | (with_reducible exact ih0 _ _ _ _)
      | (with_reducible exact ih1 _ _ _ _ _ _ _ _ _ _ _ _ _ _ _ _ _ _ _)
      | (with_reducible exact ih2 _ _ _ _ _ _ _ _ _ _ _ _)
      | (with_reducible exact LeO.refl _)
      | (with_reducible exact LeO.none _)
      | (with_reducible refine LeO.ite ?_ ?_)
      | (with_reducible refine LeO.bind ?_ (fun _ => ?_))
      | exact ih0 _ _ _ _
      | exact ih1 _ _ _ _ _ _ _ _ _ _ _ _ _ _ _ _ _ _ _
      | exact ih2 _ _ _ _ _ _ _ _ _ _ _ _
      | exact LeO.none _
      | refine LeO.ite ?_ ?_
      | refine LeO.bind ?_ (fun _ => ?_)
theorem dragomanref06_within.mono : ∀ a0 a1 a2 a3 a4 k, LeO (dragomanref06_within.f k a0 a1 a2 a3 a4) (dragomanref06_within.f (k + 1) a0 a1 a2 a3 a4) := by
  intro a0 a1 a2 a3 a4 k
  obtain ⟨ih0, ih1, ih2⟩ := dragomanref06_within.mono_l k
  unfold dragomanref06_within.f
  repeat' first
      | (with_reducible exact ih0 _ _ _ _)
      | (with_reducible exact ih1 _ _ _ _ _ _ _ _ _ _ _ _ _ _ _ _ _ _ _)
      | (with_reducible exact ih2 _ _ _ _ _ _ _ _ _ _ _ _)
      | (with_reducible exact LeO.refl _)
      | (with_reducible exact LeO.none _)
      | (with_reducible refine LeO.ite ?_ ?_)
      | (with_reducible refine LeO.bind ?_ (fun _ => ?_))
      | exact ih0 _ _ _ _
      | exact ih1 _ _ _ _ _ _ _ _ _ _ _ _ _ _ _ _ _ _ _
      | exact ih2 _ _ _ _ _ _ _ _ _ _ _ _
      | exact LeO.none _
      | refine LeO.ite ?_ ?_
      | refine LeO.bind ?_ (fun _ => ?_)
end Go.Proofs.Ythnfmpieoondaaa.QB
