/- The document's reading of a numeral, walked. -/
import Derived.Test.YtgodmbcebpbdiaaDoorXLP
import Derived.StillTailTactics
import Derived.Deep.CutBlock
set_option linter.unusedVariables false
set_option linter.unusedSimpArgs false
namespace Go.Proofs.YtgodmbcebpbdiaaDoor.R2
open Go.RowKit Go.Proofs.YtgodmbcebpbdiaaDoorW.PrintWords

/-- What is kept while a numeral is read: the number so far; or it went too far. -/
def Kept (p V : Int) (l : List Int) (ov : Bool) : Prop := Num l ∧ (ov = false → val l = V ∧ V < p) ∧ (ov = true → pw 8 ≤ V)
/-- What is kept behind the point. -/
def KeptB (q : Nat) (V Z : Int) (l : List Int) (ov : Bool) : Prop := Num l ∧ (ov = false → val l = Z ∧ Z < pw 8 * 10 ^ q) ∧ (ov = true → pw 8 ≤ V)
theorem ten_pw {q : Nat} (h : q ≤ 6) : pw 8 * 10 ^ q ≤ pw 9 := by
  have h9 : pw 9 = 4294967296 * pw 8 := rfl
  have h10 : (10 : Int) ^ q ≤ 1000000 := by
    have : q = 0 ∨ q = 1 ∨ q = 2 ∨ q = 3 ∨ q = 4 ∨ q = 5 ∨ q = 6 := by omega
    rcases this with rfl | rfl | rfl | rfl | rfl | rfl | rfl <;> decide
  have := Int.mul_le_mul_of_nonneg_left h10 (Int.le_of_lt (pw_pos 8))
  have := pw_pos 8
  omega
theorem KeptB.step {q : Nat} {V Z : Int} {l : List Int} {ov : Bool} {g : Int} (h : KeptB q V Z l ov) (hq : q < 6) (hg : 0 ≤ g ∧ g ≤ 9) : KeptB (q + 1) V (Z * 10 + g) (timesL 10 g l) ov := by
  obtain ⟨hn, hf, ht⟩ := h
  refine ⟨(hn.times (m := 10) (c := g) (by omega) (by omega)).1, fun ho => ?_, ht⟩
  obtain ⟨h1, h2⟩ := hf ho
  have hp := ten_pw (q := q + 1) (by omega)
  have h12 := pw_mono (show 9 ≤ 12 by decide)
  have he : pw 8 * 10 ^ (q + 1) = pw 8 * 10 ^ q * 10 := by rw [Int.pow_succ, Int.mul_assoc]
  have h3 := (hn.times_small (m := 10) (c := g) (by omega) (by omega) (by rw [h1]; omega)).2
  rw [h3, h1]
  exact ⟨rfl, by omega⟩
end Go.Proofs.YtgodmbcebpbdiaaDoor.R2
