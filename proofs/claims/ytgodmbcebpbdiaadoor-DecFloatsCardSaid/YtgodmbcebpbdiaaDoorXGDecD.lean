/- math/bits.LeadingZeros64, as a Lean function. -/
import Derived.Test.YtgodmbcebpbdiaaDoorXGDecC
import Derived.Test.YtgodmbcebpbdiaaDoorXShelf
set_option linter.unusedVariables false
set_option linter.unusedSimpArgs false
namespace Go.Proofs.YtgodmbcebpbdiaaDoor.G
open Go.RowKit Go.Proofs.YtgodmbcebpbdiaaDoorW.PrintWords Go.Proofs.YtgodmbcebpbdiaaDoorW.PrintLast
def bits_LeadingZeros64.f (x : Int) : Option Int := if 0 ≤ x ∧ x ≤ 18446744073709551615 then some (64 - (Lib.bitLen x.toNat : Int)) else none
theorem bits_LeadingZeros64.calls (x r : Int) (w : World) (h : bits_LeadingZeros64.f x = some r) :
    Calls Tryd.prog 68 #[.int .u64 x] w fun e w' => e = .returned (.int .i64 r) ∧ Drawn0 w w' := by
  unfold bits_LeadingZeros64.f at h
  by_cases hx : 0 ≤ x ∧ x ≤ 18446744073709551615
  · rw [if_pos hx] at h
    obtain rfl := Option.some.inj h
    refine (Tryd.bits_LeadingZeros64 x w hx.1 hx.2).mono ?_
    rintro e w' ⟨rfl, rfl⟩
    exact ⟨rfl, Drawn0.refl _⟩
  · rw [if_neg hx] at h; cases h
end Go.Proofs.YtgodmbcebpbdiaaDoor.G
