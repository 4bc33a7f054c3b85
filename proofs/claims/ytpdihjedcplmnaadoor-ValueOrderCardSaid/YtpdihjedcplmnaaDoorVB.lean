/- strings.Compare as a Lean function. -/
import Derived.Test.YtpdihjedcplmnaaDoorVA
import Derived.Test.YtpdihjedcplmnaaDoorShelf
set_option linter.unusedVariables false
namespace Go.Proofs.YtpdihjedcplmnaaDoor.G
open Go.RowKit Go.Proofs.YtpdihjedcplmnaaDoorW.PrintWords
def strings_Compare.f (a0 a1 : ByteArray) : Option Int := some (Lib.compareBytes a0.data.toList a1.data.toList)
theorem strings_Compare.calls (a0 a1 : ByteArray) (r : Int) (w : World) (h : strings_Compare.f a0 a1 = some r) :
    Calls Tryd.prog 11 #[.string a0, .string a1] w fun e w' => e = .returned (.int .i64 r) ∧ Below w.heap.size w w' := by
  refine (Tryd.strings_Compare a0 a1 w).mono ?_
  rintro e w' ⟨rfl, rfl⟩
  unfold strings_Compare.f at h
  exact ⟨by rw [Option.some.inj h], Below.refl _ _⟩
end Go.Proofs.YtpdihjedcplmnaaDoor.G
