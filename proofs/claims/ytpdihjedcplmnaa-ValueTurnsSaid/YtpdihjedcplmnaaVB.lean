/- strings.Compare as a Lean function. -/
import Derived.Test.YtpdihjedcplmnaaVA
import Derived.Test.YtpdihjedcplmnaaShelf
set_option linter.unusedVariables false
namespace Go.Proofs.Ytpdihjedcplmnaa.G
open Go.RowKit Go.Proofs.YtpdihjedcplmnaaW.PrintWords
def strings_Compare.f (a0 a1 : ByteArray) : Option Int := some (Lib.compareBytes a0.data.toList a1.data.toList)
theorem strings_Compare.calls (a0 a1 : ByteArray) (r : Int) (w : World) (h : strings_Compare.f a0 a1 = some r) :
    Calls Try.prog 10 #[.string a0, .string a1] w fun e w' => e = .returned (.int .i64 r) ∧ Below w.heap.size w w' := by
  refine (Try.strings_Compare a0 a1 w).mono ?_
  rintro e w' ⟨rfl, rfl⟩
  unfold strings_Compare.f at h
  exact ⟨by rw [Option.some.inj h], Below.refl _ _⟩
end Go.Proofs.Ytpdihjedcplmnaa.G
