/- math/bits.Add64. -/
import Derived.Test.YtpdihjedcplmnaaGDecJ
import Derived.Test.YtpdihjedcplmnaaShelf
import Derived.Shelf.Spec.BitsCarry
set_option linter.unusedVariables false
set_option linter.unusedSimpArgs false
namespace Go.Proofs.Ytpdihjedcplmnaa.G
open Go.RowKit Go.Proofs.YtpdihjedcplmnaaW.PrintWords Go.Proofs.YtpdihjedcplmnaaW.PrintLast
theorem run_add (x y c : Nat) (hc : c ≤ 1) (w : World) :
    (callFunc 21 #[.int .u64 x, .int .u64 y, .int .u64 c]).run Try.prog w =
      .ok (.value (.tuple #[.int .u64 (((x + y + c) % 18446744073709551616 : Nat) : Int), .int .u64 (((x + y + c) / 18446744073709551616 : Nat) : Int)])) w := by
  rw [run_callFunc_extern Try.func21 (by kernel_rfl) (by kernel_rfl) (by kernel_rfl) (e := add64Entry) (by kernel_rfl), run_add64 x y c (by omega) (by omega) (by omega) (by omega)]
  simp only [Result.andThen]
  congr 5 <;> omega
end Go.Proofs.Ytpdihjedcplmnaa.G
