/- math/bits.Add64. -/
import Derived.Test.YtpdihjedcplmnaaDoorGDecJ
import Derived.Test.YtpdihjedcplmnaaDoorShelf
import Derived.Shelf.Spec.BitsCarry
set_option linter.unusedVariables false
set_option linter.unusedSimpArgs false
namespace Go.Proofs.YtpdihjedcplmnaaDoor.G
open Go.RowKit Go.Proofs.YtpdihjedcplmnaaDoorW.PrintWords Go.Proofs.YtpdihjedcplmnaaDoorW.PrintLast
theorem run_add (x y c : Nat) (hc : c ≤ 1) (w : World) :
    (callFunc 30 #[.int .u64 x, .int .u64 y, .int .u64 c]).run Tryd.prog w =
      .ok (.value (.tuple #[.int .u64 (((x + y + c) % 18446744073709551616 : Nat) : Int), .int .u64 (((x + y + c) / 18446744073709551616 : Nat) : Int)])) w := by
  rw [run_callFunc_extern Tryd.func30 (by kernel_rfl) (by kernel_rfl) (by kernel_rfl) (e := add64Entry) (by kernel_rfl), run_add64 x y c (by omega) (by omega) (by omega) (by omega)]
  simp only [Result.andThen]
  congr 5 <;> omega
end Go.Proofs.YtpdihjedcplmnaaDoor.G
