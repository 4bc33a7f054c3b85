/- hex.IsName and hex.Whole, told in the form that the printed walks call them by. -/
import Derived.Test.YtambnodgfhlpfaaDoorVGHex
namespace Go.Proofs.YtambnodgfhlpfaaDoor.G
open Go.RowKit Go.Proofs.YtambnodgfhlpfaaDoorW.PrintWords Go.Proofs.YtambnodgfhlpfaaDoorW.PrintLast
def hex_IsName.f (a0 : ByteArray) : Option Bool := if a0.size ≤ 9223372036854775807 then some (nameB a0) else none
theorem hex_IsName.calls (a0 : ByteArray) (r : Bool) (w : World) (h : hex_IsName.f a0 = some r) :
    Calls Tryd.prog 31 #[.string a0] w fun e w' => e = .returned (.bool r) ∧ Below w.heap.size w w' := by
  unfold hex_IsName.f at h
  by_cases hs : a0.size ≤ 9223372036854775807
  · rw [if_pos hs] at h
    obtain rfl := Option.some.inj h
    exact isName_calls a0 w hs
  · rw [if_neg hs] at h; cases h
end Go.Proofs.YtambnodgfhlpfaaDoor.G
