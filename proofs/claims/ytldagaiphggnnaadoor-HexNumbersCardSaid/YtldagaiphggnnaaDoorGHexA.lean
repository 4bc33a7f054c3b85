/- The functions of package hex that are walked by hand, told in the form that the printed walks call them by; the table of figures lying as it is laid (GT). -/
import Derived.Test.YtldagaiphggnnaaDoorGHex
import Derived.Test.YtldagaiphggnnaaDoorGHexS
namespace Go.Proofs.YtldagaiphggnnaaDoor.G
open Go.RowKit Go.Proofs.YtldagaiphggnnaaDoorW.PrintWords Go.Proofs.YtldagaiphggnnaaDoorW.PrintLast
def hex_IsName.f (a0 : ByteArray) : Option Bool := if a0.size ≤ 9223372036854775807 then some (nameB a0) else none
theorem hex_IsName.calls (a0 : ByteArray) (r : Bool) (w : World) (h : hex_IsName.f a0 = some r) :
    Calls Tryd.prog 11 #[.string a0] w fun e w' => e = .returned (.bool r) ∧ Below w.heap.size w w' := by
  unfold hex_IsName.f at h
  by_cases hs : a0.size ≤ 9223372036854775807
  · rw [if_pos hs] at h
    obtain rfl := Option.some.inj h
    exact isName_calls a0 w hs
  · rw [if_neg hs] at h; cases h
def hex_Hex.f (a0 : ByteArray) : Option ByteArray := if a0.size ≤ 70368744177000 then some (strOfNums (hexL a0 a0.size)) else none
theorem hex_Hex.calls (a0 : ByteArray) (r : ByteArray) (w : World) (h : hex_Hex.f a0 = some r) :
    Calls Tryd.prog 12 #[.string a0] w fun e w' => e = .returned (.string r) ∧ Below w.heap.size w w' := by
  unfold hex_Hex.f at h
  by_cases hs : a0.size ≤ 70368744177000
  · rw [if_pos hs] at h
    obtain rfl := Option.some.inj h
    exact hex_calls a0 w hs
  · rw [if_neg hs] at h; cases h
def figT (a0 : Int) : Option ByteArray := if -9223372036854775808 ≤ a0 ∧ a0 ≤ 9223372036854775807 then some ⟨(Lib.itoa a0).toArray⟩ else none
theorem figT_calls (a0 : Int) (r : ByteArray) (w : World) (hG : GT w) (h : figT a0 = some r) :
    Calls Tryd.prog 21 #[.int .i64 a0] w fun e w' => e = .returned (.string r) ∧ Below w.heap.size w w' := by
  unfold figT at h
  by_cases hs : -9223372036854775808 ≤ a0 ∧ a0 ≤ 9223372036854775807
  · rw [if_pos hs] at h
    obtain rfl := Option.some.inj h
    exact figures_calls a0 hs.1 hs.2 w hG
  · rw [if_neg hs] at h; cases h
end Go.Proofs.YtldagaiphggnnaaDoor.G
namespace Go.Proofs.YtldagaiphggnnaaDoor.GA
open Go.RowKit Go.Proofs.YtldagaiphggnnaaDoor.G
def hex_Figures.f (a0 : Int) : Option ByteArray := figT a0
theorem hex_Figures.calls (a0 : Int) (r : ByteArray) (w : World) (hG : GT w) (h : hex_Figures.f a0 = some r) :
    Calls Tryd.prog 21 #[.int .i64 a0] w fun e w' => e = .returned (.string r) ∧ Below w.heap.size w w' := figT_calls a0 r w hG h
end Go.Proofs.YtldagaiphggnnaaDoor.GA
namespace Go.Proofs.YtldagaiphggnnaaDoor.GB
open Go.RowKit Go.Proofs.YtldagaiphggnnaaDoor.G
def hex_Figures.f (a0 : Int) : Option ByteArray := figT a0
theorem hex_Figures.calls (a0 : Int) (r : ByteArray) (w : World) (hG : GE w) (h : hex_Figures.f a0 = some r) :
    Calls Tryd.prog 21 #[.int .i64 a0] w fun e w' => e = .returned (.string r) ∧ Below w.heap.size w w' := figT_calls a0 r w hG.gt h
def hex_Whole.f (a0 : ByteArray) : Option (Int × Int × Int) := if a0.size ≤ 281474976710656 then some (wholeV a0) else none
theorem hex_Whole.calls (a0 : ByteArray) (r1 r2 r3 : Int) (w : World) (hG : GE w) (h : hex_Whole.f a0 = some (r1, r2, r3)) :
    Calls Tryd.prog 19 #[.string a0] w fun e w' => e = .returned (.tuple #[.int .i64 r1, .int .i64 r2, .int .i64 r3]) ∧ Below w.heap.size w w' := by
  unfold hex_Whole.f at h
  by_cases hs : a0.size ≤ 281474976710656
  · rw [if_pos hs] at h
    have h := Option.some.inj h
    have := whole_calls a0 w hs hG
    rw [h] at this
    exact this
  · rw [if_neg hs] at h; cases h
end Go.Proofs.YtldagaiphggnnaaDoor.GB
