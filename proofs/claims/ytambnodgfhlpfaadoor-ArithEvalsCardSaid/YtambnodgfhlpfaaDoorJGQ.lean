/- What a call of the document's 'or' comes to, taken as given: the recursion is closed in a later text. -/
import Derived.Test.YtambnodgfhlpfaaDoorJQGx1
set_option linter.unusedVariables false
namespace Go.Proofs.YtambnodgfhlpfaaDoor.G
open Go.RowKit Go.Proofs.YtambnodgfhlpfaaDoorW.PrintWords Go.Proofs.YtambnodgfhlpfaaDoorW.PrintLast Go.Proofs.YtambnodgfhlpfaaDoorW.PrintMore Go.Proofs.YtambnodgfhlpfaaDoor.QA Go.Proofs.YtambnodgfhlpfaaDoor.QG
/-- A function that tells what calls of 'or' come to, by rounds. -/
structure OrG where
  f : Nat → ByteArray → Int → Int → List S39 → Int → Int → Bool → Option (Int × ByteArray × Int × Int × Int × Int)
  mono : ∀ a0 a1 a2 a3 a4 a5 a6 k, LeO (f k a0 a1 a2 a3 a4 a5 a6) (f (k + 1) a0 a1 a2 a3 a4 a5 a6)
  calls : ∀ (k : Nat) (g : Nat) (s0_0 : ByteArray) (s0_1 : Int) (s0_2 : Int) (s0_3 : List (S39)) (s0_4 : Int) (s0_5 : Int) (a1 : Bool) (r1 : Int) (r2 : ByteArray) (r3 : Int) (r4 : Int) (r5 : Int) (r6 : Int) (w0 w : World) (hI : IsS67 w0 w g s0_0 s0_1 s0_2 s0_3 s0_4 s0_5) (hB : Below w0.heap.size w0 w) (h : f k s0_0 s0_1 s0_2 s0_3 s0_4 s0_5 a1 = some (r1, r2, r3, r4, r5, r6)),
    Calls Tryd.prog 32 #[.pointer (some ⟨g, 0, none⟩), .bool a1] w fun e w' => e = .returned (.int .i64 r1) ∧ IsS67 w0 w' g r2 r3 r4 s0_3 r5 r6 ∧ Below w0.heap.size w0 w' ∧ KeepBut w w' g none
variable [Inhabited OrG]
def eor.f (k : Nat) (a0 : ByteArray) (a1 : Int) (a2 : Int) (a3 : List S39) (a4 : Int) (a5 : Int) (a6 : Bool) : Option (Int × ByteArray × Int × Int × Int × Int) := (default : OrG).f k a0 a1 a2 a3 a4 a5 a6
theorem eor.mono : ∀ a0 a1 a2 a3 a4 a5 a6 k, LeO (eor.f k a0 a1 a2 a3 a4 a5 a6) (eor.f (k + 1) a0 a1 a2 a3 a4 a5 a6) := (default : OrG).mono
theorem eor.calls (k : Nat) (g : Nat) (s0_0 : ByteArray) (s0_1 : Int) (s0_2 : Int) (s0_3 : List (S39)) (s0_4 : Int) (s0_5 : Int) (a1 : Bool) (r1 : Int) (r2 : ByteArray) (r3 : Int) (r4 : Int) (r5 : Int) (r6 : Int) (w0 w : World) (hI : IsS67 w0 w g s0_0 s0_1 s0_2 s0_3 s0_4 s0_5) (hB : Below w0.heap.size w0 w) (h : eor.f k s0_0 s0_1 s0_2 s0_3 s0_4 s0_5 a1 = some (r1, r2, r3, r4, r5, r6)) :
    Calls Tryd.prog 32 #[.pointer (some ⟨g, 0, none⟩), .bool a1] w fun e w' => e = .returned (.int .i64 r1) ∧ IsS67 w0 w' g r2 r3 r4 s0_3 r5 r6 ∧ Below w0.heap.size w0 w' ∧ KeepBut w w' g none := (default : OrG).calls k g s0_0 s0_1 s0_2 s0_3 s0_4 s0_5 a1 r1 r2 r3 r4 r5 r6 w0 w hI hB h
end Go.Proofs.YtambnodgfhlpfaaDoor.G
