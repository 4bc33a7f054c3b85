/- dec.Read for print. -/
import Derived.Test.YtpdihjedcplmnaaDoorGDecN
set_option linter.unusedVariables false
namespace Go.Proofs.YtpdihjedcplmnaaDoor.G
open Go.RowKit Go.Proofs.YtpdihjedcplmnaaDoorW.PrintWords Go.Proofs.YtpdihjedcplmnaaDoorW.PrintLast Go.Proofs.YtpdihjedcplmnaaDoor.Q1
def dec_Read.f (s : ByteArray) : Option (Int × Int × Int) := (dec_span.f (3 * s.size + 20) s).bind fun t => readV s t.1 t.2.1 t.2.2.1 t.2.2.2
theorem dec_Read.calls (s : ByteArray) (r1 r2 r3 : Int) (w : World) (h : dec_Read.f s = some (r1, r2, r3)) :
    Calls Tryd.prog 15 #[.string s] w fun x w' => x = .returned (.tuple #[.int .i64 r1, .int .i64 r2, .int .i64 r3]) ∧ Below w.heap.size w w' := by
  unfold dec_Read.f at h
  cases hq : dec_span.f (3 * s.size + 20) s with
  | none => rw [hq] at h; cases h
  | some t =>
    obtain ⟨a, b, c, d⟩ := t
    rw [hq] at h
    exact readV_calls s a b c d r1 r2 r3 w (fun w => dec_span.calls _ s a b c d w hq) h
end Go.Proofs.YtpdihjedcplmnaaDoor.G
