/- match.ends: with more rounds the answer stays. -/
import Derived.Test.YthnfmpieoondaaaJGH
set_option linter.unusedVariables false
set_option linter.unusedSimpArgs false
namespace Go.Proofs.Ythnfmpieoondaaa.G
open Go.RowKit Go.Proofs.YthnfmpieoondaaaW.PrintWords Go.Proofs.YthnfmpieoondaaaW.PrintLast Go.Proofs.YthnfmpieoondaaaW.PrintMore Go.Proofs.Ythnfmpieoondaaa.QA
theorem endsL_mono (l : List S55) (up : List Int) (s : ByteArray) : ∀ k out sw, LeO (endsL l up s k out sw) (endsL l up s (k + 1) out sw)
  | 0, _, _ => fun r h => by simp [endsL] at h
  | k + 1, out, sw => by
    have ih := endsL_mono l up s k
    unfold endsL
    cases sw.2.getLast? with
    | none => exact LeO.refl _
    | some x => exact LeO.ite (LeO.ite (ih _ _) (LeO.bind (LeO.refl _) fun mv => LeO.bind (LeO.refl _) fun sw' => ih _ _)) (LeO.refl _)
theorem match_ends.mono : ∀ l0 s a k, LeO (match_ends.f k l0 s a) (match_ends.f (k + 1) l0 s a) := by
  intro l0 s a k
  unfold match_ends.f
  exact LeO.ite (LeO.bind (match_parents.mono l0 k) fun up => LeO.ite (LeO.bind (LeO.refl _) fun sw => endsL_mono _ _ _ k _ _) (LeO.refl _)) (LeO.refl _)
end Go.Proofs.Ythnfmpieoondaaa.G
