/- dragomanref06.from1, walked whole. -/
import Derived.Test.YthnfmpieoondaaaJFR
set_option linter.unusedVariables false
set_option linter.unusedSimpArgs false
namespace Go.Proofs.Ythnfmpieoondaaa.G
open Go.RowKit Go.Proofs.YthnfmpieoondaaaW.PrintWords Go.Proofs.YthnfmpieoondaaaW.PrintLast Go.Proofs.YthnfmpieoondaaaW.PrintMore Go.Proofs.Ythnfmpieoondaaa.QA Go.Proofs.Ythnfmpieoondaaa.QB
/-- What dragomanref06.from1 computes. -/
def ref06_from1.f (k : Nat) (l0 : List S55) (s : ByteArray) (a : Int) : Option (List Bool) :=
  if 0 < l0.length ∧ l0.length * (s.size + 1) ≤ 1000000 ∧ s.size ≤ 100000 ∧ l0.length ≤ 100000 ∧ 0 ≤ a then
    from1L l0 s k (List.replicate (s.size + 1) false) (List.replicate (l0.length * (s.size + 1) * 2) false) [⟨(l0.length : Int) - 1, false, a⟩]
  else none
theorem from1L_mono (l : List S55) (s : ByteArray) : ∀ k out seen wait, LeO (from1L l s k out seen wait) (from1L l s (k + 1) out seen wait)
  | 0, _, _, _ => fun r h => by simp [from1L] at h
  | k + 1, out, seen, wait => by
    have ih := from1L_mono l s k
    unfold from1L
    cases wait.getLast? with
    | none => exact LeO.refl _
    | some x => exact LeO.ite (LeO.ite (ih _ _ _) (LeO.ite (LeO.ite (ih _ _ _) (LeO.bind (dragomanref06_beyond.mono l _ _ _ k) fun ys => LeO.ite (ih _ _ _) (LeO.refl _))) (LeO.bind (dragomanref06_within.mono l s _ _ _ k) fun ys => LeO.ite (ih _ _ _) (LeO.refl _)))) (LeO.refl _)
theorem ref06_from1.mono : ∀ l0 s a k, LeO (ref06_from1.f k l0 s a) (ref06_from1.f (k + 1) l0 s a) := by
  intro l0 s a k
  unfold ref06_from1.f
  exact LeO.ite (from1L_mono l0 s k _ _ _) (LeO.refl _)
end Go.Proofs.Ythnfmpieoondaaa.G
