/- dec.Read as a Lean function for print. -/
import Derived.Test.YtpdihjedcplmnaaDoorGDecL
import Derived.Test.YtpdihjedcplmnaaDoorGDecM
set_option linter.unusedVariables false
set_option linter.unusedSimpArgs false
namespace Go.Proofs.YtpdihjedcplmnaaDoor.G
open Go.RowKit Go.Proofs.YtpdihjedcplmnaaDoorW.PrintWords Go.Proofs.YtpdihjedcplmnaaDoorW.PrintLast Go.Proofs.YtpdihjedcplmnaaDoorW.PrintMore Go.Proofs.YtpdihjedcplmnaaDoor.Q1
def six : ByteArray := ⟨#[48, 48, 48, 48, 48, 48]⟩
/-- The text of the figures of a numeral: six behind its point. -/
def numT (s : ByteArray) (b c d : Int) : ByteArray :=
  s.extract b.toNat c.toNat ++ (if c < d then (s.extract (c + 1).toNat d.toNat ++ ⟨#[48, 48, 48, 48, 48, 48]⟩).extract 0 6 else ((⟨#[]⟩ : ByteArray) ++ ⟨#[48, 48, 48, 48, 48, 48]⟩).extract 0 6)
def minus (s : ByteArray) (a : Int) : Bool := if h : a.toNat < s.size then (((s[a.toNat]'h).toNat : Int) == 45) else false
def readV (s : ByteArray) (a b c d : Int) : Option (Int × Int × Int) :=
  if c = b ∧ d ≤ wrap64 (c + 1) then some (0, 0, 2)
  else if (0 ≤ a ∧ a < s.size ∧ 0 ≤ b ∧ b ≤ c ∧ c ≤ d ∧ d ≤ s.size ∧ s.size ≤ 281474976710656 ∧ (numT s b c d).size ≤ 1125899906842624) ∧ ∀ i, i < (numT s b c d).size → 48 ≤ ((numT s b c d).data.toList.getD i 0).toNat ∧ ((numT s b c d).data.toList.getD i 0).toNat ≤ 57
  then some (resV (digV (numT s b c d) (numT s b c d).size 0 0) (minus s a) d) else none
theorem readV_calls (s : ByteArray) (a b c d r1 r2 r3 : Int) (w : World)
    (hs : ∀ w, Calls Tryd.prog 27 #[.string s] w fun e w' => e = .returned (.tuple #[.int .i64 a, .int .i64 b, .int .i64 c, .int .i64 d]) ∧ Drawn0 w w')
    (h : readV s a b c d = some (r1, r2, r3)) :
    Calls Tryd.prog 15 #[.string s] w fun x w' => x = .returned (.tuple #[.int .i64 r1, .int .i64 r2, .int .i64 r3]) ∧ Below w.heap.size w w' := by
  unfold readV at h
  by_cases hf : c = b ∧ d ≤ wrap64 (c + 1)
  · rw [if_pos hf] at h
    have h := Option.some.inj h
    obtain ⟨rfl, rfl, rfl⟩ : 0 = r1 ∧ 0 = r2 ∧ 2 = r3 := ⟨congrArg (·.1) h, congrArg (·.2.1) h, congrArg (·.2.2) h⟩
    exact read_form s a b c d w hs (by simp [hf.1]) (decide_eq_true hf.2)
  · rw [if_neg hf] at h
    by_cases hg : (0 ≤ a ∧ a < s.size ∧ 0 ≤ b ∧ b ≤ c ∧ c ≤ d ∧ d ≤ s.size ∧ s.size ≤ 281474976710656 ∧ (numT s b c d).size ≤ 1125899906842624) ∧ ∀ i, i < (numT s b c d).size → 48 ≤ ((numT s b c d).data.toList.getD i 0).toNat ∧ ((numT s b c d).data.toList.getD i 0).toNat ≤ 57
    · rw [if_pos hg] at h
      have hr := Option.some.inj h
      obtain ⟨⟨a0, a1, b0, bc, cd, ds, hsz, hTz⟩, hdig⟩ := hg
      have hc : wrap64 (c + 1) = c + 1 := wrapFit (by omega) (by omega)
      have hsg : ∀ h : a.toNat < s.size, (((s[a.toNat]'h).toNat : Int) == 45) = minus s a := fun h => by rw [minus, dif_pos h]
      rw [hc] at hf
      by_cases h3 : c < d
      · have hT : s.extract b.toNat c.toNat ++ (s.extract (c + 1).toNat d.toNat ++ ⟨#[48, 48, 48, 48, 48, 48]⟩).extract 0 6 = numT s b c d := by rw [numT, if_pos h3]
        by_cases h1 : c = b
        · subst h1
          exact read_dot s a c d w hs (decide_eq_false (by omega)) (decide_eq_true h3) b0 bc (by omega) ds hsz hc _ hdig a0 a1 _ hsg hTz r1 r2 r3 hr (by rw [← hT]; simp)
        · exact read_mid s a b c d w hs (by simp [h1]) (decide_eq_true h3) b0 bc (by omega) ds hsz hc _ hdig a0 a1 _ hsg hTz r1 r2 r3 hr hT
      · have hT : s.extract b.toNat c.toNat ++ ((⟨#[]⟩ : ByteArray) ++ ⟨#[48, 48, 48, 48, 48, 48]⟩).extract 0 6 = numT s b c d := by rw [numT, if_neg h3]
        exact read_whole s a b c d w hs (by simp; intro h1; exact hf ⟨h1, by omega⟩) (decide_eq_false h3) b0 bc cd ds hsz hc _ hdig a0 a1 _ hsg hTz r1 r2 r3 hr hT
    · rw [if_neg hg] at h; cases h
end Go.Proofs.YtpdihjedcplmnaaDoor.G
