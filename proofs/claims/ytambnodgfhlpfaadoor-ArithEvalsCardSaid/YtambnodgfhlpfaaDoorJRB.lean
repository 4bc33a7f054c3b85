/- Package arith: yes, two, down and the table of marks, walked. -/
import Derived.Test.YtambnodgfhlpfaaDoorJRA
import Derived.Test.YtambnodgfhlpfaaDoorJAD
set_option linter.unusedVariables false
set_option linter.unusedSimpArgs false
namespace Go.Proofs.YtambnodgfhlpfaaDoor.A
open Go.RowKit Go.Proofs.YtambnodgfhlpfaaDoorW.PrintWords Go.Proofs.YtambnodgfhlpfaaDoorW.PrintLast Go.Proofs.YtambnodgfhlpfaaDoor.G

/-- What is given up with. -/
def fault (e : Int) : PanicEntry := { v := .iface 48 (.agg #[.int .i64 e]), recovered := false }
theorem yes_calls (b : Bool) (w : World) : Calls Tryd.prog 40 #[.bool b] w fun e w' => e = .returned (.int .i64 (yesV b)) ∧ w = w' := by
  cases b <;> (go_enter Tryd.func40, Tryd.ntmps40; go_wp2_with fail; go_ret; exact ⟨rfl, rfl⟩)
set_option maxHeartbeats 2000000 in
set_option maxRecDepth 100000 in
theorem down_yes (g : Nat) (s : ByteArray) (p d : Nat) (w : World) (hd : d < 30) (h : Rd g s p d w w) :
    Calls Tryd.prog 52 #[.pointer (some ⟨g, 0, none⟩)] w fun e w' => e = .returned (.tuple #[]) ∧ Rd g s p (d + 1) w w' := by
  have h2 := h.deep
  have hf := h.fr 2
  have ht : decide ((d : Int) ≥ 30) = false := decide_eq_false (by omega)
  have hw1 : IntKind.i64.wrap ((d : Int) + 1) = ((d + 1 : Nat) : Int) := by rw [IntWalk.i64_in _ (by omega)]; omega
  have HM := Aside0.mk (h.dive (d + 1))
  clear h
  go_enter Tryd.func52, Tryd.ntmps52
  go_wp2_with fail
  go_end0
  exact ⟨rfl, HM.out⟩
set_option maxHeartbeats 2000000 in
set_option maxRecDepth 100000 in
theorem down_no (g : Nat) (s : ByteArray) (p d : Nat) (w : World) (hd : 30 ≤ d) (hm : d ≤ 1000) (h : Rd g s p d w w) :
    Calls Tryd.prog 52 #[.pointer (some ⟨g, 0, none⟩)] w fun e w' => e = .panicked [fault 7] ∧ w = w' := by
  have h2 := h.deep
  have ht : decide ((d : Int) ≥ 30) = true := decide_eq_true (by omega)
  clear h
  go_enter Tryd.func52, Tryd.ntmps52
  go_wp2_with fail
  exact ⟨rfl, rfl, rfl⟩

set_option maxHeartbeats 4000000 in
set_option maxRecDepth 100000 in
theorem two_zero (m : Bop) (a b : Int) (w : World) (hm : m = .div ∨ m = .mod) (hb : b = 0) :
    Calls Tryd.prog 41 #[.string m.str, .int .i64 a, .int .i64 b] w fun e w' => e = .panicked [fault 4] ∧ w = w' := by
  subst hb
  rcases hm with rfl | rfl
  all_goals
    (unfold Bop.str
     go_enter Tryd.func41, Tryd.ntmps41
     go_wp2_with fail
     exact ⟨rfl, rfl, rfl⟩)
set_option maxHeartbeats 8000000 in
set_option maxRecDepth 100000 in
theorem two_calls (m : Bop) (a b v : Int) (w : World) (a0 : -9223372036854775808 ≤ a) (a1 : a ≤ 9223372036854775807) (b0 : -9223372036854775808 ≤ b) (b1 : b ≤ 9223372036854775807) (h : twoV m a b = .ok v) :
    Calls Tryd.prog 41 #[.string m.str, .int .i64 a, .int .i64 b] w fun e w' => e = .returned (.int .i64 v) ∧ w = w' := by
  cases m
  all_goals simp only [twoV] at h
  case div => 
    by_cases hb : b = 0
    · rw [if_pos hb] at h; cases h
    · rw [if_neg hb] at h
      obtain rfl := Except.ok.inj h
      have hb1 : (b == 0) = false := by simpa using hb
      unfold Bop.str
      go_enter Tryd.func41, Tryd.ntmps41
      go_wp2_with fail
      go_ret
      exact ⟨rfl, rfl⟩
  case mod => 
    by_cases hb : b = 0
    · rw [if_pos hb] at h; cases h
    · rw [if_neg hb] at h
      obtain rfl := Except.ok.inj h
      have hb1 : (b == 0) = false := by simpa using hb
      unfold Bop.str
      go_enter Tryd.func41, Tryd.ntmps41
      go_wp2_with fail
      go_ret
      exact ⟨rfl, rfl⟩
  case add | sub | mul =>
    obtain rfl := Except.ok.inj h
    unfold Bop.str
    go_enter Tryd.func41, Tryd.ntmps41
    go_wp2_with fail
    go_ret
    exact ⟨rfl, rfl⟩
  all_goals
    obtain rfl := Except.ok.inj h
    unfold Bop.str
    go_enter Tryd.func41, Tryd.ntmps41
    go_wp2_with (go_at_call 40; refine (yes_calls _ _).mono ?_; rintro e w' ⟨rfl, rfl⟩)
    go_ret
    exact ⟨rfl, rfl⟩
end Go.Proofs.YtambnodgfhlpfaaDoor.A
