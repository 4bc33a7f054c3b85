/- Package arith: a variable that is looked for by halves, walked. -/
import Derived.Test.YtambnodgfhlpfaaDoorJAV
import Derived.Test.YtambnodgfhlpfaaDoorJShelf
import Derived.WalkLawsBesides
import Derived.Outline
import Derived.IntWalk
import Derived.RegionTactic
import Derived.BigRegion
set_option linter.unusedVariables false
set_option linter.unusedSimpArgs false
namespace Go.Proofs.YtambnodgfhlpfaaDoor.A
open Go.RowKit Go.Proofs.YtambnodgfhlpfaaDoorW.PrintWords Go.Proofs.YtambnodgfhlpfaaDoorW.PrintLast Go.Proofs.YtambnodgfhlpfaaDoor.G Go.Proofs.YtambnodgfhlpfaaDoor.QA

set_option maxHeartbeats 1000000 in
theorem cmp_calls (n v t : ByteArray) (w : World) :
    Calls Tryd.prog 43 #[.agg #[.string n, .string v], .string t] w fun e w' => e = .returned (.int .i64 (cmpB n t)) ∧ Below w.heap.size w w' := by
  go_enter Tryd.func43, Tryd.ntmps43
  go_wp2_with fail
  refine (Tryd.strings_Compare n t _).mono ?_
  rintro e w' ⟨rfl, rfl⟩
  go_wp2_with fail
  go_ret
  exact ⟨rfl, (Below.refl _ _).alloc (Nat.le_refl _) _⟩

set_option maxHeartbeats 4000000 in
set_option maxRecDepth 100000 in
theorem search_calls (A : Option Addr) (c : Nat) (l : Vars) (t : ByteArray) (w : World) (hr : Kd.C k39 w A l.length l) (hl : l.length ≤ 140737488355328) :
    Calls Tryd.prog 42 #[.slice A l.length c, .string t, .func (.func 43) #[] #[]] w fun e w' => e = .returned (.tuple #[.int .i64 (placeV l t), .bool (isAt l t)]) ∧ Below w.heap.size w w' := by
  have HR := Lib.hid hr; clear hr
  go_enter Tryd.func42, Tryd.ntmps42
  go_wp2_with fail
  go_loopw [9, 10] (fun v9 v10 wr => ∃ a b : Nat, a ≤ b ∧ b ≤ l.length ∧ v9 = .int .i64 a ∧ v10 = .int .i64 b ∧ Aside0 (placeV l t = bs l t a b) ∧ Aside0 (Below w.heap.size w wr)) (fun v9 v10 _ => (intOf v10).toNat - (intOf v9).toNat)
  case atStart => exact ⟨0, l.length, Nat.zero_le _, Nat.le_refl _, rfl, rfl, ⟨rfl⟩, ⟨Below.refl _ _⟩⟩
  case round =>
    obtain ⟨a, b, hab, hbl, rfl, rfl, HE, HB⟩ := hrel
    by_cases hlt : a < b
    · obtain ⟨h, hh⟩ : ∃ h, h = (a + b) / 2 := ⟨_, rfl⟩
      have e1 : ((a : Int) + (b : Int)) / 2 = (h : Int) := by omega
      have h0 : (0 : Int) ≤ (h : Int) := by omega
      have h1 : (h : Int) < (l.length : Int) := by omega
      have hal : a ≤ h ∧ h < b := by omega
      have HH := Aside0.mk hh; clear hh
      have HAL := Aside0.mk hal; clear hal
      have hC := Kd.C_below HR.out HB.out
      obtain ⟨ad, rfl, hx4, hx5⟩ := at_T39 hC (h : Int) h0 h1
      rw [Int.toNat_natCast] at hx4 hx5
      clear hC
      have b0 : (0 : Int) ≤ (a : Int) := by omega
      have b1 : (0 : Int) ≤ (b : Int) := by omega
      have b2 : (a : Int) + (b : Int) ≤ 281474976710656 := by omega
      have b3 : decide ((a : Int) < (b : Int)) = true := decide_eq_true (by omega)
      by_cases hc : cmpB (rd_T39 l (h : Int)).f0 t < 0
      · have HS := Aside0.mk (show placeV l t = bs l t (h + 1) b by rw [HE.out, bs_low hlt (by rw [← HH.out]; exact hc), HH.out])
        go_wp2_with fail
        refine (cmp_calls _ _ _ _).mono ?_
        rintro e w' ⟨rfl, hb⟩
        have HB' := Aside0.mk (below_then HB.out HB.out.size hb)
        clear hb HE
        generalize cmpB (rd_T39 l (h : Int)).f0 t = cv at hc ⊢
        go_wp2_with fail
        go_roundw
        case rel => exact ⟨h + 1, b, by have := HAL.out; omega, hbl, by go_num, rfl, HS, HB'⟩
        case measure => have := HAL.out; simp [intOf]; omega
      · have HS := Aside0.mk (show placeV l t = bs l t a h by rw [HE.out, bs_high hlt (by rw [← HH.out]; exact hc), HH.out])
        go_wp2_with fail
        refine (cmp_calls _ _ _ _).mono ?_
        rintro e w' ⟨rfl, hb⟩
        have HB' := Aside0.mk (below_then HB.out HB.out.size hb)
        clear hb HE
        generalize cmpB (rd_T39 l (h : Int)).f0 t = cv at hc ⊢
        go_wp2_with fail
        go_roundw
        case rel => exact ⟨a, h, by have := HAL.out; omega, by have := HAL.out; omega, rfl, rfl, HS, HB'⟩
        case measure => have := HAL.out; simp [intOf]; omega
    · have HP := Aside0.mk (show placeV l t = a by rw [HE.out, bs_end hlt])
      have b3 : decide ((a : Int) < (b : Int)) = false := decide_eq_false (by omega)
      by_cases hn : a < l.length
      · have h0 : (0 : Int) ≤ (a : Int) := by omega
        have h1 : (a : Int) < (l.length : Int) := by omega
        have b4 : decide ((a : Int) < (l.length : Int)) = true := decide_eq_true (by omega)
        have hC := Kd.C_below HR.out HB.out
        obtain ⟨ad, rfl, hx4, hx5⟩ := at_T39 hC (a : Int) h0 h1
        rw [Int.toNat_natCast] at hx4 hx5
        clear hC
        have HI := Aside0.mk (show isAt l t = (cmpB (rd_T39 l (a : Int)).f0 t == 0) by
          unfold isAt; rw [HP.out, decide_eq_true hn]; unfold nameAt; by_cases hz : cmpB (rd_T39 l (a : Int)).f0 t = 0 <;> simp [hz])
        go_wp2_with fail
        refine (cmp_calls _ _ _ _).mono ?_
        rintro e w' ⟨rfl, hb⟩
        have HB' := Aside0.mk (below_then HB.out HB.out.size hb)
        clear hb HE
        go_wp2_with fail
        go_ret2
        exact ⟨by rw [HP.out, HI.out]; rfl, HB'.out⟩
      · have b4 : decide ((a : Int) < (l.length : Int)) = false := decide_eq_false (by omega)
        have HI := Aside0.mk (show isAt l t = false by unfold isAt; rw [HP.out, decide_eq_false hn]; rfl)
        go_wp2_with fail
        go_ret2
        exact ⟨by rw [HP.out, HI.out]; rfl, HB.out⟩
set_option maxHeartbeats 1000000 in
theorem place_calls (A : Option Addr) (c : Nat) (l : Vars) (t : ByteArray) (w : World) (hr : Kd.C k39 w A l.length l) (hl : l.length ≤ 140737488355328) :
    Calls Tryd.prog 27 #[.slice A l.length c, .string t] w fun e w' => e = .returned (.tuple #[.int .i64 (placeV l t), .bool (isAt l t)]) ∧ Below w.heap.size w w' := by
  have HR := Lib.hid hr; clear hr
  go_enter Tryd.func27, Tryd.ntmps27
  go_wp2_with fail
  refine (search_calls A c l t _ HR.out hl).mono ?_
  rintro e w' ⟨rfl, hb⟩
  have HB := Aside0.mk hb; clear hb
  go_wp2_with fail
  go_ret2
  exact ⟨rfl, HB.out⟩
set_option maxHeartbeats 1000000 in
set_option maxRecDepth 100000 in
theorem find_calls (A : Option Addr) (c : Nat) (l : Vars) (t : ByteArray) (w : World) (hr : Kd.C k39 w A l.length l) (hl : l.length ≤ 140737488355328) :
    Calls Tryd.prog 14 #[.slice A l.length c, .string t] w fun e w' => e = .returned (.tuple #[.string (findV l t), .bool (isAt l t)]) ∧ Below w.heap.size w w' := by
  have HR := Lib.hid hr; clear hr
  cases ht : isAt l t with
  | true =>
    have hlt : placeV l t < l.length := by unfold isAt at ht; simp at ht; exact ht.1
    have h0 : (0 : Int) ≤ (placeV l t : Int) := by omega
    have h1 : (placeV l t : Int) < (l.length : Int) := by omega
    have HF := Aside0.mk (show findV l t = (rd_T39 l (placeV l t : Int)).f1 by unfold findV; rw [if_pos ht]; rfl)
    have HT := Lib.hid ht; clear ht
    go_enter Tryd.func14, Tryd.ntmps14
    go_wp2_with fail
    refine (place_calls A c l t _ HR.out hl).mono ?_
    rintro e w' ⟨rfl, hb⟩
    rw [HT.out]
    have HB := Aside0.mk hb; clear hb
    have hC := Kd.C_below HR.out HB.out
    obtain ⟨ad, rfl, hx4, hx5⟩ := at_T39 hC (placeV l t : Int) h0 h1
    rw [Int.toNat_natCast] at hx4 hx5
    clear hC
    go_wp2_with fail
    go_ret2
    exact ⟨by rw [HF.out]; rfl, HB.out⟩
  | false =>
    have HF := Aside0.mk (show findV l t = ⟨#[]⟩ by unfold findV; rw [if_neg (by rw [ht]; decide)])
    have HT := Lib.hid ht; clear ht
    go_enter Tryd.func14, Tryd.ntmps14
    go_wp2_with fail
    refine (place_calls A c l t _ HR.out hl).mono ?_
    rintro e w' ⟨rfl, hb⟩
    rw [HT.out]
    have HB := Aside0.mk hb; clear hb
    go_wp2_with fail
    go_ret2
    exact ⟨by rw [HF.out]; rfl, HB.out⟩
end Go.Proofs.YtambnodgfhlpfaaDoor.A
