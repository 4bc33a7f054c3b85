/- Texts of this seat, put together: each part tells above it what it proves and on what conditions. -/
import Derived.Test.YtgodmbcebpbdiaaDoorXFl
import Derived.Test.YtgodmbcebpbdiaaDoorXMb
import Derived.Deep.CutBlock
import Derived.StillTailTactics
/- The program's float, walked. -/
section
set_option linter.unusedVariables false
set_option linter.unusedSimpArgs false
set_option maxRecDepth 100000
namespace Go.Proofs.YtgodmbcebpbdiaaDoor.G
open Go.RowKit Go.Proofs.YtgodmbcebpbdiaaDoorW.PrintWords Go.Proofs.YtgodmbcebpbdiaaDoorW.PrintLast
open Go.Proofs.YtgodmbcebpbdiaaDoor.FL

theorem run_bits (b : Nat) (w : World) : (callFunc 48 #[.float .f64 b]).run Tryd.prog w = .ok (.value (.int .u64 b)) w := by
  rw [run_callFunc_extern Tryd.func48 (by kernel_rfl) (by kernel_rfl) (by kernel_rfl) (e := Extern.MathFloatBits.float64bits) (by kernel_rfl)]
  rfl
set_option maxHeartbeats 4000000 in
theorem dfloat_nan (b : Nat) (w : World) (h : (FloatKind.f64.format.order b b != some .eq) = true) :
    Calls Tryd.prog 24 #[.float .f64 b] w fun x w' => x = .returned (.tuple #[.int .i64 0, .int .i64 5]) ∧ Below w.heap.size w w' := by
  go_enter_defers Tryd.func24, Tryd.ntmps24
  go_wp2_with fail
  refine (wrong_yes _ _).mono ?_
  rintro e w' ⟨rfl, rfl⟩
  refine leaves_cons (f := 34) (args := #[.pointer (some ⟨w.heap.size, 0, none⟩), .pointer (some ⟨w.heap.size + 1, 0, none⟩)]) (by simp) (by simp [go_sem]) ?_
  refine (caught_yes w.heap.size (w.heap.size + 1) 0 0 5 [] _ (by simp [go_sem]) (by simp [go_sem]) (by simp [go_sem]) (by simp [go_sem]) (by omega)).mono ?_
  rintro e u' w'' ⟨rfl, rfl, rfl⟩
  simp [Leaves, settle, fault, results, Tryd.results24, go_sem]
  exact below_drew (below_alloc (((Below.refl _ _).alloc (Nat.le_refl _) _).alloc (by simp) _) _)
set_option maxHeartbeats 4000000 in
theorem dfloat_far (b : Nat) (w : World) (h : (FloatKind.f64.format.order b b != some .eq) = false)
    (h2 : (FloatKind.f64.format.order b 4816244402031689728 == some .gt) = true ∨ ((FloatKind.f64.format.order b 4816244402031689728 == some .gt) = false ∧ (FloatKind.f64.format.order b 14039616438886465536 == some .lt) = true)) :
    Calls Tryd.prog 24 #[.float .f64 b] w fun x w' => x = .returned (.tuple #[.int .i64 0, .int .i64 3]) ∧ Below w.heap.size w w' := by
  rcases h2 with h2 | ⟨h2, h3⟩
  all_goals
    go_enter_defers Tryd.func24, Tryd.ntmps24
    go_wp2_with fail
    refine (wrong_no _ _).mono ?_
    rintro e w' ⟨rfl, rfl⟩
    go_wp2_with fail
    refine (wrong_yes _ _).mono ?_
    rintro e w' ⟨rfl, rfl⟩
    refine leaves_cons (f := 34) (args := #[.pointer (some ⟨w.heap.size, 0, none⟩), .pointer (some ⟨w.heap.size + 1, 0, none⟩)]) (by simp) (by simp [go_sem]) ?_
    refine (caught_yes w.heap.size (w.heap.size + 1) 0 0 3 [] _ (by simp [go_sem]) (by simp [go_sem]) (by simp [go_sem]) (by simp [go_sem]) (by omega)).mono ?_
    rintro e u' w'' ⟨rfl, rfl, rfl⟩
    simp [Leaves, settle, fault, results, Tryd.results24, go_sem]
    exact below_drew (below_alloc (((Below.refl _ _).alloc (Nat.le_refl _) _).alloc (by simp) _) _)
theorem and_mask (a k : Nat) (h : a < 18446744073709551616) (hk : 2 ^ k - 1 < 18446744073709551616) : Go.bits .and .u64 (a : Int) ((2 ^ k - 1 : Nat) : Int) = ((a % 2 ^ k : Nat) : Int) := by
  rw [bits_and_u64_nat a _ h hk, Nat.and_two_pow_sub_one_eq_mod]
theorem or_top (a : Nat) (h : a < 4503599627370496) : Go.bits .or .u64 (a : Int) 4503599627370496 = ((4503599627370496 + a : Nat) : Int) := by
  have h1 := bits_or_u64_nat a 4503599627370496 (by omega) (by decide)
  have h2 : a ||| 4503599627370496 = 4503599627370496 + a := by
    have := Nat.shiftLeft_add_eq_or_of_lt (i := 52) (b := a) h 1
    rw [Nat.or_comm]
    exact this.symm
  rw [h2] at h1
  exact h1
set_option maxHeartbeats 4000000 in
theorem joined_high (hi lo : Nat) (sg : Bool) (w : World) (h : hi ≠ 0) :
    Calls Tryd.prog 39 #[.int .u64 hi, .int .u64 lo, .bool sg] w fun x w' => x = .panicked [fault 3] ∧ w = w' := by
  have c1 : ((hi : Int) != 0) = true := bne_iff_ne.2 (by omega)
  cases sg with
  | true =>
    go_enter Tryd.func39, Tryd.ntmps39
    go_wp2_with fail
    refine (wrong_yes _ _).mono ?_
    rintro e w' ⟨rfl, rfl⟩
    exact ⟨rfl, rfl, rfl⟩
  | false =>
    go_enter Tryd.func39, Tryd.ntmps39
    go_wp2_with fail
    refine (wrong_yes _ _).mono ?_
    rintro e w' ⟨rfl, rfl⟩
    exact ⟨rfl, rfl, rfl⟩
open R2 (toldN) in
theorem told_joined (q : Nat) (b : Bool) : toldN b (q : Int) = orOver (joinV q b) := by
  unfold toldN joinV
  cases b with
  | true =>
    rw [if_pos rfl, if_pos rfl]
    by_cases h : q ≤ 9223372036854775808
    · rw [if_neg (by omega), if_pos h]; rfl
    · rw [if_pos (by omega), if_neg h]; rfl
  | false =>
    rw [if_neg Bool.false_ne_true, if_neg Bool.false_ne_true]
    by_cases h : q ≤ 9223372036854775807
    · rw [if_neg (by omega), if_pos h]; rfl
    · rw [if_pos (by omega), if_neg h]; rfl
/-- A number of two words, moved down by less than a word. -/
theorem two_shift (mh ml p : Nat) (hp : p < 64) (hp1 : 1 ≤ p) (hml : ml < 18446744073709551616) :
    ∃ vl, vl < 18446744073709551616 ∧ (mh * 18446744073709551616 + ml) / 2 ^ p = mh / 2 ^ p * 18446744073709551616 + vl ∧
      Go.bits .or .u64 (IntKind.u64.wrap ((mh : Int) * 2 ^ (64 - p))) ((ml : Int) / 2 ^ p) = (vl : Int) := by
  have e64 : (18446744073709551616 : Nat) = 2 ^ (64 - p) * 2 ^ p := by rw [← Nat.pow_add, show 64 - p + p = 64 by omega]
  have hP := Nat.two_pow_pos p
  have hQ := Nat.two_pow_pos (64 - p)
  have hc : ml / 2 ^ p < 2 ^ (64 - p) := (Nat.div_lt_iff_lt_mul hP).2 (by rw [← e64]; exact hml)
  have hx : mh % 2 ^ p < 2 ^ p := Nat.mod_lt _ hP
  have hvl : (mh % 2 ^ p) * 2 ^ (64 - p) + ml / 2 ^ p < 18446744073709551616 := by
    have h1 : (mh % 2 ^ p + 1) * 2 ^ (64 - p) ≤ 2 ^ p * 2 ^ (64 - p) := Nat.mul_le_mul_right _ hx
    rw [Nat.add_mul, Nat.one_mul, Nat.mul_comm (2 ^ p)] at h1
    rw [← e64] at h1
    omega
  refine ⟨(mh % 2 ^ p) * 2 ^ (64 - p) + ml / 2 ^ p, hvl, ?_, ?_⟩
  · have h1 : mh * 18446744073709551616 + ml = mh * 2 ^ (64 - p) * 2 ^ p + ml := by rw [Nat.mul_assoc, ← e64]
    rw [h1, Nat.mul_comm (mh * 2 ^ (64 - p)) (2 ^ p), Nat.mul_add_div hP]
    have h2 : mh * 2 ^ (64 - p) = mh / 2 ^ p * 18446744073709551616 + (mh % 2 ^ p) * 2 ^ (64 - p) := by
      conv => lhs; rw [← Nat.div_add_mod mh (2 ^ p)]
      rw [Nat.add_mul, Nat.mul_right_comm, Nat.mul_comm (2 ^ p) (2 ^ (64 - p)), ← e64, Nat.mul_comm]
    rw [h2, Nat.add_assoc]
  · have h1 : IntKind.u64.wrap ((mh : Int) * 2 ^ (64 - p)) = (((mh % 2 ^ p) * 2 ^ (64 - p) : Nat) : Int) := by
      rw [show ((mh : Int) * 2 ^ (64 - p)) = ((mh * 2 ^ (64 - p) : Nat) : Int) from by rw [Int.natCast_mul, Int.natCast_pow]; rfl]
      rw [R2.u64_mod, show (18446744073709551616 : Int) = ((2 ^ p * 2 ^ (64 - p) : Nat) : Int) by rw [Nat.mul_comm, ← e64]; rfl, ← Int.natCast_emod, Nat.mul_mod_mul_right]
    have h2 : ((ml : Int) / 2 ^ p) = ((ml / 2 ^ p : Nat) : Int) := by rw [Int.natCast_ediv, Int.natCast_pow]; rfl
    rw [h1, h2, bits_or_u64_nat _ _ (Nat.lt_of_le_of_lt (Nat.le_add_right _ _) hvl) (Nat.lt_of_le_of_lt (Nat.le_add_left _ _) hvl)]
    have h3 := Nat.shiftLeft_add_eq_or_of_lt (i := 64 - p) (b := ml / 2 ^ p) hc (mh % 2 ^ p)
    rw [Nat.shiftLeft_eq] at h3
    rw [h3]
set_option maxHeartbeats 8000000 in
theorem dfloat_walk (b E fr m e p : Nat) (sg : Bool) (w : World) (r : Int × Int) (h : (FloatKind.f64.format.order b b != some .eq) = false)
    (h2 : (FloatKind.f64.format.order b 4816244402031689728 == some .gt) = false) (h3 : (FloatKind.f64.format.order b 14039616438886465536 == some .lt) = false)
    (hsg : ((b : Int) / 9223372036854775808 != 0) = sg) (hE : Go.bits .and .u64 ((b : Int) / 4503599627370496) 2047 = (E : Int)) (hfr : Go.bits .and .u64 (b : Int) 4503599627370495 = (fr : Int))
    (hor : Go.bits .or .u64 (fr : Int) 4503599627370496 = ((4503599627370496 + fr : Nat) : Int))
    (V : Nat) (hVd : m * 1000000 / 2 ^ p = V) (hR : r = R2.toldN sg (V : Int)) (hE7 : E < 2047) (hm : m = if E = 0 then fr else 4503599627370496 + fr) (hp : (p : Int) = 1074 - ((E - 1 : Nat) : Int)) (hp5 : 1 ≤ p) (hm64 : m < 9007199254740992) :
    Calls Tryd.prog 24 #[.float .f64 b] w fun x w' => x = .returned (.tuple #[.int .i64 r.1, .int .i64 r.2]) ∧ Below w.heap.size w w' := by
  have hfb := run_bits b
  have HM := Lib.hid hm; clear hm
  have HV := Lib.hid hVd.symm; clear hVd
  have HR := Lib.hid hR; clear hR
  have HP := Lib.hid hp; clear hp
  go_enter_defers Tryd.func24, Tryd.ntmps24
  go_wp2_with fail
  refine (wrong_no _ _).mono ?_
  rintro e w' ⟨rfl, rfl⟩
  go_wp2_with fail
  refine (wrong_no _ _).mono ?_
  rintro e w' ⟨rfl, rfl⟩
  go_upto_if 34 with fail
  go_cut [6, 7] from 35 to 38 (fun v6 v7 wc => v6 = .int .i64 (-(p : Int)) ∧ v7 = .int .u64 (m : Int) ∧ ((w.alloc (.cells #[.int .i64 0] 2)).alloc (.cells #[.int .i64 0] 23)) = wc)
  case first =>
    by_cases h0 : E = 0
    · subst h0
      have e1 : (wrap64 (((0 : Nat) : Int) - 1075) == -1075) = true := by unfold wrap64; decide
      have HMM := Lib.hid (show m = fr by rw [HM.out, if_pos rfl])
      have HPP := Lib.hid (show (p : Int) = 1074 from HP.out)
      go_wp2_with fail
      go_meet
      exact ⟨by rw [HPP.out], by rw [HMM.out], rfl⟩
    · have e1 : (wrap64 ((E : Int) - 1075) == -1075) = false := beq_false_of_ne (by unfold wrap64; omega)
      have e2 : wrap64 ((E : Int) - 1075) = (E : Int) - 1075 := wrapFit (by omega) (by omega)
      have HMM := Lib.hid (show m = 4503599627370496 + fr by rw [HM.out, if_neg h0])
      have HPP := Lib.hid (show -(p : Int) = (E : Int) - 1075 by have := HP.out; omega)
      go_wp2_with fail
      go_meet
      exact ⟨by rw [HPP.out], by rw [HMM.out]; rfl, rfl⟩
  case rest =>
    obtain ⟨rfl, rfl, rfl⟩ := hcut
    clear hor hE hfr h h2 h3 hfb
    have hmul := Tryd.bits_Mul64 m 1000000 (by omega) (by decide)
    obtain ⟨mh, hmh⟩ : ∃ y, m * 1000000 / 18446744073709551616 = y := ⟨_, rfl⟩
    obtain ⟨ml, hml⟩ : ∃ y, m * 1000000 % 18446744073709551616 = y := ⟨_, rfl⟩
    rw [hmh, hml] at hmul
    have HMUL := Lib.hid hmul
    have HML := Lib.hid (And.intro hmh hml); clear hmh hml hmul
    go_wp2_with fail
    refine (HMUL.out _).mono ?_
    rintro e w' ⟨rfl, rfl⟩
    have c0 : decide ((0 : Int) ≤ -(p : Int)) = false := decide_eq_false (by omega)
    by_cases hp64 : p < 64
    · have c1 : decide (-64 < -(p : Int)) = true := decide_eq_true (by omega)
      obtain ⟨vl, V2, V1, a2⟩ := two_shift mh ml p hp64 hp5 (by rw [← HML.out.2]; omega)
      have a1 : ((mh : Int) / 2 ^ p) = ((mh / 2 ^ p : Nat) : Int) := by rw [Int.natCast_ediv, Int.natCast_pow]; rfl
      have hmm : mh * 18446744073709551616 + ml = m * 1000000 := by have h1 := HML.out.1; have h2 := HML.out.2; omega
      rw [hmm, ← HV.out] at V1
      have A1 := Lib.hid a1; have A2 := Lib.hid a2; have HV1 := Lib.hid V1
      clear a1 a2 V1 hmm
      have e1 : IntKind.i64.wrap (-(-(p : Int))) = (p : Int) := by
        rw [Int.neg_neg]
        exact R2.i64_id (by omega) (by omega)
      have e2 : IntKind.i64.wrap (64 + -(p : Int)) = ((64 - p : Nat) : Int) := by
        have h0 : (64 : Int) + -(p : Int) = ((64 - p : Nat) : Int) := by omega
        rw [h0]
        exact R2.i64_id (by omega) (by omega)
      have e3 : IntKind.i64.wrap (p : Int) = (p : Int) := R2.i64_id (by omega) (by omega)
      have e4 : (0 : Int) ≤ (p : Int) := by omega
      have e5 : (0 : Int) ≤ ((64 - p : Nat) : Int) := by omega
      go_wp2_with fail
      go_still_tail 14, (by kernel_rfl)
      change wpList _ _ _ _ _ (World.drew _)
      go_wp2_with fail
      rw [A1.out, A2.out]
      have V1 := HV1.out
      clear e1 e2 e3 e4 e5 c0 c1
      by_cases hvh : mh / 2 ^ p = 0
      · rw [hvh] at V1 ⊢
        have hV : V = vl := by omega
        cases hj : joinV vl sg with
        | some v =>
          obtain rfl : r = (v, 0) := by rw [HR.out, hV, told_joined, hj]; rfl
          refine (joined_some vl sg v _ V2 hj).mono ?_
          rintro e w' ⟨rfl, rfl⟩
          go_wp2
          refine leaves_cons (f := 34) (args := #[.pointer (some ⟨w.heap.size, 0, none⟩), .pointer (some ⟨w.heap.size + 1, 0, none⟩)]) (by simp) (by simp [go_sem]) ?_
          refine (caught_no w.heap.size (w.heap.size + 1) _).mono ?_
          rintro e u' w'' ⟨rfl, rfl, rfl⟩
          simp [Leaves, settle, fault, results, Tryd.results24, go_sem]
          exact (below_drew (((Below.refl _ _).alloc (Nat.le_refl _) _).alloc (by simp) _))
        | none =>
          obtain rfl : r = (0, 3) := by rw [HR.out, hV, told_joined, hj]; rfl
          refine (joined_none vl sg _ hj).mono ?_
          rintro e w' ⟨rfl, rfl⟩
          refine leaves_cons (f := 34) (args := #[.pointer (some ⟨w.heap.size, 0, none⟩), .pointer (some ⟨w.heap.size + 1, 0, none⟩)]) (by simp) (by simp [go_sem]) ?_
          refine (caught_yes w.heap.size (w.heap.size + 1) 0 0 3 [] _ (by simp [go_sem]) (by simp [go_sem]) (by simp [go_sem]) (by simp [go_sem]) (by omega)).mono ?_
          rintro e u' w'' ⟨rfl, rfl, rfl⟩
          simp [Leaves, settle, fault, results, Tryd.results24, go_sem]
          exact below_drew (below_drew (below_alloc (((Below.refl _ _).alloc (Nat.le_refl _) _).alloc (by simp) _) _))
      · obtain rfl : r = (0, 3) := by
          rw [HR.out]
          apply told_big
          have : 1 ≤ mh / 2 ^ p := Nat.pos_of_ne_zero hvh
          generalize mh / 2 ^ p = z at *
          omega
        refine (joined_high (mh / 2 ^ p) vl sg _ hvh).mono ?_
        rintro e w' ⟨rfl, rfl⟩
        refine leaves_cons (f := 34) (args := #[.pointer (some ⟨w.heap.size, 0, none⟩), .pointer (some ⟨w.heap.size + 1, 0, none⟩)]) (by simp) (by simp [go_sem]) ?_
        refine (caught_yes w.heap.size (w.heap.size + 1) 0 0 3 [] _ (by simp [go_sem]) (by simp [go_sem]) (by simp [go_sem]) (by simp [go_sem]) (by omega)).mono ?_
        rintro e u' w'' ⟨rfl, rfl, rfl⟩
        simp [Leaves, settle, fault, results, Tryd.results24, go_sem]
        exact below_drew (below_drew (below_alloc (((Below.refl _ _).alloc (Nat.le_refl _) _).alloc (by simp) _) _))
    · have c1 : decide (-64 < -(p : Int)) = false := decide_eq_false (by omega)
      by_cases hp128 : p < 128
      · have c2 : decide (-128 < -(p : Int)) = true := decide_eq_true (by omega)
        have hV : V = mh / 2 ^ (p - 64) := by
          rw [← HML.out.1, Nat.div_div_eq_div_mul, show (18446744073709551616 : Nat) = 2 ^ 64 from rfl, ← Nat.pow_add, show 64 + (p - 64) = p by omega]
          exact HV.out
        have e6 : wrap64 ((p : Int) - 64) = ((p - 64 : Nat) : Int) := by rw [wrapFit (by omega) (by omega)]; omega
        have hmh : mh < 18446744073709551616 := by rw [← HML.out.1]; omega
        have V2 : mh / 2 ^ (p - 64) < 18446744073709551616 := Nat.lt_of_le_of_lt (Nat.div_le_self _ _) hmh
        have e7 : (p : Int) - 64 = ((p - 64 : Nat) : Int) := by omega
        have HQ := Lib.hid (show ((mh : Int) / 2 ^ (p - 64)) = ((mh / 2 ^ (p - 64) : Nat) : Int) by rw [Int.natCast_ediv, Int.natCast_pow]; rfl)
        have e8 : p - 64 ≤ 64 := by omega
        have HV2 := Lib.hid hV; clear hV
        go_wp2_with fail
        rw [HQ.out]
        clear e6 e7 e8 c0 c1 c2
        cases hj : joinV (mh / 2 ^ (p - 64)) sg with
        | some v =>
          obtain rfl : r = (v, 0) := by rw [HR.out, HV2.out, told_joined, hj]; rfl
          refine (joined_some _ sg v _ V2 hj).mono ?_
          rintro e w' ⟨rfl, rfl⟩
          go_wp2
          refine leaves_cons (f := 34) (args := #[.pointer (some ⟨w.heap.size, 0, none⟩), .pointer (some ⟨w.heap.size + 1, 0, none⟩)]) (by simp) (by simp [go_sem]) ?_
          refine (caught_no w.heap.size (w.heap.size + 1) _).mono ?_
          rintro e u' w'' ⟨rfl, rfl, rfl⟩
          simp [Leaves, settle, fault, results, Tryd.results24, go_sem]
          exact ((Below.refl _ _).alloc (Nat.le_refl _) _).alloc (by simp) _
        | none =>
          obtain rfl : r = (0, 3) := by rw [HR.out, HV2.out, told_joined, hj]; rfl
          refine (joined_none _ sg _ hj).mono ?_
          rintro e w' ⟨rfl, rfl⟩
          refine leaves_cons (f := 34) (args := #[.pointer (some ⟨w.heap.size, 0, none⟩), .pointer (some ⟨w.heap.size + 1, 0, none⟩)]) (by simp) (by simp [go_sem]) ?_
          refine (caught_yes w.heap.size (w.heap.size + 1) 0 0 3 [] _ (by simp [go_sem]) (by simp [go_sem]) (by simp [go_sem]) (by simp [go_sem]) (by omega)).mono ?_
          rintro e u' w'' ⟨rfl, rfl, rfl⟩
          simp [Leaves, settle, fault, results, Tryd.results24, go_sem]
          exact below_drew (below_alloc (((Below.refl _ _).alloc (Nat.le_refl _) _).alloc (by simp) _) _)
      · have c2 : decide (-128 < -(p : Int)) = false := decide_eq_false (by omega)
        have hV0 : V = 0 := by
          rw [HV.out]
          apply Nat.div_eq_of_lt
          exact Nat.lt_of_lt_of_le (show m * 1000000 < 2 ^ 128 by omega) (Nat.pow_le_pow_right (by decide) (by omega))
        obtain rfl : r = (0, 0) := by
          rw [HR.out, hV0]
          cases sg <;> rfl
        clear hV0
        go_wp2
        refine leaves_cons (f := 34) (args := #[.pointer (some ⟨w.heap.size, 0, none⟩), .pointer (some ⟨w.heap.size + 1, 0, none⟩)]) (by simp) (by simp [go_sem]) ?_
        refine (caught_no w.heap.size (w.heap.size + 1) _).mono ?_
        rintro e u' w'' ⟨rfl, rfl, rfl⟩
        simp [Leaves, settle, fault, results, Tryd.results24, go_sem]
        exact ((Below.refl _ _).alloc (Nat.le_refl _) _).alloc (by simp) _
end Go.Proofs.YtgodmbcebpbdiaaDoor.G
end

/- Both floats as one function of a float's bits. -/
section
set_option linter.unusedVariables false
set_option linter.unusedSimpArgs false
set_option exponentiation.threshold 3000
set_option maxRecDepth 100000
namespace Go.Proofs.YtgodmbcebpbdiaaDoor.G
open Go.RowKit Go.Proofs.YtgodmbcebpbdiaaDoorW.PrintWords Go.Proofs.YtgodmbcebpbdiaaDoorW.PrintLast
open Go.Proofs.YtgodmbcebpbdiaaDoor.FL
open Go.Proofs.YtgodmbcebpbdiaaDoor.R2 (order_nan order_inf order_inf_self order_self rfloat_nan rfloat_far rfloat_far2 rfloat_main toldN)

theorem floatV_nan (b : Nat) (h : fieldE b = 2047) (hf : fracN b ≠ 0) : floatV b = (0, 5) := by unfold floatV; rw [if_pos h, if_neg hf]
theorem floatV_inf (b : Nat) (h : fieldE b = 2047) (hf : fracN b = 0) : floatV b = (0, 3) := by unfold floatV; rw [if_pos h, if_pos hf]
theorem sU_pos (b : Nat) {n : Nat} (h : (n : Int) < sU b) : n ≤ U b := by
  unfold sU at h
  cases hs : sgnN b with
  | true => rw [hs, if_pos rfl] at h; omega
  | false => rw [hs, if_neg Bool.false_ne_true] at h; omega
theorem sU_neg (b : Nat) {n : Nat} (h : sU b < -(n : Int)) : n ≤ U b := by
  unfold sU at h
  cases hs : sgnN b with
  | true => rw [hs, if_pos rfl] at h; omega
  | false => rw [hs, if_neg Bool.false_ne_true] at h; omega
theorem U_of_sU (b : Nat) {n : Nat} (h1 : ¬ (n : Int) < sU b) (h2 : ¬ sU b < -(n : Int)) : U b ≤ n := by
  unfold sU at h1 h2
  cases hs : sgnN b with
  | true => rw [hs, if_pos rfl] at h1 h2; omega
  | false => rw [hs, if_neg Bool.false_ne_true] at h1 h2; omega
theorem rfloat_calls (b : Nat) (w : World) (hb : b < 18446744073709551616) :
    Calls Tryd.prog 25 #[.float .f64 b] w fun e w' => e = .returned (.tuple #[.int .i64 (floatV b).1, .int .i64 (floatV b).2]) ∧ Below w.heap.size w w' := by
  by_cases h : fieldE b = 2047
  · by_cases hf : fracN b = 0
    · rw [floatV_inf b h hf]
      have c1 : (FloatKind.f64.format.order b b != some .eq) = false := by rw [show FloatKind.f64.format.order b b = some .eq from order_inf_self b h hf]; rfl
      have c2 : FloatKind.f64.format.order b 9094988921128908188 = some (if sgnN b then .lt else .gt) := order_inf b _ h hf (by decide)
      have c3 : FloatKind.f64.format.order b 18318360957983683996 = some (if sgnN b then .lt else .gt) := order_inf b _ h hf (by decide)
      cases hs : sgnN b with
      | false => exact rfloat_far b w c1 (by rw [c2, hs]; rfl)
      | true => exact rfloat_far2 b w c1 (by rw [c2, hs]; rfl) (by rw [c3, hs]; rfl)
    · rw [floatV_nan b h hf]
      exact rfloat_nan b w h hf
  · have c1 : (FloatKind.f64.format.order b b != some .eq) = false := by rw [show FloatKind.f64.format.order b b = some .eq from order_self b h]; rfl
    have c2 : (FloatKind.f64.format.order b 9094988921128908188 == some .gt) = decide (sU 9094988921128908188 < sU b) := gt_fin b _ h (by decide)
    have c3 : (FloatKind.f64.format.order b 18318360957983683996 == some .lt) = decide (sU b < sU 18318360957983683996) := lt_fin b _ h (by decide)
    rw [show sU 9094988921128908188 = (U 9094988921128908188 : Int) from rfl] at c2
    rw [show sU 18318360957983683996 = -(U 18318360957983683996 : Int) from rfl, U_m300] at c3
    by_cases h1 : (U 9094988921128908188 : Int) < sU b
    · rw [far_over b h (Nat.le_trans U_300 (sU_pos b h1))]
      exact rfloat_far b w c1 (by rw [c2, decide_eq_true h1])
    · by_cases h2 : sU b < -(U 9094988921128908188 : Int)
      · rw [far_over b h (Nat.le_trans U_300 (sU_neg b h2))]
        exact rfloat_far2 b w c1 (by rw [c2, decide_eq_false h1]) (by rw [c3, decide_eq_true h2])
      · exact rfloat_main b w hb h (by rw [c2, decide_eq_false h1]) (by rw [c3, decide_eq_false h2])
theorem U_14 : U 4816244402031689728 = 100000000000000 * ONE := by
  unfold U ONE
  rw [show plE 4816244402031689728 = 1068 by decide, show magN 4816244402031689728 = 100000000000000 * 2 ^ 6 by decide, Nat.mul_assoc, ← Nat.pow_add]
theorem U_m14 : U 14039616438886465536 = U 4816244402031689728 := rfl
theorem far_over14 (b : Nat) (hf : fieldE b ≠ 2047) (h : 100000000000000 * ONE ≤ U b) : floatV b = (0, 3) := by
  unfold floatV
  rw [if_neg hf, told_big]
  have h1 : 100000000000000 * ONE * 1000000 ≤ U b * 1000000 := Nat.mul_le_mul_right _ h
  have h2 : 100000000000000000000 ≤ U b * 1000000 / ONE := by
    rw [Nat.le_div_iff_mul_le one_pos]
    refine Nat.le_trans ?_ h1
    rw [Nat.mul_right_comm]
    exact Nat.le_refl _
  exact Int.le_trans (b := ((100000000000000000000 : Nat) : Int)) (by decide) (Int.ofNat_le.2 h2)
theorem place_low (b : Nat) (h : U b ≤ 100000000000000 * ONE) : plE b ≤ 1073 := by
  rcases Nat.lt_or_ge 1073 (plE b) with hp | hp
  · exfalso
    have h0 : fieldE b ≠ 0 := fun h0 => by unfold plE at hp; rw [h0] at hp; omega
    have hm : 4503599627370496 ≤ magN b := by unfold magN; rw [if_neg h0]; omega
    have h1 : 4503599627370496 * ONE ≤ U b := by
      unfold U ONE
      exact Nat.mul_le_mul hm (Nat.pow_le_pow_right (by decide) hp)
    have h2 : 100000000000000 * ONE < 4503599627370496 * ONE := Nat.mul_lt_mul_of_pos_right (by decide) one_pos
    exact absurd (Nat.lt_of_lt_of_le h2 (Nat.le_trans h1 h)) (Nat.lt_irrefl _)
  · exact hp
theorem dfloat_calls (b : Nat) (w : World) (hb : b < 18446744073709551616) :
    Calls Tryd.prog 24 #[.float .f64 b] w fun e w' => e = .returned (.tuple #[.int .i64 (floatV b).1, .int .i64 (floatV b).2]) ∧ Below w.heap.size w w' := by
  by_cases h : fieldE b = 2047
  · by_cases hf : fracN b = 0
    · rw [floatV_inf b h hf]
      have c1 : (FloatKind.f64.format.order b b != some .eq) = false := by rw [show FloatKind.f64.format.order b b = some .eq from order_inf_self b h hf]; rfl
      have c2 : FloatKind.f64.format.order b 4816244402031689728 = some (if sgnN b then .lt else .gt) := order_inf b _ h hf (by decide)
      have c3 : FloatKind.f64.format.order b 14039616438886465536 = some (if sgnN b then .lt else .gt) := order_inf b _ h hf (by decide)
      refine dfloat_far b w c1 ?_
      cases hs : sgnN b with
      | false => exact Or.inl (by rw [c2, hs]; rfl)
      | true => exact Or.inr ⟨by rw [c2, hs]; rfl, by rw [c3, hs]; rfl⟩
    · rw [floatV_nan b h hf]
      exact dfloat_nan b w (by rw [show FloatKind.f64.format.order b b = none from order_nan b b h hf]; rfl)
  · have c1 : (FloatKind.f64.format.order b b != some .eq) = false := by rw [show FloatKind.f64.format.order b b = some .eq from order_self b h]; rfl
    have c2 : (FloatKind.f64.format.order b 4816244402031689728 == some .gt) = decide (sU 4816244402031689728 < sU b) := gt_fin b _ h (by decide)
    have c3 : (FloatKind.f64.format.order b 14039616438886465536 == some .lt) = decide (sU b < sU 14039616438886465536) := lt_fin b _ h (by decide)
    rw [show sU 4816244402031689728 = (U 4816244402031689728 : Int) from rfl] at c2
    rw [show sU 14039616438886465536 = -(U 14039616438886465536 : Int) from rfl, U_m14] at c3
    by_cases h1 : (U 4816244402031689728 : Int) < sU b
    · rw [far_over14 b h (by rw [← U_14]; exact sU_pos b h1)]
      exact dfloat_far b w c1 (Or.inl (by rw [c2, decide_eq_true h1]))
    · by_cases h2 : sU b < -(U 4816244402031689728 : Int)
      · rw [far_over14 b h (by rw [← U_14]; exact sU_neg b h2)]
        exact dfloat_far b w c1 (Or.inr ⟨by rw [c2, decide_eq_false h1], by rw [c3, decide_eq_true h2]⟩)
      · have hU : U b ≤ 100000000000000 * ONE := by rw [← U_14]; exact U_of_sU b h1 h2
        have hpl := place_low b hU
        have hE : fieldE b < 2048 := Nat.mod_lt _ (by decide)
        have hpe : plE b = fieldE b - 1 := rfl
        refine dfloat_walk b (fieldE b) (fracN b) (magN b) 0 (1074 - plE b) (sgnN b) w (floatV b) c1 (by rw [c2, decide_eq_false h1]) (by rw [c3, decide_eq_false h2]) ?_ ?_ ?_ ?_ (magN b * 1000000 / 2 ^ (1074 - plE b)) rfl ?_ (by omega) rfl (by omega) (by omega) (mag_lt b)
        · unfold sgnN
          rw [Bool.eq_iff_iff, bne_iff_ne, decide_eq_true_eq]
          omega
        · have := and_mask (b / 4503599627370496) 11 (by omega) (by decide)
          exact this
        · have := and_mask b 52 hb (by decide)
          exact this
        · exact or_top _ (Nat.mod_lt _ (by decide))
        · unfold floatV
          rw [if_neg h]
          have h1074 : 1074 - plE b + plE b = 1074 := by omega
          have e : U b * 1000000 / ONE = magN b * 1000000 / 2 ^ (1074 - plE b) := by
            unfold U ONE
            have e2 := Nat.pow_add 2 (1074 - plE b) (plE b)
            rw [h1074] at e2
            rw [e2, Nat.mul_right_comm]
            exact Nat.mul_div_mul_right _ _ (Nat.two_pow_pos _)
          rw [e]
end Go.Proofs.YtgodmbcebpbdiaaDoor.G
end
