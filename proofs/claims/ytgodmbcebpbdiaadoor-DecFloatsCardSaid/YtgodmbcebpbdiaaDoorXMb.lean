/- Texts of this seat, put together: each part tells above it what it proves and on what conditions. -/
import Derived.Test.YtgodmbcebpbdiaaDoorXMa
import Derived.Test.YtgodmbcebpbdiaaDoorXGDecA
import Derived.WalkSmall
import Derived.Lib.LaidTab
import Derived.Lib.AppendIntMem
/- dec.scaled, walked. -/
section
set_option linter.unusedVariables false
set_option linter.unusedSimpArgs false
namespace Go.Proofs.YtgodmbcebpbdiaaDoor.G
open Go.RowKit Go.Proofs.YtgodmbcebpbdiaaDoorW.PrintWords Go.Proofs.YtgodmbcebpbdiaaDoorW.PrintLast Go.Proofs.YtgodmbcebpbdiaaDoorW.PrintMore Go.Proofs.YtgodmbcebpbdiaaDoor.Q0
theorem split_calls (n : Int) (w : World) (h0 : -9223372036854775808 ≤ n) (h1 : n ≤ 9223372036854775807) :
    Calls Tryd.prog 43 #[.int .i64 n] w fun x w' => x = .returned (.tuple #[.int .u64 (n.natAbs : Nat), .bool (decide (n < 0))]) ∧ w' = w := by
  by_cases h : n < 0
  · refine (split_neg n w (decide_eq_true h)).mono ?_
    rintro e w' ⟨rfl, rfl⟩
    refine ⟨?_, rfl⟩
    rw [show IntKind.u64.wrap (-IntKind.u64.wrap n) = ((n.natAbs : Nat) : Int) by rw [wmod, wmod]; omega, decide_eq_true h]
  · refine (split_pos n w (decide_eq_false h)).mono ?_
    rintro e w' ⟨rfl, rfl⟩
    refine ⟨?_, rfl⟩
    rw [show IntKind.u64.wrap n = ((n.natAbs : Nat) : Int) by rw [wmod]; omega, decide_eq_false h]
set_option maxHeartbeats 4000000 in
set_option maxRecDepth 100000 in
theorem scaled_walk (a b c x y z hi lo qq rr v : Int) (p q r : Bool) (w : World)
    (sa : ∀ w, Calls Tryd.prog 43 #[.int .i64 a] w fun e w' => e = .returned (.tuple #[.int .u64 x, .bool p]) ∧ w' = w)
    (sb : ∀ w, Calls Tryd.prog 43 #[.int .i64 b] w fun e w' => e = .returned (.tuple #[.int .u64 y, .bool q]) ∧ w' = w)
    (sc : ∀ w, Calls Tryd.prog 43 #[.int .i64 c] w fun e w' => e = .returned (.tuple #[.int .u64 z, .bool r]) ∧ w' = w)
    (sm : ∀ w, Calls Tryd.prog 37 #[.int .u64 x, .int .u64 y] w fun e w' => e = .returned (.tuple #[.int .u64 hi, .int .u64 lo]) ∧ w' = w)
    (ht : decide (hi ≥ z) = false)
    (sd : ∀ w, Calls Tryd.prog 62 #[.int .u64 hi, .int .u64 lo, .int .u64 z] w fun e w' => e = .returned (.tuple #[.int .u64 qq, .int .u64 rr]) ∧ Drawn0 w w')
    (sj : ∀ w, Calls Tryd.prog 39 #[.int .u64 0, .int .u64 qq, .bool ((p != q) != r)] w fun e w' => e = .returned (.int .i64 v) ∧ w = w') :
    Calls Tryd.prog 47 #[.int .i64 a, .int .i64 b, .int .i64 c] w fun x w' => x = .returned (.int .i64 v) ∧ Drawn0 w w' := by
  go_enter Tryd.func47, Tryd.ntmps47
  go_wp2_with fail
  refine (sa _).mono ?_
  rintro e w' ⟨rfl, rfl⟩
  go_wp2_with fail
  refine (sb _).mono ?_
  rintro e w' ⟨rfl, rfl⟩
  go_wp2_with fail
  refine (sc _).mono ?_
  rintro e w' ⟨rfl, rfl⟩
  go_wp2_with fail
  refine (sm _).mono ?_
  rintro e w' ⟨rfl, rfl⟩
  go_wp2_with fail
  refine (wrong_no _ _).mono ?_
  rintro e w' ⟨rfl, rfl⟩
  go_wp2_with fail
  refine (sd _).mono ?_
  rintro e w' ⟨rfl, hD⟩
  go_wp2_with fail
  refine (sj _).mono ?_
  rintro e w' ⟨rfl, rfl⟩
  go_wp2
  go_ret
  exact ⟨rfl, hD⟩
set_option maxHeartbeats 4000000 in
set_option maxRecDepth 100000 in
theorem scaled_walk_over (a b c x y z hi lo : Int) (p q r : Bool) (w : World)
    (sa : ∀ w, Calls Tryd.prog 43 #[.int .i64 a] w fun e w' => e = .returned (.tuple #[.int .u64 x, .bool p]) ∧ w' = w)
    (sb : ∀ w, Calls Tryd.prog 43 #[.int .i64 b] w fun e w' => e = .returned (.tuple #[.int .u64 y, .bool q]) ∧ w' = w)
    (sc : ∀ w, Calls Tryd.prog 43 #[.int .i64 c] w fun e w' => e = .returned (.tuple #[.int .u64 z, .bool r]) ∧ w' = w)
    (sm : ∀ w, Calls Tryd.prog 37 #[.int .u64 x, .int .u64 y] w fun e w' => e = .returned (.tuple #[.int .u64 hi, .int .u64 lo]) ∧ w' = w)
    (ht : decide (hi ≥ z) = true) :
    Calls Tryd.prog 47 #[.int .i64 a, .int .i64 b, .int .i64 c] w fun x w' => x = .panicked [fault 3] ∧ Drawn0 w w' := by
  go_enter Tryd.func47, Tryd.ntmps47
  go_wp2_with fail
  refine (sa _).mono ?_
  rintro e w' ⟨rfl, rfl⟩
  go_wp2_with fail
  refine (sb _).mono ?_
  rintro e w' ⟨rfl, rfl⟩
  go_wp2_with fail
  refine (sc _).mono ?_
  rintro e w' ⟨rfl, rfl⟩
  go_wp2_with fail
  refine (sm _).mono ?_
  rintro e w' ⟨rfl, rfl⟩
  go_wp2_with fail
  refine (wrong_yes _ _).mono ?_
  rintro e w' ⟨rfl, rfl⟩
  exact ⟨rfl, rfl, Drawn0.refl _⟩
set_option maxHeartbeats 4000000 in
set_option maxRecDepth 100000 in
theorem scaled_walk_far (a b c x y z hi lo qq rr : Int) (p q r : Bool) (w : World)
    (sa : ∀ w, Calls Tryd.prog 43 #[.int .i64 a] w fun e w' => e = .returned (.tuple #[.int .u64 x, .bool p]) ∧ w' = w)
    (sb : ∀ w, Calls Tryd.prog 43 #[.int .i64 b] w fun e w' => e = .returned (.tuple #[.int .u64 y, .bool q]) ∧ w' = w)
    (sc : ∀ w, Calls Tryd.prog 43 #[.int .i64 c] w fun e w' => e = .returned (.tuple #[.int .u64 z, .bool r]) ∧ w' = w)
    (sm : ∀ w, Calls Tryd.prog 37 #[.int .u64 x, .int .u64 y] w fun e w' => e = .returned (.tuple #[.int .u64 hi, .int .u64 lo]) ∧ w' = w)
    (ht : decide (hi ≥ z) = false)
    (sd : ∀ w, Calls Tryd.prog 62 #[.int .u64 hi, .int .u64 lo, .int .u64 z] w fun e w' => e = .returned (.tuple #[.int .u64 qq, .int .u64 rr]) ∧ Drawn0 w w')
    (sj : ∀ w, Calls Tryd.prog 39 #[.int .u64 0, .int .u64 qq, .bool ((p != q) != r)] w fun e w' => e = .panicked [fault 3] ∧ w = w') :
    Calls Tryd.prog 47 #[.int .i64 a, .int .i64 b, .int .i64 c] w fun x w' => x = .panicked [fault 3] ∧ Drawn0 w w' := by
  go_enter Tryd.func47, Tryd.ntmps47
  go_wp2_with fail
  refine (sa _).mono ?_
  rintro e w' ⟨rfl, rfl⟩
  go_wp2_with fail
  refine (sb _).mono ?_
  rintro e w' ⟨rfl, rfl⟩
  go_wp2_with fail
  refine (sc _).mono ?_
  rintro e w' ⟨rfl, rfl⟩
  go_wp2_with fail
  refine (sm _).mono ?_
  rintro e w' ⟨rfl, rfl⟩
  go_wp2_with fail
  refine (wrong_no _ _).mono ?_
  rintro e w' ⟨rfl, rfl⟩
  go_wp2_with fail
  refine (sd _).mono ?_
  rintro e w' ⟨rfl, hD⟩
  go_wp2_with fail
  refine (sj _).mono ?_
  rintro e w' ⟨rfl, rfl⟩
  exact ⟨rfl, rfl, hD⟩
/-- a times b, divided by c; none: it gives up. -/
def scaledV (a b c : Int) : Option Int :=
  if c.natAbs ≤ a.natAbs * b.natAbs / 18446744073709551616 then none else joinV (a.natAbs * b.natAbs / c.natAbs) ((decide (a < 0) != decide (b < 0)) != decide (c < 0))
theorem abs64 {n : Int} (h0 : -9223372036854775808 ≤ n) (h1 : n ≤ 9223372036854775807) : n.natAbs < 18446744073709551616 := by omega
theorem quo64 (m z : Nat) (h : ¬ z ≤ m / 18446744073709551616) : m / z < 18446744073709551616 := by
  have hz : 0 < z := by omega
  rw [Nat.div_lt_iff_lt_mul hz, Nat.mul_comm]
  have := Nat.mul_le_mul_right 18446744073709551616 (show m / 18446744073709551616 + 1 ≤ z by omega)
  omega
section
variable (a b c : Int) (w : World) (a0 : -9223372036854775808 ≤ a) (a1 : a ≤ 9223372036854775807) (b0 : -9223372036854775808 ≤ b) (b1 : b ≤ 9223372036854775807) (c0 : -9223372036854775808 ≤ c) (c1 : c ≤ 9223372036854775807)
include a0 a1 b0 b1 c0 c1
theorem scaled_some (v : Int) (h : scaledV a b c = some v) :
    Calls Tryd.prog 47 #[.int .i64 a, .int .i64 b, .int .i64 c] w fun x w' => x = .returned (.int .i64 v) ∧ Drawn0 w w' := by
  unfold scaledV at h
  by_cases hz : c.natAbs ≤ a.natAbs * b.natAbs / 18446744073709551616
  · rw [if_pos hz] at h; cases h
  · rw [if_neg hz] at h
    obtain ⟨rr, hq⟩ := div64 _ _ _ (Nat.lt_of_not_le hz) (Nat.mod_lt (a.natAbs * b.natAbs) (by decide)) (abs64 c0 c1)
    rw [Nat.mul_comm (a.natAbs * b.natAbs / 18446744073709551616), Nat.div_add_mod] at hq
    exact scaled_walk a b c _ _ _ _ _ _ rr v _ _ _ w (fun w => split_calls a w a0 a1) (fun w => split_calls b w b0 b1) (fun w => split_calls c w c0 c1)
      (fun w => Tryd.bits_Mul64 _ _ (abs64 a0 a1) (abs64 b0 b1) w) (decide_eq_false (by omega)) (fun w => bits_Div64.calls 20 _ _ _ _ _ w hq) (fun w => joined_some _ _ v w (quo64 _ _ hz) h)
theorem scaled_none (h : scaledV a b c = none) :
    Calls Tryd.prog 47 #[.int .i64 a, .int .i64 b, .int .i64 c] w fun x w' => x = .panicked [fault 3] ∧ Drawn0 w w' := by
  unfold scaledV at h
  by_cases hz : c.natAbs ≤ a.natAbs * b.natAbs / 18446744073709551616
  · exact scaled_walk_over a b c _ _ _ _ _ _ _ _ w (fun w => split_calls a w a0 a1) (fun w => split_calls b w b0 b1) (fun w => split_calls c w c0 c1)
      (fun w => Tryd.bits_Mul64 _ _ (abs64 a0 a1) (abs64 b0 b1) w) (decide_eq_true (by omega))
  · rw [if_neg hz] at h
    obtain ⟨rr, hq⟩ := div64 _ _ _ (Nat.lt_of_not_le hz) (Nat.mod_lt (a.natAbs * b.natAbs) (by decide)) (abs64 c0 c1)
    rw [Nat.mul_comm (a.natAbs * b.natAbs / 18446744073709551616), Nat.div_add_mod] at hq
    exact scaled_walk_far a b c _ _ _ _ _ _ rr _ _ _ w (fun w => split_calls a w a0 a1) (fun w => split_calls b w b0 b1) (fun w => split_calls c w c0 c1)
      (fun w => Tryd.bits_Mul64 _ _ (abs64 a0 a1) (abs64 b0 b1) w) (decide_eq_false (by omega)) (fun w => bits_Div64.calls 20 _ _ _ _ _ w hq) (fun w => joined_none _ _ w h)
end
end Go.Proofs.YtgodmbcebpbdiaaDoor.G
end

/- dec.Mul, dec.Div, dec.Whole, walked: at every two numbers. -/
section
set_option linter.unusedVariables false
set_option linter.unusedSimpArgs false
namespace Go.Proofs.YtgodmbcebpbdiaaDoor.G
open Go.RowKit Go.Proofs.YtgodmbcebpbdiaaDoorW.PrintWords Go.Proofs.YtgodmbcebpbdiaaDoorW.PrintLast
theorem belowN {B : Nat} {a w : World} (h : Below B a w) (n : Nat) : Below B a (w.drewN n) := h.trans ⟨rfl, rfl, rfl, Nat.le_refl _, fun _ _ => rfl⟩
set_option maxHeartbeats 4000000 in
set_option maxRecDepth 100000 in
theorem div_some (a b v : Int) (w : World) (h0 : (b == 0) = false) 
    (hc : ∀ w, Calls Tryd.prog 47 #[.int .i64 a, .int .i64 1000000, .int .i64 b] w fun x w' => x = .returned (.int .i64 v) ∧ Drawn0 w w') :
    Calls Tryd.prog 18 #[.int .i64 a, .int .i64 b] w fun x w' => x = .returned (.tuple #[.int .i64 v, .int .i64 0]) ∧ Below w.heap.size w w' := by
    go_enter_defers Tryd.func18, Tryd.ntmps18
    go_wp2_with fail
    refine (wrong_no _ _).mono ?_
    rintro e w' ⟨rfl, rfl⟩
    go_wp2_with fail
    refine (hc _).mono ?_
    rintro e w' ⟨rfl, nd, rfl⟩
    go_wp2
    refine leaves_cons (f := 34) (args := #[.pointer (some ⟨w.heap.size, 0, none⟩), .pointer (some ⟨w.heap.size + 1, 0, none⟩)]) (by simp) (by simp [go_sem]) ?_
    refine (caught_no w.heap.size (w.heap.size + 1) _).mono ?_
    rintro e u' w'' ⟨rfl, rfl, rfl⟩
    simp [Leaves, settle, fault, results, Tryd.results18, go_sem]
    exact ((belowN (((Below.refl _ _).alloc (Nat.le_refl _) _).alloc (by simp) _) nd).setCell (by simp) _).setCell (by simp) _
set_option maxHeartbeats 4000000 in
set_option maxRecDepth 100000 in
theorem div_none (a b : Int) (w : World) (h0 : (b == 0) = false) 
    (hc : ∀ w, Calls Tryd.prog 47 #[.int .i64 a, .int .i64 1000000, .int .i64 b] w fun x w' => x = .panicked [fault 3] ∧ Drawn0 w w') :
    Calls Tryd.prog 18 #[.int .i64 a, .int .i64 b] w fun x w' => x = .returned (.tuple #[.int .i64 0, .int .i64 3]) ∧ Below w.heap.size w w' := by
    go_enter_defers Tryd.func18, Tryd.ntmps18
    go_wp2_with fail
    refine (wrong_no _ _).mono ?_
    rintro e w' ⟨rfl, rfl⟩
    go_wp2_with fail
    refine (hc _).mono ?_
    rintro e w' ⟨rfl, nd, rfl⟩
    refine leaves_cons (f := 34) (args := #[.pointer (some ⟨w.heap.size, 0, none⟩), .pointer (some ⟨w.heap.size + 1, 0, none⟩)]) (by simp) (by simp [go_sem]) ?_
    refine (caught_yes w.heap.size (w.heap.size + 1) 0 0 3 [] _ (by simp [go_sem]) (by simp [go_sem]) (by simp [go_sem]) (by simp [go_sem]) (by omega)).mono ?_
    rintro e u' w'' ⟨rfl, rfl, rfl⟩
    simp [Leaves, settle, fault, results, Tryd.results18, go_sem]
    exact below_drew (below_alloc (((belowN (((Below.refl _ _).alloc (Nat.le_refl _) _).alloc (by simp) _) nd).setCell (by simp) _).setCell (by simp) _) _)
set_option maxHeartbeats 4000000 in
set_option maxRecDepth 100000 in
theorem div_zero (a : Int) (w : World) :
    Calls Tryd.prog 18 #[.int .i64 a, .int .i64 0] w fun x w' => x = .returned (.tuple #[.int .i64 0, .int .i64 4]) ∧ Below w.heap.size w w' := by
    go_enter_defers Tryd.func18, Tryd.ntmps18
    go_wp2_with fail
    refine (wrong_yes _ _).mono ?_
    rintro e w' ⟨rfl, rfl⟩
    refine leaves_cons (f := 34) (args := #[.pointer (some ⟨w.heap.size, 0, none⟩), .pointer (some ⟨w.heap.size + 1, 0, none⟩)]) (by simp) (by simp [go_sem]) ?_
    refine (caught_yes w.heap.size (w.heap.size + 1) 0 0 4 [] _ (by simp [go_sem]) (by simp [go_sem]) (by simp [go_sem]) (by simp [go_sem]) (by omega)).mono ?_
    rintro e u' w'' ⟨rfl, rfl, rfl⟩
    simp [Leaves, settle, fault, results, Tryd.results18, go_sem]
    exact below_drew (below_alloc (((Below.refl _ _).alloc (Nat.le_refl _) _).alloc (by simp) _) _)
/-- What dec.Mul, dec.Div, dec.Whole come to. -/
def orOver (v : Option Int) : Int × Int := match v with | some v => (v, 0) | none => (0, 3)
def divV (a b : Int) : Int × Int := if b = 0 then (0, 4) else orOver (scaledV a 1000000 b)
section
variable (a b : Int) (w : World) (a0 : -9223372036854775808 ≤ a) (a1 : a ≤ 9223372036854775807) (b0 : -9223372036854775808 ≤ b) (b1 : b ≤ 9223372036854775807)
include a0 a1
include b0 b1
theorem div_calls : Calls Tryd.prog 18 #[.int .i64 a, .int .i64 b] w fun x w' => x = .returned (.tuple #[.int .i64 (divV a b).1, .int .i64 (divV a b).2]) ∧ Below w.heap.size w w' := by
  unfold divV
  by_cases hb : b = 0
  · subst hb
    rw [if_pos rfl]; exact div_zero a w
  · rw [if_neg hb]
    have hb' : (b == 0) = false := by simpa using hb
    cases h : scaledV a 1000000 b with
    | some v => exact div_some a b v w hb' fun w => scaled_some a 1000000 b w a0 a1 (by decide) (by decide) b0 b1 v h
    | none => exact div_none a b w hb' fun w => scaled_none a 1000000 b w a0 a1 (by decide) (by decide) b0 b1 h
end
end Go.Proofs.YtgodmbcebpbdiaaDoor.G
end

/- The functions of package dec that give up and catch, and hex.Figures, as Lean functions for print. Conditions: the table of figures lies as it is laid (GT). -/
section
set_option linter.unusedVariables false
set_option linter.unusedSimpArgs false
namespace Go.Proofs.YtgodmbcebpbdiaaDoor.G
open Go.RowKit Go.Proofs.YtgodmbcebpbdiaaDoorW.PrintWords Go.Proofs.YtgodmbcebpbdiaaDoorW.PrintLast
theorem var_below {n : String} {cs : Array Value} {w w' : World} (h : w.var? Tryd.prog n = some cs) (hb : Below w.heap.size w w') : w'.var? Tryd.prog n = some cs := by
  unfold World.var? at h ⊢
  cases hg : Tryd.prog.globalNamed n with
  | none => simp [hg] at h
  | some g =>
    simp only [hg, Option.bind_some] at h ⊢
    have hlt : g < w.heap.size := by
      rcases Nat.lt_or_ge g w.heap.size with h' | h'
      · exact h'
      · simp [Array.getElem?_eq_none h'] at h
    rw [hb.block g hlt]
    exact h
/-- The table of the library's that a number's figures are read from lies as it is laid. -/
structure GT (w : World) : Prop where
  tab : Lib.TabIs Tryd.prog w "internal/strconv.uint64pow10" .u64 Lib.pow10Tab
theorem GT.below {w w' : World} (h : GT w) (hb : Below w.heap.size w w') : GT w' := ⟨var_below h.tab hb⟩
set_option maxHeartbeats 1000000 in
theorem figures_calls (n : Int) (h0 : -9223372036854775808 ≤ n) (h1 : n ≤ 9223372036854775807) (w : World) (hG : GT w) :
    Calls Tryd.prog 44 #[.int .i64 n] w fun e w' => e = .returned (.string ⟨(Lib.itoa n).toArray⟩) ∧ Below w.heap.size w w' := by
  have HG := Lib.hid hG.tab
  clear hG
  go_enter Tryd.func44, Tryd.ntmps44
  go_wp2_with (go_at_call 56; refine (Tryd.strconv_FormatInt_10 n h0 h1 _ HG.out).mono ?_; rintro e w' ⟨rfl, k, os, rfl⟩)
  go_ret
  exact ⟨rfl, Lib.below_grow _ _ (Nat.le_refl _) _ _⟩
/-- A number of 64 bits. -/
def in64 (n : Int) : Prop := -9223372036854775808 ≤ n ∧ n ≤ 9223372036854775807
instance (n : Int) : Decidable (in64 n) := by unfold in64; infer_instance
def hex_Figures.f (a0 : Int) : Option ByteArray := if in64 a0 then some ⟨(Lib.itoa a0).toArray⟩ else none
theorem hex_Figures.calls (a0 : Int) (r : ByteArray) (w : World) (hG : GT w) (h : hex_Figures.f a0 = some r) :
    Calls Tryd.prog 44 #[.int .i64 a0] w fun e w' => e = .returned (.string r) ∧ Below w.heap.size w w' := by
  unfold hex_Figures.f at h
  by_cases hs : in64 a0
  · rw [if_pos hs] at h
    obtain rfl := Option.some.inj h
    exact figures_calls a0 hs.1 hs.2 w hG
  · rw [if_neg hs] at h; cases h
def dec_Div.f (a b : Int) : Option (Int × Int) := if in64 a ∧ in64 b then some (divV a b) else none
theorem dec_Div.calls (a b r1 r2 : Int) (w : World) (h : dec_Div.f a b = some (r1, r2)) :
    Calls Tryd.prog 18 #[.int .i64 a, .int .i64 b] w fun e w' => e = .returned (.tuple #[.int .i64 r1, .int .i64 r2]) ∧ Below w.heap.size w w' := by
  unfold dec_Div.f at h
  by_cases hs : in64 a ∧ in64 b
  · rw [if_pos hs] at h
    have := div_calls a b w hs.1.1 hs.1.2 hs.2.1 hs.2.2
    rw [Option.some.inj h] at this; exact this
  · rw [if_neg hs] at h; cases h
end Go.Proofs.YtgodmbcebpbdiaaDoor.G
end

/- dec.Read's first deferred function, walked. -/
section
set_option linter.unusedVariables false
set_option linter.unusedSimpArgs false
namespace Go.Proofs.YtgodmbcebpbdiaaDoor.G
open Go.RowKit Go.Proofs.YtgodmbcebpbdiaaDoorW.PrintWords Go.Proofs.YtgodmbcebpbdiaaDoorW.PrintLast
set_option maxHeartbeats 4000000 in
set_option maxRecDepth 100000 in
theorem read1_ok (p q : Nat) (w : World) (u : FrameMode) (hp : w.cell? ⟨p, 0, none⟩ = some (.int .i64 0)) :
    CallsD Tryd.prog 33 #[.pointer (some ⟨p, 0, none⟩), .pointer (some ⟨q, 0, none⟩)] u w fun x' u' w' =>
      x' = .returned (.tuple #[]) ∧ u' = u ∧ w' = w := by
  refine (callsD_of_wp (R := fun x' w' => x' = .returned (.tuple #[]) ∧ w' = w) Tryd.func33 rfl ?_).mono (fun e u' w' h => ⟨h.2.1, h.1, h.2.2⟩)
  have ht : (#[.pointer (some ⟨p, 0, none⟩), .pointer (some ⟨q, 0, none⟩)] ++ Array.replicate (Tryd.f33.ntmps - (#[.pointer (some ⟨p, 0, none⟩), .pointer (some ⟨q, 0, none⟩)] : Array Value).size) undef : Array Value) = #[.pointer (some ⟨p, 0, none⟩), .pointer (some ⟨q, 0, none⟩), undef, undef] := by simp [Array.replicate, Tryd.ntmps33]
  rw [ht]
  clear ht
  go_wp2
  go_end0
  exact ⟨rfl, rfl⟩
set_option maxHeartbeats 4000000 in
set_option maxRecDepth 100000 in
theorem read1_no (p q : Nat) (e : Int) (y : Value) (w : World) (u : FrameMode) (he : (e != 0) = true) (hp : w.cell? ⟨p, 0, none⟩ = some (.int .i64 e)) (hq : w.cell? ⟨q, 0, none⟩ = some y) (fq : w.frozen? ⟨q, 0, none⟩ = false) :
    CallsD Tryd.prog 33 #[.pointer (some ⟨p, 0, none⟩), .pointer (some ⟨q, 0, none⟩)] u w fun x' u' w' =>
      x' = .returned (.tuple #[]) ∧ u' = u ∧ w' = w.setCell ⟨q, 0, none⟩ (.int .i64 0) := by
  refine (callsD_of_wp (R := fun x' w' => x' = .returned (.tuple #[]) ∧ w' = w.setCell ⟨q, 0, none⟩ (.int .i64 0)) Tryd.func33 rfl ?_).mono (fun e u' w' h => ⟨h.2.1, h.1, h.2.2⟩)
  have ht : (#[.pointer (some ⟨p, 0, none⟩), .pointer (some ⟨q, 0, none⟩)] ++ Array.replicate (Tryd.f33.ntmps - (#[.pointer (some ⟨p, 0, none⟩), .pointer (some ⟨q, 0, none⟩)] : Array Value).size) undef : Array Value) = #[.pointer (some ⟨p, 0, none⟩), .pointer (some ⟨q, 0, none⟩), undef, undef] := by simp [Array.replicate, Tryd.ntmps33]
  rw [ht]
  clear ht
  go_wp2
  go_end0
  exact ⟨rfl, rfl⟩
end Go.Proofs.YtgodmbcebpbdiaaDoor.G
end
