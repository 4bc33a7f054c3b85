/- dragomanref06.within, walked by hand. -/
import Derived.Test.YthnfmpieoondaaaVQAx
import Derived.Test.YthnfmpieoondaaaVGA
import Derived.Laws.OwnMore
import Derived.Deep.QuietTactic
import Derived.BigQuiet
import Derived.Deep.RegionHeld3
import Derived.Outline
set_option linter.unusedVariables false
set_option linter.unusedSimpArgs false
namespace Go.Proofs.Ythnfmpieoondaaa.QB
open Go.RowKit Go.Proofs.YthnfmpieoondaaaW.PrintWords Go.Proofs.YthnfmpieoondaaaW.PrintLast Go.Proofs.YthnfmpieoondaaaW.PrintMore Go.Proofs.Ythnfmpieoondaaa.QA Go.Proofs.Ythnfmpieoondaaa.G
attribute [local go_sem ↓] ix28_0 ix28_1 ia28_0 ia28_1
theorem row_of (W : World) (base g : Nat) (hg : W.heap.size = g) (hb : base ≤ g) (x : S97) : Kd.R k97 97 (W.alloc (.cells #[.int .i64 x.f0, .bool x.f1, .int .i64 x.f2] 97)) base (fun _ => True) (.slice (some ⟨g, 0, none⟩) 1 1) [x] := by
  subst hg
  refine ⟨fun _ _ => trivial, [.int .i64 x.f0, .bool x.f1, .int .i64 x.f2], World.ownsRow_lit (base := base) (e := 97) (size := 3) W #[.int .i64 x.f0, .bool x.f1, .int .i64 x.f2] 1 hb (by decide) rfl, ?_⟩
  exact Reps.snoc (Reps.none _ _) (k97_mkM _ _ _ x) rfl
theorem row_two (W : World) (base g : Nat) (hg : W.heap.size = g) (hb : base ≤ g) (x y : S97) : Kd.R k97 97 (W.alloc (.cells #[.int .i64 x.f0, .bool x.f1, .int .i64 x.f2, .int .i64 y.f0, .bool y.f1, .int .i64 y.f2] 97)) base (fun _ => True) (.slice (some ⟨g, 0, none⟩) 2 2) [x, y] := by
  subst hg
  refine ⟨fun _ _ => trivial, [.int .i64 x.f0, .bool x.f1, .int .i64 x.f2, .int .i64 y.f0, .bool y.f1, .int .i64 y.f2], World.ownsRow_lit (base := base) (e := 97) (size := 3) W #[.int .i64 x.f0, .bool x.f1, .int .i64 x.f2, .int .i64 y.f0, .bool y.f1, .int .i64 y.f2] 2 hb (by decide) rfl, ?_⟩
  exact Reps.snoc (Reps.snoc (Reps.none _ _) (k97_mkM _ _ _ x) rfl) (k97_mkM _ _ _ y) rfl
section
variable (A0 : Option Addr) (c0 : Nat) (l0 : List S55) (a1 : ByteArray) (n : Int) (b : Bool) (m : Int) (w : World) (hr0 : Kd.C k55 w A0 l0.length l0) (h0 : 0 ≤ n) (h1 : n < (l0.length : Int))
include hr0 h0 h1
theorem within_pre : ∃ ad, A0 = some ad ∧ (∀ o1, (w.alloc o1).cell? (ad.add (n.toNat * 7)) = some (.int .i64 (rd_T55 l0 n).f0)) ∧ (∀ o1, (w.alloc o1).cell? ⟨(ad.add (n.toNat * 7)).block, (ad.add (n.toNat * 7)).off + 1, none⟩ = some (.int .u64 (rd_T55 l0 n).f1.f0)) ∧ (∀ o1, (w.alloc o1).cell? ⟨(ad.add (n.toNat * 7)).block, (ad.add (n.toNat * 7)).off + 2, none⟩ = some (.int .u64 (rd_T55 l0 n).f1.f1)) ∧ (∀ o1, (w.alloc o1).cell? ⟨(ad.add (n.toNat * 7)).block, (ad.add (n.toNat * 7)).off + 3, none⟩ = some (.int .u64 (rd_T55 l0 n).f1.f2)) ∧ (∀ o1, (w.alloc o1).cell? ⟨(ad.add (n.toNat * 7)).block, (ad.add (n.toNat * 7)).off + 4, none⟩ = some (.int .u64 (rd_T55 l0 n).f1.f3)) ∧ (∀ o1, (w.alloc o1).cell? ⟨(ad.add (n.toNat * 7)).block, (ad.add (n.toNat * 7)).off + 5, none⟩ = some (.int .i64 (rd_T55 l0 n).f2.f0)) ∧ (∀ o1, (w.alloc o1).cell? ⟨(ad.add (n.toNat * 7)).block, (ad.add (n.toNat * 7)).off + 6, none⟩ = some (.int .i64 (rd_T55 l0 n).f2.f1)) := by
  obtain ⟨ad, rfl, x0, x1, x2, x3, x4, x5, x6⟩ := at_T55 hr0 n h0 h1
  have g : ∀ {q : Addr} {u : Value}, w.cell? q = some u → ∀ o1, (w.alloc o1).cell? q = some u := fun h o1 => ((below_alloc (Below.refl w.heap.size w) o1).cell (World.block_lt_of_cell? w _ h)).trans h
  exact ⟨ad, rfl, g x0, g x1, g x2, g x3, g x4, g x5, g x6⟩
set_option maxHeartbeats 4000000 in
set_option maxRecDepth 100000 in
theorem within_0 (e0 : ((rd_T55 l0 n).f0 == 0) = true) :
    Calls Try.prog 63 #[.slice A0 l0.length c0, .string a1, .agg #[.int .i64 n, .bool b, .int .i64 m]] w fun e w' => ∃ v0_ : Value, e = .returned (v0_) ∧ Kd.R k97 97 w' w.heap.size (fun _ => True) v0_ ([⟨n, true, m⟩]) ∧ Below w.heap.size w w' := by
  obtain ⟨ad, e4, x0, x1, x2, x3, x4, x5, x6⟩ := within_pre A0 l0 n w hr0 h0 h1
  cases e4
  clear hr0
  generalize rd_T55 l0 n = z at *
  replace h0 := eq_true h0
  replace h1 := eq_true h1
  go_enter Try.func63, Try.ntmps63
  go_wp2
  go_ret
  refine ⟨_, rfl, row_of _ _ _ ?_ ?_ ⟨n, true, m⟩, (by repeat (first | exact Below.refl _ _ | apply below_alloc))⟩
  · simp
  · omega
set_option maxHeartbeats 4000000 in
set_option maxRecDepth 100000 in
theorem within_2 (e0 : ((rd_T55 l0 n).f0 == 0) = false) (e1 : ((rd_T55 l0 n).f0 == 1) = false) (e2 : ((rd_T55 l0 n).f0 == 2) = true) :
    Calls Try.prog 63 #[.slice A0 l0.length c0, .string a1, .agg #[.int .i64 n, .bool b, .int .i64 m]] w fun e w' => ∃ v0_ : Value, e = .returned (v0_) ∧ Kd.R k97 97 w' w.heap.size (fun _ => True) v0_ ([⟨(rd_T55 l0 n).f2.f0, false, m⟩]) ∧ Below w.heap.size w w' := by
  obtain ⟨ad, e4, x0, x1, x2, x3, x4, x5, x6⟩ := within_pre A0 l0 n w hr0 h0 h1
  cases e4
  clear hr0
  generalize rd_T55 l0 n = z at *
  replace h0 := eq_true h0
  replace h1 := eq_true h1
  go_enter Try.func63, Try.ntmps63
  go_wp2
  go_ret
  refine ⟨_, rfl, row_of _ _ _ ?_ ?_ ⟨z.f2.f0, false, m⟩, (by repeat (first | exact Below.refl _ _ | apply below_alloc))⟩
  · simp
  · omega
set_option maxHeartbeats 4000000 in
set_option maxRecDepth 100000 in
theorem within_5 (e0 : ((rd_T55 l0 n).f0 == 0) = false) (e1 : ((rd_T55 l0 n).f0 == 1) = false) (e2 : ((rd_T55 l0 n).f0 == 2) = false) (e5 : ((rd_T55 l0 n).f0 == 5) = true) :
    Calls Try.prog 63 #[.slice A0 l0.length c0, .string a1, .agg #[.int .i64 n, .bool b, .int .i64 m]] w fun e w' => ∃ v0_ : Value, e = .returned (v0_) ∧ Kd.R k97 97 w' w.heap.size (fun _ => True) v0_ ([⟨(rd_T55 l0 n).f2.f0, false, m⟩]) ∧ Below w.heap.size w w' := by
  obtain ⟨ad, e4, x0, x1, x2, x3, x4, x5, x6⟩ := within_pre A0 l0 n w hr0 h0 h1
  cases e4
  clear hr0
  generalize rd_T55 l0 n = z at *
  replace h0 := eq_true h0
  replace h1 := eq_true h1
  go_enter Try.func63, Try.ntmps63
  go_wp2
  go_ret
  refine ⟨_, rfl, row_of _ _ _ ?_ ?_ ⟨z.f2.f0, false, m⟩, (by repeat (first | exact Below.refl _ _ | apply below_alloc))⟩
  · simp
  · omega
set_option maxHeartbeats 4000000 in
set_option maxRecDepth 100000 in
theorem within_3 (e0 : ((rd_T55 l0 n).f0 == 0) = false) (e1 : ((rd_T55 l0 n).f0 == 1) = false) (e2 : ((rd_T55 l0 n).f0 == 2) = false) (e5 : ((rd_T55 l0 n).f0 == 5) = false) (e3 : ((rd_T55 l0 n).f0 == 3) = true) :
    Calls Try.prog 63 #[.slice A0 l0.length c0, .string a1, .agg #[.int .i64 n, .bool b, .int .i64 m]] w fun e w' => ∃ v0_ : Value, e = .returned (v0_) ∧ Kd.R k97 97 w' w.heap.size (fun _ => True) v0_ ([⟨(rd_T55 l0 n).f2.f0, false, m⟩, ⟨(rd_T55 l0 n).f2.f1, false, m⟩]) ∧ Below w.heap.size w w' := by
  obtain ⟨ad, e4, x0, x1, x2, x3, x4, x5, x6⟩ := within_pre A0 l0 n w hr0 h0 h1
  cases e4
  clear hr0
  generalize rd_T55 l0 n = z at *
  replace h0 := eq_true h0
  replace h1 := eq_true h1
  go_enter Try.func63, Try.ntmps63
  go_wp2
  go_ret
  refine ⟨_, rfl, row_two _ _ _ ?_ ?_ ⟨z.f2.f0, false, m⟩ ⟨z.f2.f1, false, m⟩, (by repeat (first | exact Below.refl _ _ | apply below_alloc))⟩
  · simp
  · omega
set_option maxHeartbeats 4000000 in
set_option maxRecDepth 100000 in
theorem within_4 (e0 : ((rd_T55 l0 n).f0 == 0) = false) (e1 : ((rd_T55 l0 n).f0 == 1) = false) (e2 : ((rd_T55 l0 n).f0 == 2) = false) (e5 : ((rd_T55 l0 n).f0 == 5) = false) (e3 : ((rd_T55 l0 n).f0 == 3) = false) (e4 : ((rd_T55 l0 n).f0 == 4) = true) :
    Calls Try.prog 63 #[.slice A0 l0.length c0, .string a1, .agg #[.int .i64 n, .bool b, .int .i64 m]] w fun e w' => ∃ v0_ : Value, e = .returned (v0_) ∧ Kd.R k97 97 w' w.heap.size (fun _ => True) v0_ ([⟨n, true, m⟩, ⟨(rd_T55 l0 n).f2.f0, false, m⟩]) ∧ Below w.heap.size w w' := by
  obtain ⟨ad, e4, x0, x1, x2, x3, x4, x5, x6⟩ := within_pre A0 l0 n w hr0 h0 h1
  cases e4
  clear hr0
  generalize rd_T55 l0 n = z at *
  replace h0 := eq_true h0
  replace h1 := eq_true h1
  go_enter Try.func63, Try.ntmps63
  go_wp2
  go_ret
  refine ⟨_, rfl, row_two _ _ _ ?_ ?_ ⟨n, true, m⟩ ⟨z.f2.f0, false, m⟩, (by repeat (first | exact Below.refl _ _ | apply below_alloc))⟩
  · simp
  · omega
set_option maxHeartbeats 4000000 in
set_option maxRecDepth 100000 in
theorem within_6 (e0 : ((rd_T55 l0 n).f0 == 0) = false) (e1 : ((rd_T55 l0 n).f0 == 1) = false) (e2 : ((rd_T55 l0 n).f0 == 2) = false) (e5 : ((rd_T55 l0 n).f0 == 5) = false) (e3 : ((rd_T55 l0 n).f0 == 3) = false) (e4 : ((rd_T55 l0 n).f0 == 4) = false) (e6 : ((rd_T55 l0 n).f0 == 6) = true) :
    Calls Try.prog 63 #[.slice A0 l0.length c0, .string a1, .agg #[.int .i64 n, .bool b, .int .i64 m]] w fun e w' => ∃ v0_ : Value, e = .returned (v0_) ∧ Kd.R k97 97 w' w.heap.size (fun _ => True) v0_ ([⟨n, true, m⟩, ⟨(rd_T55 l0 n).f2.f0, false, m⟩]) ∧ Below w.heap.size w w' := by
  obtain ⟨ad, e4, x0, x1, x2, x3, x4, x5, x6⟩ := within_pre A0 l0 n w hr0 h0 h1
  cases e4
  clear hr0
  generalize rd_T55 l0 n = z at *
  replace h0 := eq_true h0
  replace h1 := eq_true h1
  go_enter Try.func63, Try.ntmps63
  go_wp2
  go_ret
  refine ⟨_, rfl, row_two _ _ _ ?_ ?_ ⟨n, true, m⟩ ⟨z.f2.f0, false, m⟩, (by repeat (first | exact Below.refl _ _ | apply below_alloc))⟩
  · simp
  · omega
set_option maxHeartbeats 4000000 in
set_option maxRecDepth 100000 in
theorem within_7y (e0 : ((rd_T55 l0 n).f0 == 0) = false) (e1 : ((rd_T55 l0 n).f0 == 1) = false) (e2 : ((rd_T55 l0 n).f0 == 2) = false) (e5 : ((rd_T55 l0 n).f0 == 5) = false) (e3 : ((rd_T55 l0 n).f0 == 3) = false) (e4 : ((rd_T55 l0 n).f0 == 4) = false) (e6 : ((rd_T55 l0 n).f0 == 6) = false) (e7 : ((rd_T55 l0 n).f0 == 7) = true) (hm : (m == 0) = true) :
    Calls Try.prog 63 #[.slice A0 l0.length c0, .string a1, .agg #[.int .i64 n, .bool b, .int .i64 m]] w fun e w' => ∃ v0_ : Value, e = .returned (v0_) ∧ Kd.R k97 97 w' w.heap.size (fun _ => True) v0_ ([⟨n, true, m⟩]) ∧ Below w.heap.size w w' := by
  obtain ⟨ad, e4, x0, x1, x2, x3, x4, x5, x6⟩ := within_pre A0 l0 n w hr0 h0 h1
  cases e4
  clear hr0
  generalize rd_T55 l0 n = z at *
  replace h0 := eq_true h0
  replace h1 := eq_true h1
  go_enter Try.func63, Try.ntmps63
  go_wp2
  go_ret
  refine ⟨_, rfl, row_of _ _ _ ?_ ?_ ⟨n, true, m⟩, (by repeat (first | exact Below.refl _ _ | apply below_alloc))⟩
  · simp
  · omega
set_option maxHeartbeats 4000000 in
set_option maxRecDepth 100000 in
theorem within_7n (e0 : ((rd_T55 l0 n).f0 == 0) = false) (e1 : ((rd_T55 l0 n).f0 == 1) = false) (e2 : ((rd_T55 l0 n).f0 == 2) = false) (e5 : ((rd_T55 l0 n).f0 == 5) = false) (e3 : ((rd_T55 l0 n).f0 == 3) = false) (e4 : ((rd_T55 l0 n).f0 == 4) = false) (e6 : ((rd_T55 l0 n).f0 == 6) = false) (e7 : ((rd_T55 l0 n).f0 == 7) = true) (hm : (m == 0) = false) :
    Calls Try.prog 63 #[.slice A0 l0.length c0, .string a1, .agg #[.int .i64 n, .bool b, .int .i64 m]] w fun e w' => ∃ v0_ : Value, e = .returned (v0_) ∧ Kd.R k97 97 w' w.heap.size (fun _ => True) v0_ ([]) ∧ Below w.heap.size w w' := by
  obtain ⟨ad, e4, x0, x1, x2, x3, x4, x5, x6⟩ := within_pre A0 l0 n w hr0 h0 h1
  cases e4
  clear hr0
  generalize rd_T55 l0 n = z at *
  replace h0 := eq_true h0
  replace h1 := eq_true h1
  go_enter Try.func63, Try.ntmps63
  go_wp2
  go_ret
  exact ⟨_, rfl, Kd.R_nil _ _ _ _ _, (by repeat (first | exact Below.refl _ _ | apply below_alloc))⟩
set_option maxHeartbeats 4000000 in
set_option maxRecDepth 100000 in
theorem within_8y (e0 : ((rd_T55 l0 n).f0 == 0) = false) (e1 : ((rd_T55 l0 n).f0 == 1) = false) (e2 : ((rd_T55 l0 n).f0 == 2) = false) (e5 : ((rd_T55 l0 n).f0 == 5) = false) (e3 : ((rd_T55 l0 n).f0 == 3) = false) (e4 : ((rd_T55 l0 n).f0 == 4) = false) (e6 : ((rd_T55 l0 n).f0 == 6) = false) (e7 : ((rd_T55 l0 n).f0 == 7) = false) (hm : (m == (a1.size : Int)) = true) :
    Calls Try.prog 63 #[.slice A0 l0.length c0, .string a1, .agg #[.int .i64 n, .bool b, .int .i64 m]] w fun e w' => ∃ v0_ : Value, e = .returned (v0_) ∧ Kd.R k97 97 w' w.heap.size (fun _ => True) v0_ ([⟨n, true, m⟩]) ∧ Below w.heap.size w w' := by
  obtain ⟨ad, e4, x0, x1, x2, x3, x4, x5, x6⟩ := within_pre A0 l0 n w hr0 h0 h1
  cases e4
  clear hr0
  generalize rd_T55 l0 n = z at *
  replace h0 := eq_true h0
  replace h1 := eq_true h1
  go_enter Try.func63, Try.ntmps63
  go_wp2
  go_ret
  refine ⟨_, rfl, row_of _ _ _ ?_ ?_ ⟨n, true, m⟩, (by repeat (first | exact Below.refl _ _ | apply below_alloc))⟩
  · simp
  · omega
set_option maxHeartbeats 4000000 in
set_option maxRecDepth 100000 in
theorem within_8n (e0 : ((rd_T55 l0 n).f0 == 0) = false) (e1 : ((rd_T55 l0 n).f0 == 1) = false) (e2 : ((rd_T55 l0 n).f0 == 2) = false) (e5 : ((rd_T55 l0 n).f0 == 5) = false) (e3 : ((rd_T55 l0 n).f0 == 3) = false) (e4 : ((rd_T55 l0 n).f0 == 4) = false) (e6 : ((rd_T55 l0 n).f0 == 6) = false) (e7 : ((rd_T55 l0 n).f0 == 7) = false) (hm : (m == (a1.size : Int)) = false) :
    Calls Try.prog 63 #[.slice A0 l0.length c0, .string a1, .agg #[.int .i64 n, .bool b, .int .i64 m]] w fun e w' => ∃ v0_ : Value, e = .returned (v0_) ∧ Kd.R k97 97 w' w.heap.size (fun _ => True) v0_ ([]) ∧ Below w.heap.size w w' := by
  obtain ⟨ad, e4, x0, x1, x2, x3, x4, x5, x6⟩ := within_pre A0 l0 n w hr0 h0 h1
  cases e4
  clear hr0
  generalize rd_T55 l0 n = z at *
  replace h0 := eq_true h0
  replace h1 := eq_true h1
  go_enter Try.func63, Try.ntmps63
  go_wp2
  go_ret
  exact ⟨_, rfl, Kd.R_nil _ _ _ _ _, (by repeat (first | exact Below.refl _ _ | apply below_alloc))⟩
set_option maxHeartbeats 4000000 in
set_option maxRecDepth 100000 in
theorem within_1o (e0 : ((rd_T55 l0 n).f0 == 0) = false) (e1 : ((rd_T55 l0 n).f0 == 1) = true) (hm : decide (m < (a1.size : Int)) = false) :
    Calls Try.prog 63 #[.slice A0 l0.length c0, .string a1, .agg #[.int .i64 n, .bool b, .int .i64 m]] w fun e w' => ∃ v0_ : Value, e = .returned (v0_) ∧ Kd.R k97 97 w' w.heap.size (fun _ => True) v0_ ([]) ∧ Below w.heap.size w w' := by
  obtain ⟨ad, e4, x0, x1, x2, x3, x4, x5, x6⟩ := within_pre A0 l0 n w hr0 h0 h1
  cases e4
  clear hr0
  generalize rd_T55 l0 n = z at *
  replace h0 := eq_true h0
  replace h1 := eq_true h1
  have hu53 := Try.underlying53
  go_enter Try.func63, Try.ntmps63
  go_wp2
  go_quiet (fail)
  go_wp2
  go_ret
  exact ⟨_, rfl, Kd.R_nil _ _ _ _ _, (by repeat (first | exact Below.refl _ _ | apply below_alloc | apply pw_below_drewN))⟩
set_option maxHeartbeats 4000000 in
set_option maxRecDepth 100000 in
theorem within_1y (e0 : ((rd_T55 l0 n).f0 == 0) = false) (e1 : ((rd_T55 l0 n).f0 == 1) = true) (hm : m < (a1.size : Int)) (hm0 : 0 ≤ m) (ht : ref04_Has.f (rd_T55 l0 n).f1.f0 (rd_T55 l0 n).f1.f1 (rd_T55 l0 n).f1.f2 (rd_T55 l0 n).f1.f3 (bt a1 m) = some true) :
    Calls Try.prog 63 #[.slice A0 l0.length c0, .string a1, .agg #[.int .i64 n, .bool b, .int .i64 m]] w fun e w' => ∃ v0_ : Value, e = .returned (v0_) ∧ Kd.R k97 97 w' w.heap.size (fun _ => True) v0_ ([⟨n, true, wrap64 (m + 1)⟩]) ∧ Below w.heap.size w w' := by
  obtain ⟨ad, e4, x0, x1, x2, x3, x4, x5, x6⟩ := within_pre A0 l0 n w hr0 h0 h1
  cases e4
  clear hr0
  generalize rd_T55 l0 n = z at *
  replace h0 := eq_true h0
  replace h1 := eq_true h1
  have HT := Aside0.mk ht
  clear ht
  have b1 : decide (m < (a1.size : Int)) = true := decide_eq_true hm
  have b2 : decide (0 ≤ m) = true := decide_eq_true hm0
  have b3 : (m.toNat < a1.size) = True := eq_true (by omega)
  have hx := Go.Proofs.YthnfmpieoondaaaW.PrintWords.bt_at a1 m
  replace hm := eq_true hm
  replace hm0 := eq_true hm0
  go_enter Try.func63, Try.ntmps63
  go_wp2
  have HBW := Aside0.mk (show Below w.heap.size w ((((w.alloc (.cells #[.int .i64 n, .bool b, .int .i64 m] 97)).alloc (.cells #[.int .i64 z.f0, .int .u64 z.f1.f0, .int .u64 z.f1.f1, .int .u64 z.f1.f2, .int .u64 z.f1.f3, .int .i64 z.f2.f0, .int .i64 z.f2.f1] 55)).alloc (.cells #[.int .i64 n, .bool true, .int .i64 m] 97)).alloc (.cells #[.int .i64 z.f2.f0, .bool false, .int .i64 m] 97)) from below_alloc (below_alloc (below_alloc (below_alloc (Below.refl _ _) _) _) _) _)
  have K0 := Aside0.mk (show ((((w.alloc (.cells #[.int .i64 n, .bool b, .int .i64 m] 97)).alloc (.cells #[.int .i64 z.f0, .int .u64 z.f1.f0, .int .u64 z.f1.f1, .int .u64 z.f1.f2, .int .u64 z.f1.f3, .int .i64 z.f2.f0, .int .i64 z.f2.f1] 55)).alloc (.cells #[.int .i64 n, .bool true, .int .i64 m] 97)).alloc (.cells #[.int .i64 z.f2.f0, .bool false, .int .i64 m] 97)).heap[w.heap.size]? = some (.cells #[.int .i64 n, .bool b, .int .i64 m] 97 (0, 0)) from blk_alloc (blk_alloc (blk_alloc (blk_new w _) _) _) _)
  have K1 := Aside0.mk (show ((((w.alloc (.cells #[.int .i64 n, .bool b, .int .i64 m] 97)).alloc (.cells #[.int .i64 z.f0, .int .u64 z.f1.f0, .int .u64 z.f1.f1, .int .u64 z.f1.f2, .int .u64 z.f1.f3, .int .i64 z.f2.f0, .int .i64 z.f2.f1] 55)).alloc (.cells #[.int .i64 n, .bool true, .int .i64 m] 97)).alloc (.cells #[.int .i64 z.f2.f0, .bool false, .int .i64 m] 97)).heap[w.heap.size + 1]? = some (.cells #[.int .i64 z.f0, .int .u64 z.f1.f0, .int .u64 z.f1.f1, .int .u64 z.f1.f2, .int .u64 z.f1.f3, .int .i64 z.f2.f0, .int .i64 z.f2.f1] 55 (0, 0)) from blk_alloc (blk_alloc (by have h_ := blk_new (w.alloc (.cells #[.int .i64 n, .bool b, .int .i64 m] 97)) (.cells #[.int .i64 z.f0, .int .u64 z.f1.f0, .int .u64 z.f1.f1, .int .u64 z.f1.f2, .int .u64 z.f1.f3, .int .i64 z.f2.f0, .int .i64 z.f2.f1] 55); rwa [show (w.alloc (.cells #[.int .i64 n, .bool b, .int .i64 m] 97)).heap.size = w.heap.size + 1 by simp] at h_) _) _)
  generalize (((w.alloc (.cells #[.int .i64 n, .bool b, .int .i64 m] 97)).alloc (.cells #[.int .i64 z.f0, .int .u64 z.f1.f0, .int .u64 z.f1.f1, .int .u64 z.f1.f2, .int .u64 z.f1.f3, .int .i64 z.f2.f0, .int .i64 z.f2.f1] 55)).alloc (.cells #[.int .i64 n, .bool true, .int .i64 m] 97)).alloc (.cells #[.int .i64 z.f2.f0, .bool false, .int .i64 m] 97) = W4 at HBW K0 K1 ⊢
  have y0 : W4.cell? ⟨w.heap.size, 0, none⟩ = some (.int .i64 n) := (blk_cell K0.out 0).trans rfl
  have y2 : W4.cell? ⟨w.heap.size, 2, none⟩ = some (.int .i64 m) := (blk_cell K0.out 2).trans rfl
  have z1 : W4.cell? ⟨w.heap.size + 1, 1, none⟩ = some (.int .u64 z.f1.f0) := (blk_cell K1.out 1).trans rfl
  have z2 : W4.cell? ⟨w.heap.size + 1, 2, none⟩ = some (.int .u64 z.f1.f1) := (blk_cell K1.out 2).trans rfl
  have z3 : W4.cell? ⟨w.heap.size + 1, 3, none⟩ = some (.int .u64 z.f1.f2) := (blk_cell K1.out 3).trans rfl
  have z4 : W4.cell? ⟨w.heap.size + 1, 4, none⟩ = some (.int .u64 z.f1.f3) := (blk_cell K1.out 4).trans rfl
  clear x0 x1 x2 x3 x4 x5 x6
  go_region_held3 (fun w' => w'.cell? ⟨w.heap.size, 2, none⟩ = some (.int .i64 m) ∧ w'.cell? ⟨w.heap.size + 1, 1, none⟩ = some (.int .u64 z.f1.f0) ∧ w'.cell? ⟨w.heap.size + 1, 2, none⟩ = some (.int .u64 z.f1.f1) ∧ w'.cell? ⟨w.heap.size + 1, 3, none⟩ = some (.int .u64 z.f1.f2) ∧ w'.cell? ⟨w.heap.size + 1, 4, none⟩ = some (.int .u64 z.f1.f3)) (first | go_keep | (exact ⟨(blk_cell ((hb.block _ (blk_lt K0.out)).trans K0.out) 2).trans rfl, (blk_cell ((hb.block _ (blk_lt K1.out)).trans K1.out) 1).trans rfl, (blk_cell ((hb.block _ (blk_lt K1.out)).trans K1.out) 2).trans rfl, (blk_cell ((hb.block _ (blk_lt K1.out)).trans K1.out) 3).trans rfl, (blk_cell ((hb.block _ (blk_lt K1.out)).trans K1.out) 4).trans rfl⟩))
    (first | (go_at_call 66; refine (ref04_Has.calls _ _ _ _ _ _ _ HT.out).mono ?_; rintro e w' ⟨rfl, hb⟩))
  have hb1 := Aside0.mk (show Below W4.heap.size W4 w' from ⟨hb.os, hb.tape, hb.output, hb.size, hb.block⟩)
  have K2 := Aside0.mk ((hb1.out.block _ (blk_lt K0.out)).trans K0.out)
  have v0 : w'.cell? ⟨w.heap.size, 0, none⟩ = some (.int .i64 n) := (blk_cell K2.out 0).trans rfl
  have v2 : w'.cell? ⟨w.heap.size, 2, none⟩ = some (.int .i64 m) := (blk_cell K2.out 2).trans rfl
  have HBE := Aside0.mk (HBW.out.trans (hb1.out.mono HBW.out.size))
  clear hb y0 y2 z1 z2 z3 z4 K0 K1 hb1
  go_wp2
  go_ret
  exact ⟨_, rfl, row_of _ _ _ rfl HBE.out.size ⟨n, true, wrap64 (m + 1)⟩, below_alloc HBE.out _⟩
set_option maxHeartbeats 4000000 in
set_option maxRecDepth 100000 in
theorem within_1n (e0 : ((rd_T55 l0 n).f0 == 0) = false) (e1 : ((rd_T55 l0 n).f0 == 1) = true) (hm : m < (a1.size : Int)) (hm0 : 0 ≤ m) (ht : ref04_Has.f (rd_T55 l0 n).f1.f0 (rd_T55 l0 n).f1.f1 (rd_T55 l0 n).f1.f2 (rd_T55 l0 n).f1.f3 (bt a1 m) = some false) :
    Calls Try.prog 63 #[.slice A0 l0.length c0, .string a1, .agg #[.int .i64 n, .bool b, .int .i64 m]] w fun e w' => ∃ v0_ : Value, e = .returned (v0_) ∧ Kd.R k97 97 w' w.heap.size (fun _ => True) v0_ ([]) ∧ Below w.heap.size w w' := by
  obtain ⟨ad, e4, x0, x1, x2, x3, x4, x5, x6⟩ := within_pre A0 l0 n w hr0 h0 h1
  cases e4
  clear hr0
  generalize rd_T55 l0 n = z at *
  replace h0 := eq_true h0
  replace h1 := eq_true h1
  have HT := Aside0.mk ht
  clear ht
  have b1 : decide (m < (a1.size : Int)) = true := decide_eq_true hm
  have b2 : decide (0 ≤ m) = true := decide_eq_true hm0
  have b3 : (m.toNat < a1.size) = True := eq_true (by omega)
  have hx := Go.Proofs.YthnfmpieoondaaaW.PrintWords.bt_at a1 m
  replace hm := eq_true hm
  replace hm0 := eq_true hm0
  go_enter Try.func63, Try.ntmps63
  go_wp2
  have HBW := Aside0.mk (show Below w.heap.size w ((((w.alloc (.cells #[.int .i64 n, .bool b, .int .i64 m] 97)).alloc (.cells #[.int .i64 z.f0, .int .u64 z.f1.f0, .int .u64 z.f1.f1, .int .u64 z.f1.f2, .int .u64 z.f1.f3, .int .i64 z.f2.f0, .int .i64 z.f2.f1] 55)).alloc (.cells #[.int .i64 n, .bool true, .int .i64 m] 97)).alloc (.cells #[.int .i64 z.f2.f0, .bool false, .int .i64 m] 97)) from below_alloc (below_alloc (below_alloc (below_alloc (Below.refl _ _) _) _) _) _)
  have K0 := Aside0.mk (show ((((w.alloc (.cells #[.int .i64 n, .bool b, .int .i64 m] 97)).alloc (.cells #[.int .i64 z.f0, .int .u64 z.f1.f0, .int .u64 z.f1.f1, .int .u64 z.f1.f2, .int .u64 z.f1.f3, .int .i64 z.f2.f0, .int .i64 z.f2.f1] 55)).alloc (.cells #[.int .i64 n, .bool true, .int .i64 m] 97)).alloc (.cells #[.int .i64 z.f2.f0, .bool false, .int .i64 m] 97)).heap[w.heap.size]? = some (.cells #[.int .i64 n, .bool b, .int .i64 m] 97 (0, 0)) from blk_alloc (blk_alloc (blk_alloc (blk_new w _) _) _) _)
  have K1 := Aside0.mk (show ((((w.alloc (.cells #[.int .i64 n, .bool b, .int .i64 m] 97)).alloc (.cells #[.int .i64 z.f0, .int .u64 z.f1.f0, .int .u64 z.f1.f1, .int .u64 z.f1.f2, .int .u64 z.f1.f3, .int .i64 z.f2.f0, .int .i64 z.f2.f1] 55)).alloc (.cells #[.int .i64 n, .bool true, .int .i64 m] 97)).alloc (.cells #[.int .i64 z.f2.f0, .bool false, .int .i64 m] 97)).heap[w.heap.size + 1]? = some (.cells #[.int .i64 z.f0, .int .u64 z.f1.f0, .int .u64 z.f1.f1, .int .u64 z.f1.f2, .int .u64 z.f1.f3, .int .i64 z.f2.f0, .int .i64 z.f2.f1] 55 (0, 0)) from blk_alloc (blk_alloc (by have h_ := blk_new (w.alloc (.cells #[.int .i64 n, .bool b, .int .i64 m] 97)) (.cells #[.int .i64 z.f0, .int .u64 z.f1.f0, .int .u64 z.f1.f1, .int .u64 z.f1.f2, .int .u64 z.f1.f3, .int .i64 z.f2.f0, .int .i64 z.f2.f1] 55); rwa [show (w.alloc (.cells #[.int .i64 n, .bool b, .int .i64 m] 97)).heap.size = w.heap.size + 1 by simp] at h_) _) _)
  generalize (((w.alloc (.cells #[.int .i64 n, .bool b, .int .i64 m] 97)).alloc (.cells #[.int .i64 z.f0, .int .u64 z.f1.f0, .int .u64 z.f1.f1, .int .u64 z.f1.f2, .int .u64 z.f1.f3, .int .i64 z.f2.f0, .int .i64 z.f2.f1] 55)).alloc (.cells #[.int .i64 n, .bool true, .int .i64 m] 97)).alloc (.cells #[.int .i64 z.f2.f0, .bool false, .int .i64 m] 97) = W4 at HBW K0 K1 ⊢
  have y0 : W4.cell? ⟨w.heap.size, 0, none⟩ = some (.int .i64 n) := (blk_cell K0.out 0).trans rfl
  have y2 : W4.cell? ⟨w.heap.size, 2, none⟩ = some (.int .i64 m) := (blk_cell K0.out 2).trans rfl
  have z1 : W4.cell? ⟨w.heap.size + 1, 1, none⟩ = some (.int .u64 z.f1.f0) := (blk_cell K1.out 1).trans rfl
  have z2 : W4.cell? ⟨w.heap.size + 1, 2, none⟩ = some (.int .u64 z.f1.f1) := (blk_cell K1.out 2).trans rfl
  have z3 : W4.cell? ⟨w.heap.size + 1, 3, none⟩ = some (.int .u64 z.f1.f2) := (blk_cell K1.out 3).trans rfl
  have z4 : W4.cell? ⟨w.heap.size + 1, 4, none⟩ = some (.int .u64 z.f1.f3) := (blk_cell K1.out 4).trans rfl
  clear x0 x1 x2 x3 x4 x5 x6
  go_region_held3 (fun w' => w'.cell? ⟨w.heap.size, 2, none⟩ = some (.int .i64 m) ∧ w'.cell? ⟨w.heap.size + 1, 1, none⟩ = some (.int .u64 z.f1.f0) ∧ w'.cell? ⟨w.heap.size + 1, 2, none⟩ = some (.int .u64 z.f1.f1) ∧ w'.cell? ⟨w.heap.size + 1, 3, none⟩ = some (.int .u64 z.f1.f2) ∧ w'.cell? ⟨w.heap.size + 1, 4, none⟩ = some (.int .u64 z.f1.f3)) (first | go_keep | (exact ⟨(blk_cell ((hb.block _ (blk_lt K0.out)).trans K0.out) 2).trans rfl, (blk_cell ((hb.block _ (blk_lt K1.out)).trans K1.out) 1).trans rfl, (blk_cell ((hb.block _ (blk_lt K1.out)).trans K1.out) 2).trans rfl, (blk_cell ((hb.block _ (blk_lt K1.out)).trans K1.out) 3).trans rfl, (blk_cell ((hb.block _ (blk_lt K1.out)).trans K1.out) 4).trans rfl⟩))
    (first | (go_at_call 66; refine (ref04_Has.calls _ _ _ _ _ _ _ HT.out).mono ?_; rintro e w' ⟨rfl, hb⟩))
  have hb1 := Aside0.mk (show Below W4.heap.size W4 w' from ⟨hb.os, hb.tape, hb.output, hb.size, hb.block⟩)
  have K2 := Aside0.mk ((hb1.out.block _ (blk_lt K0.out)).trans K0.out)
  have v0 : w'.cell? ⟨w.heap.size, 0, none⟩ = some (.int .i64 n) := (blk_cell K2.out 0).trans rfl
  have v2 : w'.cell? ⟨w.heap.size, 2, none⟩ = some (.int .i64 m) := (blk_cell K2.out 2).trans rfl
  have HBE := Aside0.mk (HBW.out.trans (hb1.out.mono HBW.out.size))
  clear hb y0 y2 z1 z2 z3 z4 K0 K1 hb1
  go_wp2
  go_ret
  exact ⟨_, rfl, Kd.R_nil _ _ _ _ _, HBE.out⟩
end
end Go.Proofs.Ythnfmpieoondaaa.QB
