/- Functions on classes, walked. -/
import Derived.Test.YthnfmpieoondaaaJQAx
set_option linter.unusedVariables false
set_option linter.unusedSimpArgs false
namespace Go.Proofs.Ythnfmpieoondaaa.G
open Go.RowKit Go.Proofs.YthnfmpieoondaaaW.PrintWords Go.Proofs.YthnfmpieoondaaaW.PrintLast Go.Proofs.YthnfmpieoondaaaW.PrintMore Go.Proofs.Ythnfmpieoondaaa.QA
/-- A member of a class, by its place. -/
def sel (a b c d : Int) (i : Int) : Int := if i = 0 then a else if i = 1 then b else if i = 2 then c else d

set_option maxHeartbeats 4000000 in
set_option maxRecDepth 100000 in
theorem has_0 (a b c d x : Int) (w : World) (h0 : 0 ≤ x) (h1 : x ≤ 255) (hq : x / 64 = 0) :
    Calls Try.prog 77 #[.agg #[.int .u64 a, .int .u64 b, .int .u64 c, .int .u64 d], .int .u8 x] w fun e w' => e = .returned (.bool (bits .and .u64 (a / 2 ^ (x % 64).toNat) 1 == 1)) ∧ Below w.heap.size w w' := by
  go_enter Try.func77, Try.ntmps77
  go_wp2
  go_ret
  exact ⟨rfl, (Below.refl _ _).alloc (Nat.le_refl _) _⟩

set_option maxHeartbeats 4000000 in
set_option maxRecDepth 100000 in
theorem has_1 (a b c d x : Int) (w : World) (h0 : 0 ≤ x) (h1 : x ≤ 255) (hq : x / 64 = 1) :
    Calls Try.prog 77 #[.agg #[.int .u64 a, .int .u64 b, .int .u64 c, .int .u64 d], .int .u8 x] w fun e w' => e = .returned (.bool (bits .and .u64 (b / 2 ^ (x % 64).toNat) 1 == 1)) ∧ Below w.heap.size w w' := by
  go_enter Try.func77, Try.ntmps77
  go_wp2
  go_ret
  exact ⟨rfl, (Below.refl _ _).alloc (Nat.le_refl _) _⟩

set_option maxHeartbeats 4000000 in
set_option maxRecDepth 100000 in
theorem has_2 (a b c d x : Int) (w : World) (h0 : 0 ≤ x) (h1 : x ≤ 255) (hq : x / 64 = 2) :
    Calls Try.prog 77 #[.agg #[.int .u64 a, .int .u64 b, .int .u64 c, .int .u64 d], .int .u8 x] w fun e w' => e = .returned (.bool (bits .and .u64 (c / 2 ^ (x % 64).toNat) 1 == 1)) ∧ Below w.heap.size w w' := by
  go_enter Try.func77, Try.ntmps77
  go_wp2
  go_ret
  exact ⟨rfl, (Below.refl _ _).alloc (Nat.le_refl _) _⟩

set_option maxHeartbeats 4000000 in
set_option maxRecDepth 100000 in
theorem has_3 (a b c d x : Int) (w : World) (h0 : 0 ≤ x) (h1 : x ≤ 255) (hq : x / 64 = 3) :
    Calls Try.prog 77 #[.agg #[.int .u64 a, .int .u64 b, .int .u64 c, .int .u64 d], .int .u8 x] w fun e w' => e = .returned (.bool (bits .and .u64 (d / 2 ^ (x % 64).toNat) 1 == 1)) ∧ Below w.heap.size w w' := by
  go_enter Try.func77, Try.ntmps77
  go_wp2
  go_ret
  exact ⟨rfl, (Below.refl _ _).alloc (Nat.le_refl _) _⟩

def class_Has.f (a b c d x : Int) : Option Bool := if 0 ≤ x ∧ x ≤ 255 then some (bits .and .u64 (sel a b c d (x / 64) / 2 ^ (x % 64).toNat) 1 == 1) else none
theorem class_Has.calls (a b c d x : Int) (r : Bool) (w : World) (h : class_Has.f a b c d x = some r) :
    Calls Try.prog 77 #[.agg #[.int .u64 a, .int .u64 b, .int .u64 c, .int .u64 d], .int .u8 x] w fun e w' => e = .returned (.bool r) ∧ Below w.heap.size w w' := by
  unfold class_Has.f at h
  by_cases hx : 0 ≤ x ∧ x ≤ 255
  · rw [if_pos hx] at h
    obtain rfl := Option.some.inj h
    have hq : x / 64 = 0 ∨ x / 64 = 1 ∨ x / 64 = 2 ∨ x / 64 = 3 := by omega
    rcases hq with hq | hq | hq | hq
    · have := has_0 a b c d x w hx.1 hx.2 hq; unfold sel; rw [if_pos hq]; exact this
    · have := has_1 a b c d x w hx.1 hx.2 hq; unfold sel; rw [if_neg (by omega), if_pos hq]; exact this
    · have := has_2 a b c d x w hx.1 hx.2 hq; unfold sel; rw [if_neg (by omega), if_neg (by omega), if_pos hq]; exact this
    · have := has_3 a b c d x w hx.1 hx.2 hq; unfold sel; rw [if_neg (by omega), if_neg (by omega), if_neg (by omega)]; exact this
  · rw [if_neg hx] at h; cases h


theorem pow_ne (x : Int) (h0 : 0 ≤ x) : IntKind.u64.wrap (2 ^ (x % 64).toNat) ≠ 0 := by
  have hn : (x % 64).toNat < 64 := by omega
  generalize (x % 64).toNat = n at hn
  have h : (2 : Nat) ^ n < 2 ^ 64 := Nat.pow_lt_pow_right (by decide) hn
  have h2 : 0 < (2 : Nat) ^ n := Nat.pow_pos (by decide)
  have e : ((2 : Int) ^ n) = ((2 ^ n : Nat) : Int) := by simp
  rw [e]
  simp only [IntKind.wrap, IntKind.bits, IntKind.signed]
  have h64 : (2 : Nat) ^ 64 = 18446744073709551616 := by decide
  rw [h64] at h
  simp
  omega

set_option maxHeartbeats 4000000 in
set_option maxRecDepth 100000 in
theorem rhas_0 (a b c d x : Int) (w : World) (h0 : 0 ≤ x) (h1 : x ≤ 255) (hq : x / 64 = 0) :
    Calls Try.prog 66 #[.agg #[.int .u64 a, .int .u64 b, .int .u64 c, .int .u64 d], .int .u8 x] w fun e w' => e = .returned (.bool ((IntKind.u64.wrap (Int.tdiv a (IntKind.u64.wrap (2 ^ (x % 64).toNat)))).tmod 2 == 1)) ∧ Below w.heap.size w w' := by
  have hz := pow_ne x h0
  go_enter Try.func66, Try.ntmps66
  go_wp2
  go_ret
  exact ⟨rfl, (Below.refl _ _).alloc (Nat.le_refl _) _⟩

set_option maxHeartbeats 4000000 in
set_option maxRecDepth 100000 in
theorem rhas_1 (a b c d x : Int) (w : World) (h0 : 0 ≤ x) (h1 : x ≤ 255) (hq : x / 64 = 1) :
    Calls Try.prog 66 #[.agg #[.int .u64 a, .int .u64 b, .int .u64 c, .int .u64 d], .int .u8 x] w fun e w' => e = .returned (.bool ((IntKind.u64.wrap (Int.tdiv b (IntKind.u64.wrap (2 ^ (x % 64).toNat)))).tmod 2 == 1)) ∧ Below w.heap.size w w' := by
  have hz := pow_ne x h0
  go_enter Try.func66, Try.ntmps66
  go_wp2
  go_ret
  exact ⟨rfl, (Below.refl _ _).alloc (Nat.le_refl _) _⟩

set_option maxHeartbeats 4000000 in
set_option maxRecDepth 100000 in
theorem rhas_2 (a b c d x : Int) (w : World) (h0 : 0 ≤ x) (h1 : x ≤ 255) (hq : x / 64 = 2) :
    Calls Try.prog 66 #[.agg #[.int .u64 a, .int .u64 b, .int .u64 c, .int .u64 d], .int .u8 x] w fun e w' => e = .returned (.bool ((IntKind.u64.wrap (Int.tdiv c (IntKind.u64.wrap (2 ^ (x % 64).toNat)))).tmod 2 == 1)) ∧ Below w.heap.size w w' := by
  have hz := pow_ne x h0
  go_enter Try.func66, Try.ntmps66
  go_wp2
  go_ret
  exact ⟨rfl, (Below.refl _ _).alloc (Nat.le_refl _) _⟩

set_option maxHeartbeats 4000000 in
set_option maxRecDepth 100000 in
theorem rhas_3 (a b c d x : Int) (w : World) (h0 : 0 ≤ x) (h1 : x ≤ 255) (hq : x / 64 = 3) :
    Calls Try.prog 66 #[.agg #[.int .u64 a, .int .u64 b, .int .u64 c, .int .u64 d], .int .u8 x] w fun e w' => e = .returned (.bool ((IntKind.u64.wrap (Int.tdiv d (IntKind.u64.wrap (2 ^ (x % 64).toNat)))).tmod 2 == 1)) ∧ Below w.heap.size w w' := by
  have hz := pow_ne x h0
  go_enter Try.func66, Try.ntmps66
  go_wp2
  go_ret
  exact ⟨rfl, (Below.refl _ _).alloc (Nat.le_refl _) _⟩

def ref04_Has.f (a b c d x : Int) : Option Bool := if 0 ≤ x ∧ x ≤ 255 then some ((IntKind.u64.wrap (Int.tdiv (sel a b c d (x / 64)) (IntKind.u64.wrap (2 ^ (x % 64).toNat)))).tmod 2 == 1) else none
theorem ref04_Has.calls (a b c d x : Int) (r : Bool) (w : World) (h : ref04_Has.f a b c d x = some r) :
    Calls Try.prog 66 #[.agg #[.int .u64 a, .int .u64 b, .int .u64 c, .int .u64 d], .int .u8 x] w fun e w' => e = .returned (.bool r) ∧ Below w.heap.size w w' := by
  unfold ref04_Has.f at h
  by_cases hx : 0 ≤ x ∧ x ≤ 255
  · rw [if_pos hx] at h
    obtain rfl := Option.some.inj h
    have hq : x / 64 = 0 ∨ x / 64 = 1 ∨ x / 64 = 2 ∨ x / 64 = 3 := by omega
    rcases hq with hq | hq | hq | hq
    · have := rhas_0 a b c d x w hx.1 hx.2 hq; unfold sel; rw [if_pos hq]; exact this
    · have := rhas_1 a b c d x w hx.1 hx.2 hq; unfold sel; rw [if_neg (by omega), if_pos hq]; exact this
    · have := rhas_2 a b c d x w hx.1 hx.2 hq; unfold sel; rw [if_neg (by omega), if_neg (by omega), if_pos hq]; exact this
    · have := rhas_3 a b c d x w hx.1 hx.2 hq; unfold sel; rw [if_neg (by omega), if_neg (by omega), if_neg (by omega)]; exact this
  · rw [if_neg hx] at h; cases h

set_option maxHeartbeats 4000000 in
set_option maxRecDepth 100000 in
theorem with_yes (a b c d x : Int) (w : World) (hc : ∀ w, Calls Try.prog 66 #[.agg #[.int .u64 a, .int .u64 b, .int .u64 c, .int .u64 d], .int .u8 x] w fun e w' => e = .returned (.bool true) ∧ Below w.heap.size w w') :
    Calls Try.prog 48 #[.agg #[.int .u64 a, .int .u64 b, .int .u64 c, .int .u64 d], .int .u8 x] w fun e w' => e = .returned (.agg #[.int .u64 a, .int .u64 b, .int .u64 c, .int .u64 d]) ∧ Below w.heap.size w w' := by
  go_enter Try.func48, Try.ntmps48
  go_wp2_with fail
  refine (hc _).mono ?_
  rintro e w' ⟨rfl, hb⟩
  have b1 : w'.heap[w.heap.size]? = some (.cells #[.int .u64 a, .int .u64 b, .int .u64 c, .int .u64 d] 53 (0, 0)) := blk_below (blk_alloc (blk_new w _) _) hb
  have b2 : w'.heap[w.heap.size + 1]? = some (.cells #[.int .u64 0, .int .u64 0, .int .u64 0, .int .u64 0] 53 (0, 0)) := blk_below (by have h := blk_new (w.alloc (.cells #[.int .u64 a, .int .u64 b, .int .u64 c, .int .u64 d] 53)) (.cells #[.int .u64 0, .int .u64 0, .int .u64 0, .int .u64 0] 53); rw [World.size_alloc] at h; exact h) hb
  have c0 : w'.cell? ⟨w.heap.size, 0, none⟩ = some (.int .u64 a) := (blk_cell b1 0).trans rfl
  have c1 : w'.cell? ⟨w.heap.size, 1, none⟩ = some (.int .u64 b) := (blk_cell b1 1).trans rfl
  have c2 : w'.cell? ⟨w.heap.size, 2, none⟩ = some (.int .u64 c) := (blk_cell b1 2).trans rfl
  have c3 : w'.cell? ⟨w.heap.size, 3, none⟩ = some (.int .u64 d) := (blk_cell b1 3).trans rfl
  have d0 : w'.cell? ⟨w.heap.size + 1, 0, none⟩ = some (.int .u64 0) := (blk_cell b2 0).trans rfl
  have d1 : w'.cell? ⟨w.heap.size + 1, 1, none⟩ = some (.int .u64 0) := (blk_cell b2 1).trans rfl
  have d2 : w'.cell? ⟨w.heap.size + 1, 2, none⟩ = some (.int .u64 0) := (blk_cell b2 2).trans rfl
  have d3 : w'.cell? ⟨w.heap.size + 1, 3, none⟩ = some (.int .u64 0) := (blk_cell b2 3).trans rfl
  have f0 : ∀ i, w'.frozen? ⟨w.heap.size, i, none⟩ = false := fun i => blk_frozen b1 i
  have f1 : ∀ i, w'.frozen? ⟨w.heap.size + 1, i, none⟩ = false := fun i => blk_frozen b2 i
  have HB : Aside0 (Below w.heap.size w w') := ⟨below_then ((((Below.refl _ _).alloc (Nat.le_refl _) _).alloc (by simp) _)) (by simp; omega) hb⟩
  clear hb b1 b2 hc
  go_wp2
  refine bodyPost_ret (v := .agg #[.int .u64 a, .int .u64 b, .int .u64 c, .int .u64 d]) ?_ rfl ⟨rfl, ?_⟩
  · simp [results, Try.results48, go_sem, d0, d1, d2, d3, f1]
  · exact (((HB.out.setCell (by simp) _).setCell (by simp) _).setCell (by simp) _).setCell (by simp) _
set_option maxHeartbeats 4000000 in
set_option maxRecDepth 100000 in
theorem with_no0 (a b c d x : Int) (w : World) (h0 : 0 ≤ x) (h1 : x ≤ 255) (hq : x / 64 = 0) (hc : ∀ w, Calls Try.prog 66 #[.agg #[.int .u64 a, .int .u64 b, .int .u64 c, .int .u64 d], .int .u8 x] w fun e w' => e = .returned (.bool false) ∧ Below w.heap.size w w') :
    Calls Try.prog 48 #[.agg #[.int .u64 a, .int .u64 b, .int .u64 c, .int .u64 d], .int .u8 x] w fun e w' => e = .returned (.agg #[.int .u64 (IntKind.u64.wrap (a + IntKind.u64.wrap (2 ^ (x % 64).toNat))), .int .u64 b, .int .u64 c, .int .u64 d]) ∧ Below w.heap.size w w' := by
  go_enter Try.func48, Try.ntmps48
  go_wp2_with fail
  refine (hc _).mono ?_
  rintro e w' ⟨rfl, hb⟩
  have b1 : w'.heap[w.heap.size]? = some (.cells #[.int .u64 a, .int .u64 b, .int .u64 c, .int .u64 d] 53 (0, 0)) := blk_below (blk_alloc (blk_new w _) _) hb
  have b2 : w'.heap[w.heap.size + 1]? = some (.cells #[.int .u64 0, .int .u64 0, .int .u64 0, .int .u64 0] 53 (0, 0)) := blk_below (by have h := blk_new (w.alloc (.cells #[.int .u64 a, .int .u64 b, .int .u64 c, .int .u64 d] 53)) (.cells #[.int .u64 0, .int .u64 0, .int .u64 0, .int .u64 0] 53); rw [World.size_alloc] at h; exact h) hb
  have c0 : w'.cell? ⟨w.heap.size, 0, none⟩ = some (.int .u64 a) := (blk_cell b1 0).trans rfl
  have c1 : w'.cell? ⟨w.heap.size, 1, none⟩ = some (.int .u64 b) := (blk_cell b1 1).trans rfl
  have c2 : w'.cell? ⟨w.heap.size, 2, none⟩ = some (.int .u64 c) := (blk_cell b1 2).trans rfl
  have c3 : w'.cell? ⟨w.heap.size, 3, none⟩ = some (.int .u64 d) := (blk_cell b1 3).trans rfl
  have d0 : w'.cell? ⟨w.heap.size + 1, 0, none⟩ = some (.int .u64 0) := (blk_cell b2 0).trans rfl
  have d1 : w'.cell? ⟨w.heap.size + 1, 1, none⟩ = some (.int .u64 0) := (blk_cell b2 1).trans rfl
  have d2 : w'.cell? ⟨w.heap.size + 1, 2, none⟩ = some (.int .u64 0) := (blk_cell b2 2).trans rfl
  have d3 : w'.cell? ⟨w.heap.size + 1, 3, none⟩ = some (.int .u64 0) := (blk_cell b2 3).trans rfl
  have f0 : ∀ i, w'.frozen? ⟨w.heap.size, i, none⟩ = false := fun i => blk_frozen b1 i
  have f1 : ∀ i, w'.frozen? ⟨w.heap.size + 1, i, none⟩ = false := fun i => blk_frozen b2 i
  have HB : Aside0 (Below w.heap.size w w') := ⟨below_then ((((Below.refl _ _).alloc (Nat.le_refl _) _).alloc (by simp) _)) (by simp; omega) hb⟩
  clear hb b1 b2 hc
  go_wp2
  refine bodyPost_ret (v := .agg #[.int .u64 (IntKind.u64.wrap (a + IntKind.u64.wrap (2 ^ (x % 64).toNat))), .int .u64 b, .int .u64 c, .int .u64 d]) ?_ rfl ⟨rfl, ?_⟩
  · simp [results, Try.results48, go_sem, d0, d1, d2, d3, f1]
  · exact ((((HB.out.setCell (by simp) _).setCell (by simp) _).setCell (by simp) _).setCell (by simp) _).setCell (by simp) _
set_option maxHeartbeats 4000000 in
set_option maxRecDepth 100000 in
theorem with_no1 (a b c d x : Int) (w : World) (h0 : 0 ≤ x) (h1 : x ≤ 255) (hq : x / 64 = 1) (hc : ∀ w, Calls Try.prog 66 #[.agg #[.int .u64 a, .int .u64 b, .int .u64 c, .int .u64 d], .int .u8 x] w fun e w' => e = .returned (.bool false) ∧ Below w.heap.size w w') :
    Calls Try.prog 48 #[.agg #[.int .u64 a, .int .u64 b, .int .u64 c, .int .u64 d], .int .u8 x] w fun e w' => e = .returned (.agg #[.int .u64 a, .int .u64 (IntKind.u64.wrap (b + IntKind.u64.wrap (2 ^ (x % 64).toNat))), .int .u64 c, .int .u64 d]) ∧ Below w.heap.size w w' := by
  go_enter Try.func48, Try.ntmps48
  go_wp2_with fail
  refine (hc _).mono ?_
  rintro e w' ⟨rfl, hb⟩
  have b1 : w'.heap[w.heap.size]? = some (.cells #[.int .u64 a, .int .u64 b, .int .u64 c, .int .u64 d] 53 (0, 0)) := blk_below (blk_alloc (blk_new w _) _) hb
  have b2 : w'.heap[w.heap.size + 1]? = some (.cells #[.int .u64 0, .int .u64 0, .int .u64 0, .int .u64 0] 53 (0, 0)) := blk_below (by have h := blk_new (w.alloc (.cells #[.int .u64 a, .int .u64 b, .int .u64 c, .int .u64 d] 53)) (.cells #[.int .u64 0, .int .u64 0, .int .u64 0, .int .u64 0] 53); rw [World.size_alloc] at h; exact h) hb
  have c0 : w'.cell? ⟨w.heap.size, 0, none⟩ = some (.int .u64 a) := (blk_cell b1 0).trans rfl
  have c1 : w'.cell? ⟨w.heap.size, 1, none⟩ = some (.int .u64 b) := (blk_cell b1 1).trans rfl
  have c2 : w'.cell? ⟨w.heap.size, 2, none⟩ = some (.int .u64 c) := (blk_cell b1 2).trans rfl
  have c3 : w'.cell? ⟨w.heap.size, 3, none⟩ = some (.int .u64 d) := (blk_cell b1 3).trans rfl
  have d0 : w'.cell? ⟨w.heap.size + 1, 0, none⟩ = some (.int .u64 0) := (blk_cell b2 0).trans rfl
  have d1 : w'.cell? ⟨w.heap.size + 1, 1, none⟩ = some (.int .u64 0) := (blk_cell b2 1).trans rfl
  have d2 : w'.cell? ⟨w.heap.size + 1, 2, none⟩ = some (.int .u64 0) := (blk_cell b2 2).trans rfl
  have d3 : w'.cell? ⟨w.heap.size + 1, 3, none⟩ = some (.int .u64 0) := (blk_cell b2 3).trans rfl
  have f0 : ∀ i, w'.frozen? ⟨w.heap.size, i, none⟩ = false := fun i => blk_frozen b1 i
  have f1 : ∀ i, w'.frozen? ⟨w.heap.size + 1, i, none⟩ = false := fun i => blk_frozen b2 i
  have HB : Aside0 (Below w.heap.size w w') := ⟨below_then ((((Below.refl _ _).alloc (Nat.le_refl _) _).alloc (by simp) _)) (by simp; omega) hb⟩
  clear hb b1 b2 hc
  go_wp2
  refine bodyPost_ret (v := .agg #[.int .u64 a, .int .u64 (IntKind.u64.wrap (b + IntKind.u64.wrap (2 ^ (x % 64).toNat))), .int .u64 c, .int .u64 d]) ?_ rfl ⟨rfl, ?_⟩
  · simp [results, Try.results48, go_sem, d0, d1, d2, d3, f1]
  · exact ((((HB.out.setCell (by simp) _).setCell (by simp) _).setCell (by simp) _).setCell (by simp) _).setCell (by simp) _
set_option maxHeartbeats 4000000 in
set_option maxRecDepth 100000 in
theorem with_no2 (a b c d x : Int) (w : World) (h0 : 0 ≤ x) (h1 : x ≤ 255) (hq : x / 64 = 2) (hc : ∀ w, Calls Try.prog 66 #[.agg #[.int .u64 a, .int .u64 b, .int .u64 c, .int .u64 d], .int .u8 x] w fun e w' => e = .returned (.bool false) ∧ Below w.heap.size w w') :
    Calls Try.prog 48 #[.agg #[.int .u64 a, .int .u64 b, .int .u64 c, .int .u64 d], .int .u8 x] w fun e w' => e = .returned (.agg #[.int .u64 a, .int .u64 b, .int .u64 (IntKind.u64.wrap (c + IntKind.u64.wrap (2 ^ (x % 64).toNat))), .int .u64 d]) ∧ Below w.heap.size w w' := by
  go_enter Try.func48, Try.ntmps48
  go_wp2_with fail
  refine (hc _).mono ?_
  rintro e w' ⟨rfl, hb⟩
  have b1 : w'.heap[w.heap.size]? = some (.cells #[.int .u64 a, .int .u64 b, .int .u64 c, .int .u64 d] 53 (0, 0)) := blk_below (blk_alloc (blk_new w _) _) hb
  have b2 : w'.heap[w.heap.size + 1]? = some (.cells #[.int .u64 0, .int .u64 0, .int .u64 0, .int .u64 0] 53 (0, 0)) := blk_below (by have h := blk_new (w.alloc (.cells #[.int .u64 a, .int .u64 b, .int .u64 c, .int .u64 d] 53)) (.cells #[.int .u64 0, .int .u64 0, .int .u64 0, .int .u64 0] 53); rw [World.size_alloc] at h; exact h) hb
  have c0 : w'.cell? ⟨w.heap.size, 0, none⟩ = some (.int .u64 a) := (blk_cell b1 0).trans rfl
  have c1 : w'.cell? ⟨w.heap.size, 1, none⟩ = some (.int .u64 b) := (blk_cell b1 1).trans rfl
  have c2 : w'.cell? ⟨w.heap.size, 2, none⟩ = some (.int .u64 c) := (blk_cell b1 2).trans rfl
  have c3 : w'.cell? ⟨w.heap.size, 3, none⟩ = some (.int .u64 d) := (blk_cell b1 3).trans rfl
  have d0 : w'.cell? ⟨w.heap.size + 1, 0, none⟩ = some (.int .u64 0) := (blk_cell b2 0).trans rfl
  have d1 : w'.cell? ⟨w.heap.size + 1, 1, none⟩ = some (.int .u64 0) := (blk_cell b2 1).trans rfl
  have d2 : w'.cell? ⟨w.heap.size + 1, 2, none⟩ = some (.int .u64 0) := (blk_cell b2 2).trans rfl
  have d3 : w'.cell? ⟨w.heap.size + 1, 3, none⟩ = some (.int .u64 0) := (blk_cell b2 3).trans rfl
  have f0 : ∀ i, w'.frozen? ⟨w.heap.size, i, none⟩ = false := fun i => blk_frozen b1 i
  have f1 : ∀ i, w'.frozen? ⟨w.heap.size + 1, i, none⟩ = false := fun i => blk_frozen b2 i
  have HB : Aside0 (Below w.heap.size w w') := ⟨below_then ((((Below.refl _ _).alloc (Nat.le_refl _) _).alloc (by simp) _)) (by simp; omega) hb⟩
  clear hb b1 b2 hc
  go_wp2
  refine bodyPost_ret (v := .agg #[.int .u64 a, .int .u64 b, .int .u64 (IntKind.u64.wrap (c + IntKind.u64.wrap (2 ^ (x % 64).toNat))), .int .u64 d]) ?_ rfl ⟨rfl, ?_⟩
  · simp [results, Try.results48, go_sem, d0, d1, d2, d3, f1]
  · exact ((((HB.out.setCell (by simp) _).setCell (by simp) _).setCell (by simp) _).setCell (by simp) _).setCell (by simp) _
set_option maxHeartbeats 4000000 in
set_option maxRecDepth 100000 in
theorem with_no3 (a b c d x : Int) (w : World) (h0 : 0 ≤ x) (h1 : x ≤ 255) (hq : x / 64 = 3) (hc : ∀ w, Calls Try.prog 66 #[.agg #[.int .u64 a, .int .u64 b, .int .u64 c, .int .u64 d], .int .u8 x] w fun e w' => e = .returned (.bool false) ∧ Below w.heap.size w w') :
    Calls Try.prog 48 #[.agg #[.int .u64 a, .int .u64 b, .int .u64 c, .int .u64 d], .int .u8 x] w fun e w' => e = .returned (.agg #[.int .u64 a, .int .u64 b, .int .u64 c, .int .u64 (IntKind.u64.wrap (d + IntKind.u64.wrap (2 ^ (x % 64).toNat)))]) ∧ Below w.heap.size w w' := by
  go_enter Try.func48, Try.ntmps48
  go_wp2_with fail
  refine (hc _).mono ?_
  rintro e w' ⟨rfl, hb⟩
  have b1 : w'.heap[w.heap.size]? = some (.cells #[.int .u64 a, .int .u64 b, .int .u64 c, .int .u64 d] 53 (0, 0)) := blk_below (blk_alloc (blk_new w _) _) hb
  have b2 : w'.heap[w.heap.size + 1]? = some (.cells #[.int .u64 0, .int .u64 0, .int .u64 0, .int .u64 0] 53 (0, 0)) := blk_below (by have h := blk_new (w.alloc (.cells #[.int .u64 a, .int .u64 b, .int .u64 c, .int .u64 d] 53)) (.cells #[.int .u64 0, .int .u64 0, .int .u64 0, .int .u64 0] 53); rw [World.size_alloc] at h; exact h) hb
  have c0 : w'.cell? ⟨w.heap.size, 0, none⟩ = some (.int .u64 a) := (blk_cell b1 0).trans rfl
  have c1 : w'.cell? ⟨w.heap.size, 1, none⟩ = some (.int .u64 b) := (blk_cell b1 1).trans rfl
  have c2 : w'.cell? ⟨w.heap.size, 2, none⟩ = some (.int .u64 c) := (blk_cell b1 2).trans rfl
  have c3 : w'.cell? ⟨w.heap.size, 3, none⟩ = some (.int .u64 d) := (blk_cell b1 3).trans rfl
  have d0 : w'.cell? ⟨w.heap.size + 1, 0, none⟩ = some (.int .u64 0) := (blk_cell b2 0).trans rfl
  have d1 : w'.cell? ⟨w.heap.size + 1, 1, none⟩ = some (.int .u64 0) := (blk_cell b2 1).trans rfl
  have d2 : w'.cell? ⟨w.heap.size + 1, 2, none⟩ = some (.int .u64 0) := (blk_cell b2 2).trans rfl
  have d3 : w'.cell? ⟨w.heap.size + 1, 3, none⟩ = some (.int .u64 0) := (blk_cell b2 3).trans rfl
  have f0 : ∀ i, w'.frozen? ⟨w.heap.size, i, none⟩ = false := fun i => blk_frozen b1 i
  have f1 : ∀ i, w'.frozen? ⟨w.heap.size + 1, i, none⟩ = false := fun i => blk_frozen b2 i
  have HB : Aside0 (Below w.heap.size w w') := ⟨below_then ((((Below.refl _ _).alloc (Nat.le_refl _) _).alloc (by simp) _)) (by simp; omega) hb⟩
  clear hb b1 b2 hc
  go_wp2
  refine bodyPost_ret (v := .agg #[.int .u64 a, .int .u64 b, .int .u64 c, .int .u64 (IntKind.u64.wrap (d + IntKind.u64.wrap (2 ^ (x % 64).toNat)))]) ?_ rfl ⟨rfl, ?_⟩
  · simp [results, Try.results48, go_sem, d0, d1, d2, d3, f1]
  · exact ((((HB.out.setCell (by simp) _).setCell (by simp) _).setCell (by simp) _).setCell (by simp) _).setCell (by simp) _
/-- A member with a byte's bit more. -/
def wv (v x : Int) : Int := IntKind.u64.wrap (v + IntKind.u64.wrap (2 ^ (x % 64).toNat))
def ref04_with.f (a b c d x : Int) : Option (Int × Int × Int × Int) := (ref04_Has.f a b c d x).bind fun t => if t = true then some (a, b, c, d) else if x / 64 = 0 then some (wv a x, b, c, d) else if x / 64 = 1 then some (a, wv b x, c, d) else if x / 64 = 2 then some (a, b, wv c x, d) else some (a, b, c, wv d x)
theorem ref04_with.calls (a b c d x : Int) (r1 r2 r3 r4 : Int) (w : World) (h : ref04_with.f a b c d x = some (r1, r2, r3, r4)) :
    Calls Try.prog 48 #[.agg #[.int .u64 a, .int .u64 b, .int .u64 c, .int .u64 d], .int .u8 x] w fun e w' => e = .returned (.agg #[.int .u64 r1, .int .u64 r2, .int .u64 r3, .int .u64 r4]) ∧ Below w.heap.size w w' := by
  unfold ref04_with.f at h
  cases ht : ref04_Has.f a b c d x with
  | none => rw [ht] at h; cases h
  | some t =>
    rw [ht, Option.bind_some] at h
    have hx : 0 ≤ x ∧ x ≤ 255 := by
      unfold ref04_Has.f at ht
      by_cases hx : 0 ≤ x ∧ x ≤ 255
      · exact hx
      · rw [if_neg hx] at ht; cases ht
    have hc := fun w => ref04_Has.calls a b c d x t w ht
    cases t with
    | true =>
      rw [if_pos rfl] at h
      have h := Option.some.inj h
      simp only [Prod.mk.injEq] at h
      obtain ⟨rfl, rfl, rfl, rfl⟩ := h
      exact with_yes _ _ _ _ x w hc
    | false =>
      rw [if_neg (by decide)] at h
      have hq : x / 64 = 0 ∨ x / 64 = 1 ∨ x / 64 = 2 ∨ x / 64 = 3 := by omega
      rcases hq with hq | hq | hq | hq
      · rw [if_pos hq] at h
        have h := Option.some.inj h
        simp only [Prod.mk.injEq] at h
        obtain ⟨rfl, rfl, rfl, rfl⟩ := h
        exact with_no0 _ _ _ _ x w hx.1 hx.2 hq hc
      · rw [if_neg (by omega), if_pos hq] at h
        have h := Option.some.inj h
        simp only [Prod.mk.injEq] at h
        obtain ⟨rfl, rfl, rfl, rfl⟩ := h
        exact with_no1 _ _ _ _ x w hx.1 hx.2 hq hc
      · rw [if_neg (by omega), if_neg (by omega), if_pos hq] at h
        have h := Option.some.inj h
        simp only [Prod.mk.injEq] at h
        obtain ⟨rfl, rfl, rfl, rfl⟩ := h
        exact with_no2 _ _ _ _ x w hx.1 hx.2 hq hc
      · rw [if_neg (by omega), if_neg (by omega), if_neg (by omega)] at h
        have h := Option.some.inj h
        simp only [Prod.mk.injEq] at h
        obtain ⟨rfl, rfl, rfl, rfl⟩ := h
        exact with_no3 _ _ _ _ x w hx.1 hx.2 hq hc
end Go.Proofs.Ythnfmpieoondaaa.G
