/- The document's reading of a numeral, walked. -/
import Derived.Test.YtgodmbcebpbdiaaDoorYLP
import Derived.StillTailTactics
import Derived.Deep.CutBlock
set_option linter.unusedVariables false
set_option linter.unusedSimpArgs false
namespace Go.Proofs.YtgodmbcebpbdiaaDoor.R2
open Go.RowKit Go.Proofs.YtgodmbcebpbdiaaDoorW.PrintWords

/-- Figures from a place on, laid behind a number. -/
def accN (s : ByteArray) : Nat → Nat → Int → Int
  | 0, _, x => x
  | n + 1, i, x => accN s n (i + 1) (x * 10 + (bt s i - 48))
theorem accN_snoc (s : ByteArray) : ∀ (n i : Nat) (x : Int), accN s (n + 1) i x = accN s n i x * 10 + (bt s (i + n : Nat) - 48)
  | 0, i, x => rfl
  | n + 1, i, x => by
    rw [accN, accN_snoc s n (i + 1), show i + 1 + n = i + (n + 1) by omega]
    rfl
theorem accN_bound (s : ByteArray) : ∀ (n i : Nat) (x : Int), 0 ≤ x → (∀ j, i ≤ j → j < i + n → digB (bt s j) = true) → x ≤ accN s n i x
  | 0, i, x, _, _ => Int.le_refl _
  | n + 1, i, x, h0, hd => by
    have h1 := digB_yes (hd i (Nat.le_refl _) (by omega))
    have h2 := accN_bound s n (i + 1) (x * 10 + (bt s i - 48)) (by omega) (fun j a b => hd j (by omega) (by omega))
    rw [accN]
    omega
/-- So many noughts behind. -/
def padN : Nat → Int → Int
  | 0, x => x
  | n + 1, x => padN n (x * 10)
/-- What a numeral comes to, of its sign, its number in millionths, and its end. -/
def finV (sg : Bool) (z : Int) (d : Nat) : Int × Int × Int := if (toldN sg z).2 = 0 then ((toldN sg z).1, (d : Int), 0) else (0, 0, 3)
/-- What is kept while a numeral is read: the number so far; or it went too far. -/
def Kept (p V : Int) (l : List Int) (ov : Bool) : Prop := Num l ∧ (ov = false → val l = V ∧ V < p) ∧ (ov = true → pw 8 ≤ V)
theorem big_told (sg : Bool) {z : Int} (h : pw 8 ≤ z) : toldN sg z = (0, 3) := by
  have h2 : (18446744073709551616 : Int) ≤ pw 8 := by decide +kernel
  unfold toldN
  cases sg with
  | true => rw [if_pos rfl, if_pos (by omega)]
  | false => rw [if_neg Bool.false_ne_true, if_pos (by omega)]
theorem zeros_num : Num (List.replicate 12 0) := ⟨rfl, fun x hx => by rw [List.mem_replicate] at hx; omega⟩
theorem put12 {W : World} {g : Nat} {b : Bool} {x0 x1 x2 x3 x4 x5 x6 x7 x8 x9 x10 x11 : Int} (h : IsI W g b [x0, x1, x2, x3, x4, x5, x6, x7, x8, x9, x10, x11]) (y0 y1 y2 y3 y4 y5 y6 y7 y8 y9 y10 y11 : Int) {w : World} {base : Nat} (hB : Below base w W) (hg : base ≤ g) :
    ∃ W', W' = ((((((((((((W.setCell ⟨g, 1, none⟩ (.int .u64 y0)).setCell ⟨g, 2, none⟩ (.int .u64 y1)).setCell ⟨g, 3, none⟩ (.int .u64 y2)).setCell ⟨g, 4, none⟩ (.int .u64 y3)).setCell ⟨g, 5, none⟩ (.int .u64 y4)).setCell ⟨g, 6, none⟩ (.int .u64 y5)).setCell ⟨g, 7, none⟩ (.int .u64 y6)).setCell ⟨g, 8, none⟩ (.int .u64 y7)).setCell ⟨g, 9, none⟩ (.int .u64 y8)).setCell ⟨g, 10, none⟩ (.int .u64 y9)).setCell ⟨g, 11, none⟩ (.int .u64 y10)).setCell ⟨g, 12, none⟩ (.int .u64 y11)) ∧ IsI W' g b [y0, y1, y2, y3, y4, y5, y6, y7, y8, y9, y10, y11] ∧ Below base w W' :=
  ⟨_, rfl, (IsI.set (IsI.set (IsI.set (IsI.set (IsI.set (IsI.set (IsI.set (IsI.set (IsI.set (IsI.set (IsI.set (IsI.set h 0 y0) 1 y1) 2 y2) 3 y3) 4 y4) 5 y5) 6 y6) 7 y7) 8 y8) 9 y9) 10 y10) 11 y11), (Below.setCell (p := ⟨g, 12, none⟩) (Below.setCell (p := ⟨g, 11, none⟩) (Below.setCell (p := ⟨g, 10, none⟩) (Below.setCell (p := ⟨g, 9, none⟩) (Below.setCell (p := ⟨g, 8, none⟩) (Below.setCell (p := ⟨g, 7, none⟩) (Below.setCell (p := ⟨g, 6, none⟩) (Below.setCell (p := ⟨g, 5, none⟩) (Below.setCell (p := ⟨g, 4, none⟩) (Below.setCell (p := ⟨g, 3, none⟩) (Below.setCell (p := ⟨g, 2, none⟩) (Below.setCell (p := ⟨g, 1, none⟩) hB hg _) hg _) hg _) hg _) hg _) hg _) hg _) hg _) hg _) hg _) hg _) hg _)⟩
theorem kept_step {s : ByteArray} {b k : Nat} {l : List Int} {ov : Bool} (hbk : b ≤ k) (hd : digB (bt s k) = true) (h : Kept (pw 8) (accN s (k - b) b 0) l ov) (h0 : 0 ≤ accN s (k - b) b 0) :
    Num (timesL 10 (bt s k - 48) l) ∧ (ov = false → (timesL 10 (bt s k - 48) l).getD 8 0 = 0 → Kept (pw 8) (accN s (k + 1 - b) b 0) (timesL 10 (bt s k - 48) l) false) ∧
    ((ov = true ∨ (timesL 10 (bt s k - 48) l).getD 8 0 ≠ 0) → Kept (pw 8) (accN s (k + 1 - b) b 0) (List.replicate 12 0) true) := by
  obtain ⟨hn, hf, ht⟩ := h
  have hdd := digB_yes hd
  have hN := (hn.times (m := 10) (c := bt s k - 48) (by omega) (by omega)).1
  have he : accN s (k + 1 - b) b 0 = accN s (k - b) b 0 * 10 + (bt s k - 48) := by
    rw [show k + 1 - b = (k - b) + 1 by omega, accN_snoc, show b + (k - b) = k by omega]
  have hp8 := pw_pos 8
  have h9 : pw 9 = 4294967296 * pw 8 := rfl
  have h12 := pw_mono (show 9 ≤ 12 by decide)
  have hv : ov = false → val (timesL 10 (bt s k - 48) l) = accN s (k + 1 - b) b 0 ∧ accN s (k + 1 - b) b 0 < pw 9 := by
    intro ho
    obtain ⟨h1, h2⟩ := hf ho
    have h3 := (hn.times_small (m := 10) (c := bt s k - 48) (by omega) (by omega) (by rw [h1]; omega)).2
    rw [h3, h1, he]
    exact ⟨rfl, by omega⟩
  refine ⟨hN, fun ho hz => ⟨hN, fun _ => ⟨(hv ho).1, ?_⟩, fun hh => (by cases hh)⟩, fun hh => ⟨zeros_num, fun hh => (by cases hh), fun _ => ?_⟩⟩
  · have := (ninth hN (by rw [(hv ho).1]; exact (hv ho).2)).1 hz
    rw [← (hv ho).1]; exact this
  · cases ov with
    | true =>
      have := ht rfl
      rw [he]; omega
    | false =>
      have h8 := hh.resolve_left (by decide)
      rw [← (hv rfl).1]
      exact Int.not_lt.1 fun hlt => h8 ((ninth hN (by rw [(hv rfl).1]; exact (hv rfl).2)).2 hlt)
theorem padN_snoc : ∀ (n : Nat) (x : Int), padN (n + 1) x = padN n x * 10
  | 0, x => rfl
  | n + 1, x => by rw [padN, padN_snoc n (x * 10)]; rfl
theorem padN_bound : ∀ (n : Nat) (x : Int), 0 ≤ x → x ≤ padN n x
  | 0, x, _ => Int.le_refl _
  | n + 1, x, h => by
    have := padN_bound n (x * 10) (by omega)
    rw [padN]; omega
/-- What is kept behind the point. -/
def KeptB (q : Nat) (V Z : Int) (l : List Int) (ov : Bool) : Prop := Num l ∧ (ov = false → val l = Z ∧ Z < pw 8 * 10 ^ q) ∧ (ov = true → pw 8 ≤ V)
theorem ten_pw {q : Nat} (h : q ≤ 6) : pw 8 * 10 ^ q ≤ pw 9 := by
  have h9 : pw 9 = 4294967296 * pw 8 := rfl
  have h10 : (10 : Int) ^ q ≤ 1000000 := by
    have : q = 0 ∨ q = 1 ∨ q = 2 ∨ q = 3 ∨ q = 4 ∨ q = 5 ∨ q = 6 := by omega
    rcases this with rfl | rfl | rfl | rfl | rfl | rfl | rfl <;> decide
  have := Int.mul_le_mul_of_nonneg_left h10 (Int.le_of_lt (pw_pos 8))
  have := pw_pos 8
  omega
theorem KeptB.step {q : Nat} {V Z : Int} {l : List Int} {ov : Bool} {g : Int} (h : KeptB q V Z l ov) (hq : q < 6) (hg : 0 ≤ g ∧ g ≤ 9) : KeptB (q + 1) V (Z * 10 + g) (timesL 10 g l) ov := by
  obtain ⟨hn, hf, ht⟩ := h
  refine ⟨(hn.times (m := 10) (c := g) (by omega) (by omega)).1, fun ho => ?_, ht⟩
  obtain ⟨h1, h2⟩ := hf ho
  have hp := ten_pw (q := q + 1) (by omega)
  have h12 := pw_mono (show 9 ≤ 12 by decide)
  have he : pw 8 * 10 ^ (q + 1) = pw 8 * 10 ^ q * 10 := by rw [Int.pow_succ, Int.mul_assoc]
  have h3 := (hn.times_small (m := 10) (c := g) (by omega) (by omega) (by rw [h1]; omega)).2
  rw [h3, h1]
  exact ⟨rfl, by omega⟩
theorem Kept.behind {V : Int} {l : List Int} {ov : Bool} (h : Kept (pw 8) V l ov) : KeptB 0 V V l ov := ⟨h.1, fun ho => ⟨(h.2.1 ho).1, by have := (h.2.1 ho).2; simpa using this⟩, h.2.2⟩
/-- Where the parts of a numeral stand. -/
structure Stands (s : ByteArray) (a b c d : Nat) (sg : Bool) : Prop where
  size : s.size ≤ 281474976710656
  aLe : a ≤ s.size
  blank : ∀ i, i < a → bt s i = 32 ∨ bt s i = 9
  noBlank : a < s.size → bt s a ≠ 32 ∧ bt s a ≠ 9
  sign : (a < s.size ∧ bt s a = 45 ∧ sg = true ∧ b = a + 1) ∨ (a < s.size ∧ bt s a = 43 ∧ sg = false ∧ b = a + 1) ∨ ((a < s.size → bt s a ≠ 45 ∧ bt s a ≠ 43) ∧ sg = false ∧ b = a)
  bc : b ≤ c
  cLe : c ≤ s.size
  figs : ∀ i, b ≤ i → i < c → digB (bt s i) = true
  noFig : c < s.size → digB (bt s c) = false
  point : (c < s.size ∧ bt s c = 46 ∧ (b < c ∨ c + 1 < d) ∧ c + 1 ≤ d ∧ d ≤ s.size ∧ (∀ i, c + 1 ≤ i → i < d → digB (bt s i) = true) ∧ (d < s.size → digB (bt s d) = false)) ∨ ((c < s.size → bt s c ≠ 46 ∨ (b = c ∧ (c + 1 < s.size → digB (bt s (c + 1)) = false))) ∧ d = c)
/-- What the document's reading comes to. -/
def rdV (s : ByteArray) (b c d : Nat) (sg : Bool) : Int × Int × Int :=
  if c - b + (d - (c + 1)) = 0 then (0, 0, 2)
  else finV sg (padN (6 - min 6 (d - (c + 1))) (accN s (min 6 (d - (c + 1))) (c + 1) (accN s (c - b) b 0))) d
set_option maxHeartbeats 8000000 in
set_option maxRecDepth 100000 in
theorem read_calls (s : ByteArray) (a b c d : Nat) (sg : Bool) (w : World) (h : Stands s a b c d sg) :
    Calls Tryd.prog 14 #[.string s] w fun e w' => e = .returned (.tuple #[.int .i64 (rdV s b c d sg).1, .int .i64 (rdV s b c d sg).2.1, .int .i64 (rdV s b c d sg).2.2]) ∧ Below w.heap.size w w' := by
  have H := Aside0.mk h
  have hsz := h.size
  clear h
  go_enter Tryd.func14, Tryd.ntmps14
  go_upto_block 0 with fail
  go_cut [5] (fun v5 wc => v5 = .int .i64 a ∧ w = wc)
  case first =>
    go_wp2_with fail
    go_loop [5] (fun v5 => ∃ (k : Nat), k ≤ a ∧ v5 = .int .i64 k) (fun v5 => a - (intOf v5).toNat)
    case atStart => exact ⟨0, by omega, rfl⟩
    case round =>
      obtain ⟨k, hk, rfl⟩ := hrel
      have haz := H.out.aLe
      by_cases hlt : k < a
      · have c1 : decide ((k : Int) < (s.size : Int)) = true := decide_eq_true (by omega)
        have c0 : decide (k < s.size) = true := decide_eq_true (by omega)
        have q0 : ((k : Int) < (s.size : Int)) = True := eq_true (by omega)
        have q1 : (k < s.size) = True := eq_true (by omega)
        have hx := bt_get' s k
        rcases H.out.blank k hlt with hb | hb
        · have c2 : (bt s k == 32) = true := by rw [hb]; rfl
          clear hb
          go_wp2
          go_round
          case rel => exact ⟨k + 1, by omega, by go_num⟩
          case measure => simp [intOf]; omega
        · have c2 : (bt s k == 32) = false := by rw [hb]; rfl
          have c3 : (bt s k == 9) = true := by rw [hb]; rfl
          clear hb
          go_wp2
          go_round
          case rel => exact ⟨k + 1, by omega, by go_num⟩
          case measure => simp [intOf]; omega
      · obtain rfl : k = a := by omega
        clear hlt hk
        by_cases hlt : k < s.size
        · have c1 : decide ((k : Int) < (s.size : Int)) = true := decide_eq_true (by omega)
          have c0 : decide (k < s.size) = true := decide_eq_true (by omega)
          have q0 : ((k : Int) < (s.size : Int)) = True := eq_true (by omega)
          have q1 : (k < s.size) = True := eq_true (by omega)
          have hx := bt_get' s k
          obtain ⟨n1, n2⟩ := H.out.noBlank hlt
          have c2 : (bt s k == 32) = false := beq_false_of_ne n1
          have c3 : (bt s k == 9) = false := beq_false_of_ne n2
          clear n1 n2
          go_wp2_with fail
          go_meet
          exact ⟨rfl, rfl⟩
        · have c1 : decide ((k : Int) < (s.size : Int)) = false := decide_eq_false (by omega)
          have c0 : decide (k < s.size) = false := decide_eq_false (by omega)
          go_wp2_with fail
          go_meet
          exact ⟨rfl, rfl⟩
  case rest =>
    obtain ⟨rfl, rfl⟩ := hcut
    have haz := H.out.aLe
    go_upto_region 5 with fail
    go_cut [46] (fun v46 wc => ∃ cc : Bool, v46 = .bool cc ∧ Aside0 (cc = (decide (a < s.size) && (bt s a == 45 || bt s a == 43))) ∧ wc = w.alloc (.cells (cellsI false (List.replicate 12 0)) 58))
    case first =>
      by_cases hlt : a < s.size
      · have c1 : decide ((a : Int) < (s.size : Int)) = true := decide_eq_true (by omega)
        have c0 : decide (a < s.size) = true := decide_eq_true (by omega)
        have q0 : ((a : Int) < (s.size : Int)) = True := eq_true (by omega)
        have q1 : (a < s.size) = True := eq_true (by omega)
        have hx := bt_get' s a
        cases c2 : (bt s a == 45) with
        | true =>
          go_wp2_with fail
          go_meet
          exact ⟨_, rfl, ⟨by rw [c0, c2]; rfl⟩, rfl⟩
        | false =>
          cases c3 : (bt s a == 43) with
          | true =>
            go_wp2_with fail
            go_meet
            exact ⟨_, rfl, ⟨by rw [c0, c2, c3]; rfl⟩, rfl⟩
          | false =>
            go_wp2_with fail
            go_meet
            exact ⟨_, rfl, ⟨by rw [c0, c2, c3]; rfl⟩, rfl⟩
      · have c1 : decide ((a : Int) < (s.size : Int)) = false := decide_eq_false (by omega)
        have c0 : decide (a < s.size) = false := decide_eq_false (by omega)
        go_wp2_with fail
        go_meet
        exact ⟨_, rfl, ⟨by rw [c0]; rfl⟩, rfl⟩
    case rest =>
      obtain ⟨cc, rfl, HCC, rfl⟩ := hcut
      have K1 := Aside0.mk (IsI.new w false (List.replicate 12 0))
      have B1 := Aside0.mk (show Below w.heap.size w (w.alloc (.cells (cellsI false (List.replicate 12 0)) 58)) from below_alloc (Below.refl _ _) _)
      generalize w.alloc _ = W0 at *
      go_upto_if 46 with fail
      go_cut [5] (fun v5 wc => v5 = .int .i64 b ∧ Aside0 (IsI wc w.heap.size sg (List.replicate 12 0)) ∧ Aside0 (Below w.heap.size w wc))
      case first =>
        have kf := K1.out.fr 0
        have kb : W0.cell? ⟨w.heap.size, 0, none⟩ = some (.bool false) := (blk_cell K1.out 0).trans rfl
        rcases H.out.sign with ⟨h1, h2, rfl, rfl⟩ | ⟨h1, h2, rfl, rfl⟩ | ⟨h1, rfl, rfl⟩
        · have c0 : decide (a < s.size) = true := decide_eq_true h1
          have c1 : (bt s a == 45) = true := by rw [h2]; rfl
          have q0 : ((a : Int) < (s.size : Int)) = True := eq_true (by omega)
          have q1 : (a < s.size) = True := eq_true (by omega)
          have hx := bt_get' s a
          have hcc := HCC.out; rw [c0, c1] at hcc; clear HCC; obtain rfl : cc = true := hcc
          clear h1 h2
          go_wp2_with fail
          go_meet
          exact ⟨rfl, ⟨K1.out.setB true⟩, ⟨Below.setCell (p := ⟨w.heap.size, 0, none⟩) B1.out (Nat.le_refl _) _⟩⟩
        · have c0 : decide (a < s.size) = true := decide_eq_true h1
          have c1 : (bt s a == 45) = false := by rw [h2]; rfl
          have c2 : (bt s a == 43) = true := by rw [h2]; rfl
          have q0 : ((a : Int) < (s.size : Int)) = True := eq_true (by omega)
          have q1 : (a < s.size) = True := eq_true (by omega)
          have hx := bt_get' s a
          have hcc := HCC.out; rw [c0, c1, c2] at hcc; clear HCC; obtain rfl : cc = true := hcc
          clear h1 h2
          go_wp2_with fail
          go_meet
          exact ⟨rfl, ⟨K1.out.setB false⟩, ⟨Below.setCell (p := ⟨w.heap.size, 0, none⟩) B1.out (Nat.le_refl _) _⟩⟩
        · have c1 : (decide (b < s.size) && (bt s b == 45 || bt s b == 43)) = false := by
            by_cases hlt : b < s.size
            · obtain ⟨n1, n2⟩ := h1 hlt
              rw [beq_false_of_ne n1, beq_false_of_ne n2]; simp
            · rw [decide_eq_false hlt]; rfl
          have hcc := HCC.out; rw [c1] at hcc; clear HCC c1; subst hcc
          clear h1
          go_wp2_with fail
          go_meet
          exact ⟨rfl, K1, B1⟩
      case rest =>
        clear K1 B1
        obtain ⟨rfl, K1, B1⟩ := hcut
        go_upto_block 2 with fail
        go_cut [5, 7, 8] (fun v5 v7 v8 wc => ∃ (ov : Bool) (l : List Int), v5 = .int .i64 c ∧ v7 = .int .i64 ((c - b : Nat) : Int) ∧ v8 = .bool ov ∧ Aside0 (Kept (pw 8) (accN s (c - b) b 0) l ov) ∧ Aside0 (IsI wc w.heap.size sg l) ∧ Aside0 (Below w.heap.size w wc))
        case first =>
          go_wp2_with fail
          go_loopw [5, 7, 8] (fun v5 v7 v8 wr => ∃ (k : Nat) (ov : Bool) (l : List Int), b ≤ k ∧ k ≤ c ∧ v5 = .int .i64 k ∧ v7 = .int .i64 ((k - b : Nat) : Int) ∧ v8 = .bool ov ∧ Aside0 (Kept (pw 8) (accN s (k - b) b 0) l ov) ∧ Aside0 (IsI wr w.heap.size sg l) ∧ Aside0 (Below w.heap.size w wr)) (fun v5 _ _ _ => c - (intOf v5).toNat)
          case atStart => exact ⟨b, false, _, Nat.le_refl _, H.out.bc, rfl, by rw [Nat.sub_self]; rfl, rfl, ⟨zeros_num, fun _ => ⟨by rw [Nat.sub_self]; rfl, by rw [Nat.sub_self]; exact pw_pos 8⟩, fun h => (by cases h)⟩, K1, B1⟩
          case round =>
            clear K1 B1
            obtain ⟨k, ov, l, hbk, hkc, rfl, rfl, rfl, HK, K1, B1⟩ := hrel
            have hcz := H.out.cLe
            by_cases hlt : k < c
            · have hdk := H.out.figs k hbk hlt
              have c0 : decide (k < s.size) = true := decide_eq_true (by omega)
              have q0 : ((k : Int) < (s.size : Int)) = True := eq_true (by omega)
              have q1 : (k < s.size) = True := eq_true (by omega)
              have hx := bt_get' s k
              have hd2 := digB_yes hdk
              have e1 : IntKind.u64.wrap (bt s k) = bt s k := u64_id (by omega) (by omega)
              have e2 : IntKind.u64.wrap (bt s k - 48) = bt s k - 48 := u64_id (by omega) (by omega)
              have HST := Aside0.mk (kept_step hbk hdk HK.out (accN_bound s _ _ _ (by omega) (fun j h1 h2 => H.out.figs j h1 (by omega))))
              have HD := Aside0.mk (show 0 ≤ bt s k - 48 ∧ bt s k - 48 < 4294967296 by omega)
              have HNl := Aside0.mk HK.out.1
              have HFG := Aside0.mk (show (decide (k < s.size) && digB (bt s k)) = true by rw [hdk, c0]; rfl)
              clear hd2 hdk
              obtain ⟨x0, x1, x2, x3, x4, x5, x6, x7, x8, x9, x10, x11, rfl⟩ := dozen HNl.out.len
              obtain ⟨p0, p1, p2, p3, p4, p5, p6, p7, p8, p9, p10, p11, p12⟩ := K1.out.cells
              go_wp2_with fail
              refine (fig_calls s k true wr hsz (by omega) HFG.out).mono ?_
              rintro e w' ⟨rfl, rfl⟩
              go_wp2_with fail
              go_still_tail 6, (by kernel_rfl)
              change wpList _ _ _ _ _ wr.drew
              go_wp2_with fail
              refine (times_calls sg [x0, x1, x2, x3, x4, x5, x6, x7, x8, x9, x10, x11] 10 (bt s k - 48) wr.drew HNl.out (by omega) HD.out).mono ?_
              rintro e w1 ⟨rfl, hb⟩
              have L1 := Aside0.mk (IsI.below (W := wr.drew) K1.out hb)
              have L2 := Aside0.mk (below_then (w1 := wr.drew) (pw_below_drewN B1.out 1) (pw_below_drewN B1.out 1).size hb)
              clear K1 B1 hb p0 p1 p2 p3 p4 p5 p6 p7 p8 p9 p10 p11 p12 hx e1 e2
              have HNy := Aside0.mk HST.out.1
              generalize timesL 10 (bt s k - 48) [x0, x1, x2, x3, x4, x5, x6, x7, x8, x9, x10, x11] = R1 at *
              obtain ⟨y0, y1, y2, y3, y4, y5, y6, y7, y8, y9, y10, y11, rfl⟩ := dozen HNy.out.len
              rw [cells12]
              obtain ⟨f0, f1, f2, f3, f4, f5, f6, f7, f8, f9, f10, f11, f12⟩ := L1.out.frs
              obtain ⟨p0, p1, p2, p3, p4, p5, p6, p7, p8, p9, p10, p11, p12⟩ := L1.out.cells
              go_upto_region 12 with fail
              obtain ⟨W', hW, g1, g2, g3⟩ := put13 L1.out sg y0 y1 y2 y3 y4 y5 y6 y7 y8 y9 y10 y11 L2.out (Nat.le_refl _)
              rw [← hW]
              clear hW g3 L1 L2 f0 f1 f2 f3 f4 f5 f6 f7 f8 f9 f10 f11 f12 p0 p1 p2 p3 p4 p5 p6 p7 p8 p9 p10 p11 p12
              have M1 := Aside0.mk g1; have M2 := Aside0.mk g2
              clear g1 g2
              have kz : W'.cell? ⟨w.heap.size, 9, none⟩ = some (.int .u64 y8) := M1.out.at_ (i := 8) (by show 8 < 12; decide)
              obtain ⟨f0, f1, f2, f3, f4, f5, f6, f7, f8, f9, f10, f11, f12⟩ := M1.out.frs
              obtain ⟨p0, p1, p2, p3, p4, p5, p6, p7, p8, p9, p10, p11, p12⟩ := M1.out.cells
              cases ov with
              | true =>
                have hfin := HST.out.2.2 (Or.inl rfl)
                have HF := Aside0.mk hfin; clear hfin
                go_wp2
                obtain ⟨W2, hW, g1, g2⟩ := put12 M1.out 0 0 0 0 0 0 0 0 0 0 0 0 M2.out (Nat.le_refl _)
                rw [← hW]
                clear hW
                refine ⟨⟨k + 1, true, _, by omega, by omega, rfl, ?_, rfl, HF, ⟨g1⟩, ⟨g2⟩⟩, by simp [intOf]; omega⟩
                rw [show k + 1 - b = (k - b) + 1 by omega]; rfl
              | false =>
                by_cases h8 : y8 = 0
                · have hfin := HST.out.2.1 rfl h8
                  have HF := Aside0.mk hfin; clear hfin
                  have c8 : (y8 != 0) = false := by rw [h8]; rfl
                  clear h8
                  go_wp2
                  refine ⟨⟨k + 1, false, _, by omega, by omega, rfl, ?_, rfl, HF, M1, M2⟩, by simp [intOf]; omega⟩
                  rw [show k + 1 - b = (k - b) + 1 by omega]; rfl
                · have hfin := HST.out.2.2 (Or.inr h8)
                  have HF := Aside0.mk hfin; clear hfin
                  have c8 : (y8 != 0) = true := bne_iff_ne.2 h8
                  clear h8
                  go_wp2
                  obtain ⟨W2, hW, g1, g2⟩ := put12 M1.out 0 0 0 0 0 0 0 0 0 0 0 0 M2.out (Nat.le_refl _)
                  rw [← hW]
                  clear hW
                  refine ⟨⟨k + 1, true, _, by omega, by omega, rfl, ?_, rfl, HF, ⟨g1⟩, ⟨g2⟩⟩, by simp [intOf]; omega⟩
                  rw [show k + 1 - b = (k - b) + 1 by omega]; rfl
            · obtain rfl : k = c := by omega
              have hfv : (decide (k < s.size) && digB (bt s k)) = false := by
                by_cases hz : k < s.size
                · rw [H.out.noFig hz, Bool.and_false]
                · rw [decide_eq_false hz, Bool.false_and]
              have HFG := Aside0.mk hfv; clear hfv hlt hkc
              go_wp2_with fail
              refine (fig_calls s k false wr hsz (by omega) HFG.out).mono ?_
              rintro e w' ⟨rfl, rfl⟩
              go_wp2_with fail
              go_meet
              exact ⟨ov, l, rfl, rfl, rfl, HK, K1, B1⟩
        case rest =>
          clear K1 B1
          obtain ⟨ov, l, rfl, rfl, rfl, HK, K1, B1⟩ := hcut
          have hcz := H.out.cLe
          have hbc := H.out.bc
          go_upto_region 18 with fail
          go_cut [97] (fun v97 wd => ∃ dt : Bool, v97 = .bool dt ∧ Aside0 (dt = decide (c < d)) ∧ wc = wd)
          case first =>
            rcases H.out.point with ⟨hc1, hb, hmany, hcd, hds, hfd, hnd⟩ | ⟨hno, hcd⟩
            · have HDT := Aside0.mk (show true = decide (c < d) from (decide_eq_true (by omega)).symm)
              have c0 : decide (c < s.size) = true := decide_eq_true hc1
              have c1 : decide ((c : Int) < (s.size : Int)) = true := decide_eq_true (by omega)
              have q0 : ((c : Int) < (s.size : Int)) = True := eq_true (by omega)
              have q1 : (c < s.size) = True := eq_true hc1
              have hx := bt_get' s c
              have c2 : (bt s c == 46) = true := by rw [hb]; rfl
              by_cases hm : b < c
              · have c3 : decide ((0 : Int) < ((c - b : Nat) : Int)) = true := decide_eq_true (by omega)
                have c4 : decide (0 < c - b) = true := decide_eq_true (by omega)
                clear hmany hm hb hnd hfd
                go_wp2_with fail
                go_meet
                exact ⟨true, rfl, HDT, rfl⟩
              · have hm2 := hmany.resolve_left hm
                have hf := hfd (c + 1) (by omega) hm2
                have HFG := Aside0.mk (show (decide (c + 1 < s.size) && digB (bt s (c + 1 : Nat))) = true by rw [hf, decide_eq_true (by omega)]; rfl)
                have c3 : decide ((0 : Int) < ((c - b : Nat) : Int)) = false := decide_eq_false (by omega)
                have c4 : decide (0 < c - b) = false := decide_eq_false (by omega)
                clear hmany hm hm2 hb hnd hfd hf
                go_wp2_with fail
                refine (fig_calls s (c + 1) true wc hsz (by omega) HFG.out).mono ?_
                rintro e w' ⟨rfl, rfl⟩
                go_wp2_with fail
                go_meet
                exact ⟨true, rfl, HDT, rfl⟩
            · have HDT := Aside0.mk (show false = decide (c < d) from (decide_eq_false (by omega)).symm)
              by_cases hc1 : c < s.size
              · have c0 : decide (c < s.size) = true := decide_eq_true hc1
                have c1 : decide ((c : Int) < (s.size : Int)) = true := decide_eq_true (by omega)
                have q0 : ((c : Int) < (s.size : Int)) = True := eq_true (by omega)
                have q1 : (c < s.size) = True := eq_true hc1
                have hx := bt_get' s c
                by_cases hb : bt s c = 46
                · have c2 : (bt s c == 46) = true := by rw [hb]; rfl
                  obtain ⟨hbce, hf⟩ := (hno hc1).resolve_left (fun h => h hb)
                  have HFG := Aside0.mk (show (decide (c + 1 < s.size) && digB (bt s (c + 1 : Nat))) = false by
                    by_cases hz : c + 1 < s.size
                    · rw [show ((c + 1 : Nat) : Int) = (c : Int) + 1 from rfl, hf hz, Bool.and_false]
                    · rw [decide_eq_false hz, Bool.false_and])
                  have c3 : decide ((0 : Int) < ((c - b : Nat) : Int)) = false := decide_eq_false (by omega)
                  have c4 : decide (0 < c - b) = false := decide_eq_false (by omega)
                  clear hno hb hbce hf
                  go_wp2_with fail
                  refine (fig_calls s (c + 1) false wc hsz (by omega) HFG.out).mono ?_
                  rintro e w' ⟨rfl, rfl⟩
                  go_wp2_with fail
                  go_meet
                  exact ⟨false, rfl, HDT, rfl⟩
                · have c2 : (bt s c == 46) = false := beq_false_of_ne hb
                  clear hno hb
                  go_wp2_with fail
                  go_meet
                  exact ⟨false, rfl, HDT, rfl⟩
              · have c0 : decide (c < s.size) = false := decide_eq_false hc1
                have c1 : decide ((c : Int) < (s.size : Int)) = false := decide_eq_false (by omega)
                clear hno
                go_wp2_with fail
                go_meet
                exact ⟨false, rfl, HDT, rfl⟩
          case rest =>
            obtain ⟨dt, rfl, HDT, rfl⟩ := hcut
            go_upto_if 97 with fail
            go_cut [5, 7, 9] (fun v5 v7 v9 wd => ∃ (l : List Int), v5 = .int .i64 d ∧ v7 = .int .i64 ((c - b + (d - (c + 1)) : Nat) : Int) ∧ v9 = .int .i64 ((min 6 (d - (c + 1)) : Nat) : Int) ∧ Aside0 (KeptB (min 6 (d - (c + 1))) (accN s (c - b) b 0) (accN s (min 6 (d - (c + 1))) (c + 1) (accN s (c - b) b 0)) l ov) ∧ Aside0 (IsI wd w.heap.size sg l) ∧ Aside0 (Below w.heap.size w wd))
            case first =>
              cases dt with
              | false =>
                have hcd : d = c := by
                  have h1 := of_decide_eq_false HDT.out.symm
                  rcases H.out.point with ⟨_, _, _, h2, _⟩ | ⟨_, h2⟩
                  · omega
                  · exact h2
                subst hcd
                go_wp2_with fail
                go_meet
                refine ⟨l, rfl, ?_, ?_, ⟨?_⟩, K1, B1⟩
                · rw [show d - b + (d - (d + 1)) = d - b by omega]
                · rw [show min 6 (d - (d + 1)) = 0 by omega]; rfl
                · rw [show min 6 (d - (d + 1)) = 0 by omega]; exact HK.out.behind
              | true =>
                obtain ⟨hc1, hmany, hcd, hds, hfd, hnd⟩ : c < s.size ∧ (b < c ∨ c + 1 < d) ∧ c + 1 ≤ d ∧ d ≤ s.size ∧ (∀ i, c + 1 ≤ i → i < d → digB (bt s i) = true) ∧ (d < s.size → digB (bt s d) = false) := by
                  have h1 := of_decide_eq_true HDT.out.symm
                  rcases H.out.point with ⟨z1, _, z2, z3, z4, z5, z6⟩ | ⟨_, h2⟩
                  · exact ⟨z1, z2, z3, z4, z5, z6⟩
                  · omega
                have HFD := Aside0.mk hfd; have HND := Aside0.mk hnd
                clear hfd hnd hmany
                go_wp2_with fail
                go_loopw [5, 7, 9] (fun v5 v7 v9 wr => ∃ (k : Nat) (l : List Int), c + 1 ≤ k ∧ k ≤ d ∧ v5 = .int .i64 k ∧ v7 = .int .i64 ((c - b + (k - (c + 1)) : Nat) : Int) ∧ v9 = .int .i64 ((min 6 (k - (c + 1)) : Nat) : Int) ∧ Aside0 (KeptB (min 6 (k - (c + 1))) (accN s (c - b) b 0) (accN s (min 6 (k - (c + 1))) (c + 1) (accN s (c - b) b 0)) l ov) ∧ Aside0 (IsI wr w.heap.size sg l) ∧ Aside0 (Below w.heap.size w wr)) (fun v5 _ _ _ => d - (intOf v5).toNat)
                case atStart =>
                  refine ⟨c + 1, l, by omega, hcd, rfl, ?_, ?_, ⟨?_⟩, K1, B1⟩
                  · rw [show c - b + (c + 1 - (c + 1)) = c - b by omega]
                  · rw [show min 6 (c + 1 - (c + 1)) = 0 by omega]; rfl
                  · rw [show min 6 (c + 1 - (c + 1)) = 0 by omega]; exact HK.out.behind
                case round =>
                  clear K1 B1 HK
                  obtain ⟨k, l, hck, hkd, rfl, rfl, rfl, HK, K1, B1⟩ := hrel
                  by_cases hlt : k < d
                  · have hdk := HFD.out k hck hlt
                    have c0 : decide (k < s.size) = true := decide_eq_true (by omega)
                    have q0 : ((k : Int) < (s.size : Int)) = True := eq_true (by omega)
                    have q1 : (k < s.size) = True := eq_true (by omega)
                    have hx := bt_get' s k
                    have hd2 := digB_yes hdk
                    have HFG := Aside0.mk (show (decide (k < s.size) && digB (bt s k)) = true by rw [hdk, c0]; rfl)
                    by_cases h6 : k - (c + 1) < 6
                    · have e1 : IntKind.u64.wrap (bt s k) = bt s k := u64_id (by omega) (by omega)
                      have e2 : IntKind.u64.wrap (bt s k - 48) = bt s k - 48 := u64_id (by omega) (by omega)
                      have HD := Aside0.mk (show 0 ≤ bt s k - 48 ∧ bt s k - 48 < 4294967296 by omega)
                      have HNl := Aside0.mk HK.out.1
                      have hmk : min 6 (k - (c + 1)) = k - (c + 1) := by omega
                      have hmk2 : min 6 (k + 1 - (c + 1)) = k - (c + 1) + 1 := by omega
                      have hst := HK.out
                      rw [hmk] at hst
                      have hst2 := hst.step h6 (g := bt s k - 48) (by omega)
                      have hac := accN_snoc s (k - (c + 1)) (c + 1) (accN s (c - b) b 0)
                      rw [show c + 1 + (k - (c + 1)) = k by omega] at hac
                      rw [← hac] at hst2
                      have HST := Aside0.mk hst2
                      have c6 : decide (((k - (c + 1) : Nat) : Int) < 6) = true := decide_eq_true (by omega)
                      have c7 : decide (k - (c + 1) < 6) = true := decide_eq_true h6
                      rw [hmk]
                      clear hst hst2 hac hd2 hdk hmk HK
                      obtain ⟨x0, x1, x2, x3, x4, x5, x6, x7, x8, x9, x10, x11, rfl⟩ := dozen HNl.out.len
                      obtain ⟨p0, p1, p2, p3, p4, p5, p6, p7, p8, p9, p10, p11, p12⟩ := K1.out.cells
                      go_wp2_with fail
                      refine (fig_calls s k true wr hsz (by omega) HFG.out).mono ?_
                      rintro e w' ⟨rfl, rfl⟩
                      go_wp2_with fail
                      go_still_tail 6, (by kernel_rfl)
                      change wpList _ _ _ _ _ wr.drew
                      go_wp2_with fail
                      refine (times_calls sg [x0, x1, x2, x3, x4, x5, x6, x7, x8, x9, x10, x11] 10 (bt s k - 48) wr.drew HNl.out (by omega) HD.out).mono ?_
                      rintro e w1 ⟨rfl, hb⟩
                      have L1 := Aside0.mk (IsI.below (W := wr.drew) K1.out hb)
                      have L2 := Aside0.mk (below_then (w1 := wr.drew) (pw_below_drewN B1.out 1) (pw_below_drewN B1.out 1).size hb)
                      clear K1 B1 hb p0 p1 p2 p3 p4 p5 p6 p7 p8 p9 p10 p11 p12 hx e1 e2
                      generalize timesL 10 (bt s k - 48) [x0, x1, x2, x3, x4, x5, x6, x7, x8, x9, x10, x11] = R1 at *
                      obtain ⟨y0, y1, y2, y3, y4, y5, y6, y7, y8, y9, y10, y11, rfl⟩ := dozen HST.out.1.len
                      rw [cells12]
                      obtain ⟨f0, f1, f2, f3, f4, f5, f6, f7, f8, f9, f10, f11, f12⟩ := L1.out.frs
                      obtain ⟨p0, p1, p2, p3, p4, p5, p6, p7, p8, p9, p10, p11, p12⟩ := L1.out.cells
                      go_upto_region 23 with fail
                      obtain ⟨W', hW, g1, g2, g3⟩ := put13 L1.out sg y0 y1 y2 y3 y4 y5 y6 y7 y8 y9 y10 y11 L2.out (Nat.le_refl _)
                      rw [← hW]
                      clear hW g3 L1 L2 f0 f1 f2 f3 f4 f5 f6 f7 f8 f9 f10 f11 f12 p0 p1 p2 p3 p4 p5 p6 p7 p8 p9 p10 p11 p12
                      go_wp2
                      refine ⟨⟨k + 1, _, by omega, by omega, rfl, ?_, ?_, ⟨?_⟩, ⟨g1⟩, ⟨g2⟩⟩, by simp [intOf]; omega⟩
                      · rw [show c - b + (k + 1 - (c + 1)) = c - b + (k - (c + 1)) + 1 by omega]; rfl
                      · rw [hmk2]; rfl
                      · rw [hmk2]; exact HST.out
                    · have hmk : min 6 (k - (c + 1)) = 6 := by omega
                      have hmk2 : min 6 (k + 1 - (c + 1)) = 6 := by omega
                      have hst := HK.out
                      rw [hmk] at hst
                      have HST := Aside0.mk hst
                      rw [hmk]
                      clear hst hd2 hdk hmk HK
                      go_wp2_with fail
                      refine (fig_calls s k true wr hsz (by omega) HFG.out).mono ?_
                      rintro e w' ⟨rfl, rfl⟩
                      go_wp2
                      refine ⟨⟨k + 1, _, by omega, by omega, rfl, ?_, ?_, ⟨?_⟩, K1, B1⟩, by simp [intOf]; omega⟩
                      · rw [show c - b + (k + 1 - (c + 1)) = c - b + (k - (c + 1)) + 1 by omega]; rfl
                      · rw [hmk2]; rfl
                      · rw [hmk2]; exact HST.out
                  · obtain rfl : k = d := by omega
                    have hfv : (decide (k < s.size) && digB (bt s k)) = false := by
                      by_cases hz : k < s.size
                      · rw [HND.out hz, Bool.and_false]
                      · rw [decide_eq_false hz, Bool.false_and]
                    have HFG := Aside0.mk hfv; clear hfv hlt hkd
                    go_wp2_with fail
                    refine (fig_calls s k false wr hsz (by omega) HFG.out).mono ?_
                    rintro e w' ⟨rfl, rfl⟩
                    go_wp2_with fail
                    go_meet
                    exact ⟨l, rfl, rfl, rfl, HK, K1, B1⟩
            case rest =>
              clear K1 B1 HK HDT
              obtain ⟨l, rfl, rfl, rfl, HK, K1, B1⟩ := hcut
              by_cases h0 : c - b + (d - (c + 1)) = 0
              · have HR := Aside0.mk (show rdV s b c d sg = (0, 0, 2) from if_pos h0)
                rw [h0]
                have c0 : (((0 : Nat) : Int) == 0) = true := rfl
                clear h0
                go_wp2_with fail
                refine bodyPost_ret (results_list (rs := [.tmp 2, .tmp 3, .tmp 4]) rfl (by simp) (.tmp (.tmp (.tmp .nil)))) rfl ?_
                exact ⟨by rw [HR.out]; rfl, B1.out⟩
              · have HR := Aside0.mk (show rdV s b c d sg = finV sg (padN (6 - min 6 (d - (c + 1))) (accN s (min 6 (d - (c + 1))) (c + 1) (accN s (c - b) b 0))) d from if_neg h0)
                have c0 : (((c - b + (d - (c + 1)) : Nat) : Int) == 0) = false := beq_false_of_ne (by omega)
                have c1 : (c - b + (d - (c + 1)) == 0) = false := beq_false_of_ne h0
                clear h0
                have hV := accN_bound s (c - b) b 0 (by omega) (fun j h1 h2 => H.out.figs j h1 (by omega))
                have hZ := accN_bound s (min 6 (d - (c + 1))) (c + 1) (accN s (c - b) b 0) hV (fun j h1 h2 => by
                  rcases H.out.point with ⟨_, _, _, _, _, z5, _⟩ | ⟨_, h2⟩
                  · exact z5 j h1 (by omega)
                  · omega)
                have hm6 : min 6 (d - (c + 1)) ≤ 6 := Nat.min_le_left _ _
                have HVZ := Aside0.mk (And.intro hV hZ)
                clear hV hZ
                generalize accN s (min 6 (d - (c + 1))) (c + 1) (accN s (c - b) b 0) = Z at *
                generalize accN s (c - b) b 0 = V at *
                generalize min 6 (d - (c + 1)) = m at *
                generalize c - b + (d - (c + 1)) = many at *
                go_wp2_with fail
                go_loopw [9] (fun v9 wr => ∃ (q : Nat) (l : List Int), m ≤ q ∧ q ≤ 6 ∧ v9 = .int .i64 q ∧ Aside0 (KeptB q V (padN (q - m) Z) l ov) ∧ Aside0 (IsI wr w.heap.size sg l) ∧ Aside0 (Below w.heap.size w wr)) (fun v9 _ => 6 - (intOf v9).toNat)
                case atStart => exact ⟨m, l, Nat.le_refl _, hm6, rfl, ⟨by rw [Nat.sub_self]; exact HK.out⟩, K1, B1⟩
                case round =>
                  clear K1 B1 HK
                  obtain ⟨q, l, hmq, hq6, rfl, HK, K1, B1⟩ := hrel
                  by_cases hlt : q < 6
                  · have c3 : decide ((q : Int) < 6) = true := decide_eq_true (by omega)
                    have c4 : decide (q < 6) = true := decide_eq_true (by omega)
                    have hst := HK.out.step hlt (g := 0) (by omega)
                    rw [Int.add_zero, ← padN_snoc, show q - m + 1 = q + 1 - m by omega] at hst
                    have HST := Aside0.mk hst; clear hst
                    have HNl := Aside0.mk HK.out.1
                    clear HK
                    obtain ⟨x0, x1, x2, x3, x4, x5, x6, x7, x8, x9, x10, x11, rfl⟩ := dozen HNl.out.len
                    obtain ⟨p0, p1, p2, p3, p4, p5, p6, p7, p8, p9, p10, p11, p12⟩ := K1.out.cells
                    go_wp2_with fail
                    refine (times_calls sg [x0, x1, x2, x3, x4, x5, x6, x7, x8, x9, x10, x11] 10 0 wr HNl.out (by omega) (by omega)).mono ?_
                    rintro e w1 ⟨rfl, hb⟩
                    have L1 := Aside0.mk (IsI.below K1.out hb)
                    have L2 := Aside0.mk (below_then B1.out B1.out.size hb)
                    clear K1 B1 hb p0 p1 p2 p3 p4 p5 p6 p7 p8 p9 p10 p11 p12
                    generalize timesL 10 0 [x0, x1, x2, x3, x4, x5, x6, x7, x8, x9, x10, x11] = R1 at *
                    obtain ⟨y0, y1, y2, y3, y4, y5, y6, y7, y8, y9, y10, y11, rfl⟩ := dozen HST.out.1.len
                    rw [cells12]
                    obtain ⟨f0, f1, f2, f3, f4, f5, f6, f7, f8, f9, f10, f11, f12⟩ := L1.out.frs
                    obtain ⟨p0, p1, p2, p3, p4, p5, p6, p7, p8, p9, p10, p11, p12⟩ := L1.out.cells
                    go_upto_region 30 with fail
                    obtain ⟨W', hW, g1, g2, g3⟩ := put13 L1.out sg y0 y1 y2 y3 y4 y5 y6 y7 y8 y9 y10 y11 L2.out (Nat.le_refl _)
                    rw [← hW]
                    clear hW g3 L1 L2 f0 f1 f2 f3 f4 f5 f6 f7 f8 f9 f10 f11 f12 p0 p1 p2 p3 p4 p5 p6 p7 p8 p9 p10 p11 p12
                    go_wp2
                    exact ⟨⟨q + 1, _, by omega, by omega, rfl, HST, ⟨g1⟩, ⟨g2⟩⟩, by simp [intOf]; omega⟩
                  · obtain rfl : q = 6 := by omega
                    clear hlt
                    have hB := back_val sg HK.out.1
                    have HBV := Aside0.mk hB; clear hB
                    obtain ⟨x0, x1, x2, x3, x4, x5, x6, x7, x8, x9, x10, x11, rfl⟩ := dozen HK.out.1.len
                    obtain ⟨p0, p1, p2, p3, p4, p5, p6, p7, p8, p9, p10, p11, p12⟩ := K1.out.cells
                    have c3 : decide (((6 : Nat) : Int) < 6) = false := rfl
                    go_wp2_with fail
                    refine (back_calls sg [x0, x1, x2, x3, x4, x5, x6, x7, x8, x9, x10, x11] wr HK.out.1).mono ?_
                    rintro e w1 ⟨rfl, hb⟩
                    have B2 := Aside0.mk (below_then B1.out B1.out.size hb)
                    rw [HBV.out]
                    clear hb K1 B1 p0 p1 p2 p3 p4 p5 p6 p7 p8 p9 p10 p11 p12
                    cases ov with
                    | true =>
                      have hbig := HK.out.2.2 rfl
                      have hvz := HVZ.out
                      have hpz := padN_bound (6 - m) Z (by have := pw_pos 8; omega)
                      have hfin : rdV s b c d sg = (0, 0, 3) := by
                        rw [HR.out]
                        unfold finV
                        rw [big_told sg (by omega)]; rfl
                      have HF := Aside0.mk hfin
                      clear hfin hpz hvz hbig
                      generalize toldN sg _ = tn at *
                      go_wp2_with fail
                      refine bodyPost_ret (results_list (rs := [.tmp 2, .tmp 3, .tmp 4]) rfl (by simp) (.tmp (.tmp (.tmp .nil)))) rfl ?_
                      exact ⟨by rw [HF.out]; rfl, B2.out⟩
                    | false =>
                      rw [(HK.out.2.1 rfl).1]
                      have HF := Aside0.mk (show rdV s b c d sg = if (toldN sg (padN (6 - m) Z)).2 = 0 then ((toldN sg (padN (6 - m) Z)).1, (d : Int), 0) else (0, 0, 3) from HR.out)
                      clear HK HVZ HR HBV
                      generalize toldN sg (padN (6 - m) Z) = tn at *
                      obtain ⟨t1, t2⟩ := tn
                      by_cases ht : t2 = 0
                      · have hfin := HF.out
                        rw [if_pos ht] at hfin
                        have HF2 := Aside0.mk (show rdV s b c d sg = (t1, (d : Int), 0) from hfin)
                        have c5 : (t2 != 0) = false := by rw [ht]; rfl
                        clear HF hfin ht
                        go_wp2_with fail
                        refine bodyPost_ret (results_list (rs := [.tmp 2, .tmp 3, .tmp 4]) rfl (by simp) (.tmp (.tmp (.tmp .nil)))) rfl ?_
                        exact ⟨by rw [HF2.out]; rfl, B2.out⟩
                      · have hfin := HF.out
                        rw [if_neg ht] at hfin
                        have HF2 := Aside0.mk (show rdV s b c d sg = (0, 0, 3) from hfin)
                        have c5 : (t2 != 0) = true := bne_iff_ne.2 ht
                        clear HF hfin ht
                        go_wp2_with fail
                        refine bodyPost_ret (results_list (rs := [.tmp 2, .tmp 3, .tmp 4]) rfl (by simp) (.tmp (.tmp (.tmp .nil)))) rfl ?_
                        exact ⟨by rw [HF2.out]; rfl, B2.out⟩
end Go.Proofs.YtgodmbcebpbdiaaDoor.R2
