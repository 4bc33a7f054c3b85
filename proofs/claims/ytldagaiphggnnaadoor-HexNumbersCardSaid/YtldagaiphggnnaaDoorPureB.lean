/- The plain laws of layer 1: of a number's figures, and of a number that is read: each holds of the plain functions, at every input. No Go and no memory stands here. -/
import Derived.Test.YtldagaiphggnnaaDoorPlainC
set_option linter.unusedVariables false
set_option linter.unusedSimpArgs false
namespace Go.Proofs.YtldagaiphggnnaaDoor.PC
open Go.RowKit Go.Proofs.YtldagaiphggnnaaDoorW.PrintWords Go.Proofs.YtldagaiphggnnaaDoorW.PrintLast Go.Proofs.YtldagaiphggnnaaDoor.G Go.Proofs.YtldagaiphggnnaaDoor.GB Go.Proofs.YtldagaiphggnnaaDoor.QB Go.Proofs.YtldagaiphggnnaaDoor.PA

/-! ### a number's figures -/
def dec (u : Nat) : List Int := (Lib.decDigits u).map fun c => (c.toNat : Int)
theorem dec_lt {u : Nat} (h : u < 10) : dec u = [48 + (u : Int)] := by
  unfold dec; rw [Lib.decDigits, dif_pos h]
  simp only [List.map_cons, List.map_nil, UInt8.toNat_ofNat']
  congr 1; omega
theorem dec_ge {u : Nat} (h : ¬ u < 10) : dec u = dec (u / 10) ++ [48 + ((u % 10 : Nat) : Int)] := by
  unfold dec; rw [Lib.decDigits, dif_neg h, List.map_append]
  simp only [List.map_cons, List.map_nil, UInt8.toNat_ofNat']
  congr 2; omega
theorem dec_facts (u : Nat) : (∀ c ∈ dec u, isD c = true) ∧ val 0 (dec u) = u ∧ dec u ≠ [] := by
  induction u using Nat.strongRecOn with
  | _ u ih =>
    by_cases h : u < 10
    · rw [dec_lt h]
      refine ⟨fun c hc => ?_, ?_, by simp⟩
      · simp only [List.mem_singleton] at hc; subst hc; rw [isD_iff]; omega
      · simp only [val]; omega
    · obtain ⟨i1, i2, i3⟩ := ih (u / 10) (by omega)
      rw [dec_ge h]
      refine ⟨fun c hc => ?_, ?_, by simp⟩
      · rcases List.mem_append.1 hc with hc | hc
        · exact i1 c hc
        · simp only [List.mem_singleton] at hc; subst hc; rw [isD_iff]; omega
      · rw [val_append, i2]; simp only [val]; omega
theorem dec_bytes (u : Nat) : Bytes (dec u) := fun c hc => by
  have := (isD_iff c).1 ((dec_facts u).1 c hc); omega
theorem dec_len : ∀ d u, u < 10 ^ (d + 1) → (dec u).length ≤ d + 1
  | 0, u, h => by rw [dec_lt (by simpa using h)]; simp
  | d + 1, u, h => by
    by_cases q : u < 10
    · rw [dec_lt q]; simp
    · rw [dec_ge q, List.length_append]
      have := dec_len d (u / 10) (by rw [Nat.pow_succ] at h; omega)
      simp; omega
def fig (n : Int) : ByteArray := ⟨(Lib.itoa n).toArray⟩
def figL (n : Int) : List Int := if n < 0 then 45 :: dec n.natAbs else dec n.toNat
theorem bytes_fig (n : Int) : bytesOf (fig n) = figL n := by
  unfold fig bytesOf figL Lib.itoa dec
  by_cases h : n < 0
  · rw [if_pos h, if_pos h]; rfl
  · rw [if_neg h, if_neg h]
theorem p19 : (10 : Nat) ^ 19 = 10000000000000000000 := by decide
theorem fig_len (n : Int) (h0 : -9223372036854775808 ≤ n) (h1 : n ≤ 9223372036854775807) : (fig n).size ≤ 20 := by
  rw [← bytesOf_length, bytes_fig]
  unfold figL
  split
  · have := dec_len 18 n.natAbs (by rw [p19]; omega)
    simp; omega
  · have := dec_len 18 n.toNat (by rw [p19]; omega)
    omega
theorem figures_f (n : Int) (h0 : -9223372036854775808 ≤ n) (h1 : n ≤ 9223372036854775807) : hex_Figures.f n = some (fig n) := by
  unfold hex_Figures.f figT fig
  rw [if_pos ⟨h0, h1⟩]
theorem i64_range {c : Int} (hc : (Lit.int .i64 c).wf = true) : -9223372036854775808 ≤ c ∧ c ≤ 9223372036854775807 := by
  simp [Lit.wf, IntKind.min, IntKind.max, IntKind.signed, IntKind.bits] at hc
  omega
theorem down_f : ∀ d k (u : Nat), d < k → u < 10 ^ (d + 1) → u ≤ 9223372036854775808 → d ≤ 30 → dragomanref01_down.f k (-(u : Int)) = some (strOfNums (dec u)) := by
  intro d
  induction d with
  | zero =>
    intro k u hk hu hm h30
    obtain ⟨k, rfl⟩ : ∃ m, k = m + 1 := ⟨k - 1, by omega⟩
    have hu' : u < 10 := by simpa using hu
    have e1 : (wrap64 (48 - Int.tmod (-(u : Int)) 10)) % 256 = 48 + (u : Int) := by
      rw [Int.neg_tmod, Int.tmod_eq_emod_of_nonneg (by omega), wrap_id (by omega) (by omega)]; omega
    simp only [dragomanref01_down.f, e1, Option.bind_some]
    rw [if_pos (by omega), dec_lt hu']
  | succ d ih =>
    intro k u hk hu hm h30
    obtain ⟨k, rfl⟩ : ∃ m, k = m + 1 := ⟨k - 1, by omega⟩
    have e1 : (wrap64 (48 - Int.tmod (-(u : Int)) 10)) % 256 = 48 + ((u % 10 : Nat) : Int) := by
      rw [Int.neg_tmod, Int.tmod_eq_emod_of_nonneg (by omega), wrap_id (by omega) (by omega)]; omega
    have e2 : wrap64 (Int.tdiv (-(u : Int)) 10) = -((u / 10 : Nat) : Int) := by
      rw [Int.neg_tdiv, Int.tdiv_eq_ediv_of_nonneg (by omega), wrap_id (by omega) (by omega)]; omega
    simp only [dragomanref01_down.f, e1, e2, Option.bind_some]
    by_cases h : u < 10
    · rw [if_pos (by omega), dec_lt h, Nat.mod_eq_of_lt h]
    · have hl := dec_len d (u / 10) (by rw [Nat.pow_succ] at hu; omega)
      have hz : (strOfNums (dec (u / 10))).size + (strOfNums [48 + ((u % 10 : Nat) : Int)]).size ≤ 9223372036854775807 := by
        rw [strOfNums_size, strOfNums_size]; exact Nat.le_trans (by simp; omega : _ ≤ 100) (by decide)
      rw [if_neg (by omega), ih k (u / 10) (by omega) (by rw [Nat.pow_succ] at hu; omega) (by omega) (by omega), Option.bind_some, if_pos hz, dec_ge h]
      refine congrArg some (ext_bytes ?_)
      have hB : Bytes [48 + ((u % 10 : Nat) : Int)] := by intro x hx; simp at hx; subst hx; omega
      rw [bytesOf_append, bytesOf_strOfNums _ (dec_bytes _), bytesOf_strOfNums _ hB, bytesOf_strOfNums]
      intro x hx
      rcases List.mem_append.1 hx with hx | hx
      · exact dec_bytes _ x hx
      · exact hB x hx
theorem rfigures_f (n : Int) (k : Nat) (hk : 20 < k) (h0 : -9223372036854775808 ≤ n) (h1 : n ≤ 9223372036854775807) : dragomanref01_Figures.f k n = some (fig n) := by
  unfold dragomanref01_Figures.f
  by_cases h : n < 0
  · have e : n = -((n.natAbs : Nat) : Int) := by omega
    have hd := down_f 18 k n.natAbs (by omega) (by rw [p19]; omega) (by omega) (by omega)
    rw [← e] at hd
    have hl := dec_len 18 n.natAbs (by rw [p19]; omega)
    have hz : 1 + (strOfNums (dec n.natAbs)).size ≤ 9223372036854775807 := by rw [strOfNums_size]; exact Nat.le_trans (by omega : _ ≤ 100) (by decide)
    rw [if_pos h, hd, Option.bind_some, if_pos hz]
    refine congrArg some (ext_bytes ?_)
    rw [bytesOf_append, bytesOf_strOfNums _ (dec_bytes _), bytes_fig]
    unfold figL
    rw [if_pos h]; rfl
  · have e : wrap64 (-n) = -((n.toNat : Nat) : Int) := by rw [wrap_id (by omega) (by omega)]; omega
    have hd := down_f 18 k n.toNat (by omega) (by rw [p19]; omega) (by omega) (by omega)
    rw [if_neg h, e, hd, Option.bind_some]
    refine congrArg some (ext_bytes ?_)
    rw [bytesOf_strOfNums _ (dec_bytes _), bytes_fig]
    unfold figL
    rw [if_neg h]
theorem itoa10 : Lib.itoa (-10) = [45, 49, 48] := by
  unfold Lib.itoa
  rw [if_pos (by omega)]
  rw [show Int.natAbs (-10) = 10 from rfl]
  unfold Lib.decDigits
  rw [dif_neg (by omega)]
  unfold Lib.decDigits
  rw [dif_pos (by omega)]
  rfl
theorem shown_f : dragomanlaw01_shown.f = some true := by
  unfold dragomanlaw01_shown.f
  rw [hex_f _ (by decide), Option.bind_some, if_pos (by decide +kernel), figures_f _ (by omega) (by omega), Option.bind_some]
  unfold fig
  rw [itoa10, if_pos (by decide +kernel)]
  decide +kernel
/-- A number's figures, with what is no figure behind, are read as it. -/
theorem read_fig (n : Int) (r : List Int) (hr : r.takeWhile isD = []) (h0 : -9223372036854775808 ≤ n) (h1 : n ≤ 9223372036854775807) :
    wholeL (figL n ++ r) = (n, ((figL n).length : Int), 0) ∧ (0 ≤ n → wholeL (48 :: (figL n ++ r)) = (n, ((figL n).length : Int) + 1, 0)) := by
  unfold figL
  by_cases h : n < 0
  · obtain ⟨f1, f2, f3⟩ := dec_facts n.natAbs
    rw [if_pos h]
    refine ⟨?_, fun q => by omega⟩
    have hs : sgn (45 :: dec n.natAbs ++ r) = 1 := by unfold sgn; simp
    have hf : figs (45 :: dec n.natAbs ++ r) = dec n.natAbs := by
      unfold figs
      rw [hs]
      show (dec n.natAbs ++ r).takeWhile isD = _
      rw [List.takeWhile_append_of_pos f1, hr, List.append_nil]
    unfold wholeL
    rw [hs, hf, f2]
    unfold outc
    have hl : 0 < (dec n.natAbs).length := List.length_pos_iff.2 f3
    rw [if_neg (by omega), if_neg (by decide), if_pos (by omega)]
    simp only [Prod.mk.injEq, and_true, List.length_cons]
    omega
  · obtain ⟨f1, f2, f3⟩ := dec_facts n.toNat
    rw [if_neg h]
    have hl : 0 < (dec n.toNat).length := List.length_pos_iff.2 f3
    constructor
    · have hs : sgn (dec n.toNat ++ r) = 0 := by
        unfold sgn
        cases hd : dec n.toNat with
        | nil => exact absurd hd f3
        | cons c q =>
          have := (isD_iff c).1 (f1 c (by rw [hd]; simp))
          rw [if_neg (by simp; omega)]
      have hf : figs (dec n.toNat ++ r) = dec n.toNat := by
        unfold figs
        rw [hs]
        show (dec n.toNat ++ r).takeWhile isD = _
        rw [List.takeWhile_append_of_pos f1, hr, List.append_nil]
      unfold wholeL
      rw [hs, hf, f2]
      unfold outc
      rw [if_neg (by omega), if_pos rfl, if_pos (by omega)]
      simp only [Prod.mk.injEq, and_true]
      omega
    · intro _
      have hs : sgn (48 :: (dec n.toNat ++ r)) = 0 := by unfold sgn; simp
      have hf : figs (48 :: (dec n.toNat ++ r)) = 48 :: dec n.toNat := by
        unfold figs
        rw [hs]
        show (48 :: (dec n.toNat ++ r)).takeWhile isD = _
        rw [List.takeWhile_cons, show isD 48 = true by decide, if_pos rfl, List.takeWhile_append_of_pos f1, hr, List.append_nil]
      have hv : val 0 (48 :: dec n.toNat) = n.toNat := by
        show val (10 * 0 + ((48 : Int) - 48).toNat) (dec n.toNat) = _
        exact f2
      unfold wholeL
      rw [hs, hf, hv]
      unfold outc
      rw [if_neg (by simp), if_pos rfl, if_pos (by omega)]
      simp only [Prod.mk.injEq, and_true, List.length_cons]
      omega
end Go.Proofs.YtldagaiphggnnaaDoor.PC
namespace Go.Proofs.YtldagaiphggnnaaDoor.Pure
open Go.RowKit Go.Proofs.YtldagaiphggnnaaDoorW.PrintWords Go.Proofs.YtldagaiphggnnaaDoorW.PrintLast Go.Proofs.YtldagaiphggnnaaDoor.G Go.Proofs.YtldagaiphggnnaaDoor.GB Go.Proofs.YtldagaiphggnnaaDoor.QB Go.Proofs.YtldagaiphggnnaaDoor.PA Go.Proofs.YtldagaiphggnnaaDoor.PC
/-- A number's figures, and a number that is read, are as the document says. -/
theorem HexNumbers : dragomanlaw01_HexNumbers.Pure := by
  intro n s hn hs
  obtain ⟨n0, n1⟩ := i64_range hn
  refine ⟨s.size + 40, ?_⟩
  unfold dragomanlaw01_HexNumbers.f
  rw [PC.shown_f, Option.bind_some]
  by_cases h : (s.size : Int) > 5000
  · rw [if_pos h]
  · rw [if_neg h, whole_f s (by omega), Option.bind_some, rwhole_f s _ (by omega) (by omega), Option.bind_some, if_pos rfl, figures_f n n0 n1, Option.bind_some, rfigures_f n _ (by omega) n0 n1, Option.bind_some, if_pos rfl, if_pos rfl, if_pos rfl]
    exact congrArg some (beq_self_eq_true _)
/-- A number's figures are read as it, whatever stands behind that is no figure. -/
theorem HexFigures : dragomanlaw01_HexFigures.Pure := by
  intro n s hn hs
  obtain ⟨n0, n1⟩ := i64_range hn
  refine ⟨10, ?_⟩
  unfold dragomanlaw01_HexFigures.f
  rw [PC.shown_f, Option.bind_some]
  have J1 : dragomanlaw01_HexFigures.j0 10 n s true true = some true := by simp only [dragomanlaw01_HexFigures.j0, if_true]
  have J0 : (s.size : Int) ≤ 1000 → (bytesOf s).takeWhile isD = [] → dragomanlaw01_HexFigures.j0 10 n s true false = some true := by
    intro hz hr
    have hl := fig_len n n0 n1
    obtain ⟨r1, r2⟩ := read_fig n (bytesOf s) hr n0 n1
    have q1 : (fig n).size + s.size ≤ 9223372036854775807 := Nat.le_trans (by omega : _ ≤ 10000) (by decide)
    have q2 : 1 + (fig n).size ≤ 9223372036854775807 := Nat.le_trans (by omega : _ ≤ 10000) (by decide)
    have q3 : ((⟨#[48]⟩ : ByteArray) ++ fig n).size + s.size ≤ 9223372036854775807 := by
      rw [ByteArray.size_append, show (ByteArray.mk #[48]).size = 1 from rfl]; exact Nat.le_trans (by omega : _ ≤ 10000) (by decide)
    have b1 : bytesOf (fig n ++ s) = figL n ++ bytesOf s := by rw [bytesOf_append, bytes_fig]
    have b2 : bytesOf ((⟨#[48]⟩ : ByteArray) ++ fig n ++ s) = 48 :: (figL n ++ bytesOf s) := by rw [bytesOf_append, bytesOf_append, bytes_fig]; rfl
    have hz1 : ((figL n).length : Int) = ((fig n).size : Int) := by rw [← bytes_fig, bytesOf_length]
    have z1 : (fig n ++ s).size ≤ 281474976710656 := by rw [ByteArray.size_append]; omega
    have z2 : ((⟨#[48]⟩ : ByteArray) ++ fig n ++ s).size ≤ 281474976710656 := by rw [ByteArray.size_append, ByteArray.size_append, show (ByteArray.mk #[48]).size = 1 from rfl]; omega
    have hw : wrap64 (((fig n).size : Int) + 1) = ((fig n).size : Int) + 1 := wrap_id (by omega) (by omega)
    simp only [dragomanlaw01_HexFigures.j0, Bool.false_eq_true, if_false]
    rw [figures_f n n0 n1, Option.bind_some, if_pos q1, whole_f _ z1, b1, r1, Option.bind_some, hz1]
    by_cases h : n < 0
    · rw [if_pos h, if_pos rfl, if_pos rfl, if_pos trivial]; rfl
    · rw [if_neg h, if_pos q2, if_pos q3, whole_f _ z2, b2, r2 (by omega), Option.bind_some, hz1, hw, if_pos rfl, if_pos rfl, if_pos rfl, if_pos rfl, if_pos rfl, if_pos trivial]; rfl
  by_cases h : (s.size : Int) > 1000
  · rw [if_pos h]; exact J1
  · rw [if_neg h]
    by_cases h0 : (s.size : Int) > 0
    · have hc : bytesOf s = bt s 0 :: (bytesOf s).drop 1 := by
        have := drop_cons s 0 (by omega)
        rw [List.drop_zero] at this
        exact this
      rw [if_pos h0, if_pos (show 0 < (s.size : Int) from h0)]
      by_cases h48 : bt s 0 ≥ 48
      · rw [if_pos h48]
        by_cases h57 : bt s 0 ≤ 57
        · rw [decide_eq_true h57]; exact J1
        · rw [decide_eq_false h57]
          refine J0 (by omega) ?_
          rw [hc, List.takeWhile_cons, show isD (bt s 0) = false by rw [Bool.eq_false_iff, ne_eq, isD_iff]; omega]
          rfl
      · rw [if_neg h48]
        refine J0 (by omega) ?_
        rw [hc, List.takeWhile_cons, show isD (bt s 0) = false by rw [Bool.eq_false_iff, ne_eq, isD_iff]; omega]
        rfl
    · rw [if_neg h0]
      refine J0 (by omega) ?_
      have : bytesOf s = [] := List.eq_nil_of_length_eq_zero (by rw [bytesOf_length]; omega)
      rw [this]; rfl
end Go.Proofs.YtldagaiphggnnaaDoor.Pure
