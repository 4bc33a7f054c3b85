/- Texts of this seat, put together: each part tells above it what it proves and on what conditions. -/
import Derived.Test.YtgodmbcebpbdiaaDoorXLO
import Derived.WalkLawsBesides
import Derived.Test.YtgodmbcebpbdiaaDoorXLP
import Derived.Deep.CutBlock
/- Floats as whole numbers of a least unit: what reading, comparing, subtracting, doubling and rounding come to where nothing is rounded away. No Go stands here. -/
section
set_option linter.unusedVariables false
set_option linter.unusedSimpArgs false
namespace Go.Proofs.YtgodmbcebpbdiaaDoor.FL

/-! ### The parts of a word -/
def fieldE (b : Nat) : Nat := b / 4503599627370496 % 2048
def fracN (b : Nat) : Nat := b % 4503599627370496
def magN (b : Nat) : Nat := if fieldE b = 0 then fracN b else 4503599627370496 + fracN b
def plE (b : Nat) : Nat := fieldE b - 1
def sgnN (b : Nat) : Bool := decide (b / 9223372036854775808 % 2 = 1)
/-- A finite float's size, in the least unit. -/
def U (b : Nat) : Nat := magN b * 2 ^ plE b
/-- .. with its sign. -/
def sU (b : Nat) : Int := if sgnN b then -(U b : Int) else (U b : Int)
theorem mag_lt (b : Nat) : magN b < 9007199254740992 := by
  unfold magN fracN
  split <;> omega
theorem pl_le (b : Nat) (h : fieldE b ≠ 2047) : plE b ≤ 2045 := by
  unfold plE
  have : fieldE b < 2048 := Nat.mod_lt _ (by decide)
  omega
theorem sgn_eq (b : Nat) : (b / 9223372036854775808 % 2 == 1) = sgnN b := by
  unfold sgnN
  rw [Bool.eq_iff_iff]; simp
theorem read_word (b : Nat) : Ieee.double.read b = if b % 9223372036854775808 < 4503599627370496 then .number (sgnN b) (b % 9223372036854775808) (-1074)
    else if b % 9223372036854775808 < 9218868437227405312 then .number (sgnN b) (4503599627370496 + b % 9223372036854775808 % 4503599627370496) (-1074 + ((b % 9223372036854775808 / 4503599627370496 - 1 : Nat) : Int))
    else if b % 9223372036854775808 = 9218868437227405312 then .infinity (sgnN b) else .nan (sgnN b) (b % 9223372036854775808 - 9218868437227405312) := by
  rw [← sgn_eq]; rfl
theorem read_fin (b : Nat) (h : fieldE b ≠ 2047) : Ieee.double.read b = .number (sgnN b) (magN b) ((plE b : Int) - 1074) := by
  rw [read_word]
  unfold magN plE fracN
  unfold fieldE at h ⊢
  by_cases h0 : b / 4503599627370496 % 2048 = 0
  · rw [if_pos (by omega), if_pos h0, h0, show b % 9223372036854775808 = b % 4503599627370496 by omega]; rfl
  · rw [if_neg (by omega), if_neg h0, if_pos (by omega), show b % 9223372036854775808 % 4503599627370496 = b % 4503599627370496 by omega, show b % 9223372036854775808 / 4503599627370496 = b / 4503599627370496 % 2048 by omega]
    congr 1
theorem read_inf (b : Nat) (h : fieldE b = 2047) (hf : fracN b = 0) : Ieee.double.read b = .infinity (sgnN b) := by
  rw [read_word]
  unfold fieldE at h; unfold fracN at hf
  rw [if_neg (by omega), if_neg (by omega), if_pos (by omega)]
theorem read_nan (b : Nat) (h : fieldE b = 2047) (hf : fracN b ≠ 0) : ∃ t, Ieee.double.read b = .nan (sgnN b) t := by
  rw [read_word]
  unfold fieldE at h; unfold fracN at hf
  rw [if_neg (by omega), if_neg (by omega), if_neg (by omega)]
  exact ⟨_, rfl⟩

/-! ### Rounding where nothing is lost -/
theorem log2_mul_pow (a k : Nat) (h : 0 < a) : (a * 2 ^ k).log2 = a.log2 + k := by
  have h1 : a ≠ 0 := by omega
  have h2 : a * 2 ^ k ≠ 0 := Nat.mul_ne_zero h1 (by simp)
  obtain ⟨h3, h4⟩ := (Nat.log2_eq_iff h1).1 rfl
  refine (Nat.log2_eq_iff h2).2 ⟨?_, ?_⟩
  · rw [Nat.pow_add]; exact Nat.mul_le_mul_right _ h3
  · rw [show a.log2 + k + 1 = (a.log2 + 1) + k by omega, Nat.pow_add]; exact Nat.mul_lt_mul_of_pos_right h4 (Nat.two_pow_pos _)
theorem gap_eq (n drop : Nat) (h : drop ≤ n.log2 + 2) : 1 <<< min drop (n.log2 + 2) = 2 ^ drop := by
  rw [Nat.min_eq_left h, Nat.shiftLeft_eq, Nat.one_mul]
theorem cut_exact (s : Bool) (n drop K : Nat) (hK : 0 < K) (h : n = K * 2 ^ drop) : Ieee.Toward.even.cut s n drop = K := by
  have hl : drop ≤ n.log2 + 2 := by rw [h, log2_mul_pow K drop hK]; omega
  unfold Ieee.Toward.cut
  rw [gap_eq n drop hl]
  have hp := Nat.two_pow_pos drop
  have h1 : n / 2 ^ drop = K := by rw [h]; exact Nat.mul_div_cancel _ hp
  have h2 : n % 2 ^ drop = 0 := by rw [h]; exact Nat.mul_mod_left _ _
  simp only [h1, h2]
  have h3 : decide (2 ^ drop < 2 * 0) = false := decide_eq_false (by omega)
  have h4 : (2 ^ drop == 2 * 0) = false := beq_false_of_ne (by omega)
  rw [h3, h4]; rfl
theorem cut_zero (s : Bool) (n drop : Nat) : Ieee.Toward.zero.cut s n drop = n / 2 ^ drop := by
  unfold Ieee.Toward.cut
  by_cases hl : drop ≤ n.log2 + 2
  · rw [gap_eq n drop hl]; rfl
  · rw [Nat.min_eq_right (by omega), Nat.shiftLeft_eq, Nat.one_mul]
    have hn : n < 2 ^ (n.log2 + 2) := Nat.lt_of_lt_of_le (Nat.lt_log2_self) (Nat.pow_le_pow_right (by decide) (by omega))
    have hn2 : n < 2 ^ drop := Nat.lt_of_lt_of_le hn (Nat.pow_le_pow_right (by decide) (by omega))
    rw [Nat.div_eq_of_lt hn2]
    show n / 2 ^ (n.log2 + 2) + 0 = 0
    rw [Nat.div_eq_of_lt hn]
/-- A number of at most 53 digits. -/
def Rep (n : Nat) : Prop := ∃ M E, n = M * 2 ^ E ∧ M < 9007199254740992
theorem rep_U (b : Nat) : Rep (U b) := ⟨magN b, plE b, rfl, mag_lt b⟩
/-- A word of a sign and a number of the least unit. -/
def Fin (r : Nat) (s : Bool) (n : Nat) : Prop := r < 18446744073709551616 ∧ fieldE r ≠ 2047 ∧ U r = n ∧ sgnN r = s
theorem word_parts (s : Bool) (e K : Nat) (hK : K < 9007199254740992) (he : e ≤ 2045) (h0 : K < 4503599627370496 → e = 0) :
    Fin (Ieee.double.word s (e * 4503599627370496 + K)) s (K * 2 ^ e) := by
  have hw : Ieee.double.word s (e * 4503599627370496 + K) = if s then 9223372036854775808 + (e * 4503599627370496 + K) else e * 4503599627370496 + K := rfl
  rw [hw]
  have key : ∀ r, (r = e * 4503599627370496 + K ∧ s = false) ∨ (r = 9223372036854775808 + (e * 4503599627370496 + K) ∧ s = true) → Fin r s (K * 2 ^ e) := by
    intro r hr
    have hf : fieldE r ≠ 2047 ∧ magN r = K ∧ plE r = e := by
      unfold magN plE fracN fieldE
      by_cases hk : K < 4503599627370496
      · obtain rfl := h0 hk
        have hz : r / 4503599627370496 % 2048 = 0 := by omega
        rw [hz, if_pos rfl]
        omega
      · have hz : r / 4503599627370496 % 2048 = e + 1 := by omega
        rw [hz, if_neg (by omega)]
        omega
    refine ⟨by omega, hf.1, by unfold U; rw [hf.2.1, hf.2.2], ?_⟩
    unfold sgnN
    rcases hr with ⟨h1, h2⟩ | ⟨h1, h2⟩
    · rw [h2]; exact decide_eq_false (by omega)
    · rw [h2]; exact decide_eq_true (by omega)
  cases s with
  | true => exact key _ (Or.inr ⟨rfl, rfl⟩)
  | false => exact key _ (Or.inl ⟨rfl, rfl⟩)
theorem near (s : Bool) (mag p q n : Nat) (place : Int) (hpl : place = (p : Int) - q - 1074) (heq : mag * 2 ^ p = n * 2 ^ q) (hr : Rep n) (hlt : n < 2 ^ 2098) :
    Fin (Ieee.double.nearest s mag place) s n := by
  by_cases hn : n = 0
  · subst hn
    have hm : mag = 0 := by
      rw [Nat.zero_mul] at heq
      rcases Nat.mul_eq_zero.1 heq with h | h
      · exact h
      · exact absurd h (by simp)
    have h1 : Ieee.double.nearest s mag place = Ieee.double.word s (0 * 4503599627370496 + 0) := by
      unfold Ieee.Format.nearest; rw [if_pos hm]
    rw [h1]
    have := word_parts s 0 0 (by decide) (by decide) (fun _ => rfl)
    rwa [Nat.zero_mul] at this
  · have hn0 : 0 < n := Nat.pos_of_ne_zero hn
    have hm0 : 0 < mag := by
      rcases Nat.eq_zero_or_pos mag with h | h
      · rw [h, Nat.zero_mul] at heq
        exact absurd heq.symm (Nat.mul_ne_zero hn (by simp))
      · exact h
    have hlog : mag.log2 + p = n.log2 + q := by rw [← log2_mul_pow mag p hm0, ← log2_mul_pow n q hn0, heq]
    obtain ⟨l1, l2⟩ := (Nat.log2_eq_iff hn).1 rfl
    obtain ⟨M, E, hME, hM⟩ := hr
    have hM0 : 0 < M := by
      rcases Nat.eq_zero_or_pos M with h | h
      · rw [h, Nat.zero_mul] at hME; exact absurd hME hn
      · exact h
    have hLE : n.log2 = M.log2 + E := by rw [hME, log2_mul_pow M E hM0]
    have hML : M.log2 ≤ 52 := by
      have := (Nat.log2_lt (by omega) (k := 53)).2 (Nat.lt_of_lt_of_le hM (by decide))
      omega
    generalize heL : n.log2 - 52 = e at *
    have hdiv : n = M * 2 ^ (E - e) * 2 ^ e := by
      rw [Nat.mul_assoc, ← Nat.pow_add, show E - e + e = E by omega]; exact hME
    generalize M * 2 ^ (E - e) = K at hdiv
    have hK0 : 0 < K := by
      rcases Nat.eq_zero_or_pos K with h | h
      · rw [h, Nat.zero_mul] at hdiv; exact absurd hdiv hn
      · exact h
    have hKL : n.log2 = K.log2 + e := by rw [hdiv, log2_mul_pow K e hK0]
    obtain ⟨k1, k2⟩ := (Nat.log2_eq_iff (Nat.pos_iff_ne_zero.1 hK0)).1 rfl
    have hKlt : K < 9007199254740992 := Nat.lt_of_lt_of_le k2 (Nat.pow_le_pow_right (n := 2) (by decide) (show K.log2 + 1 ≤ 53 by omega))
    have hKge : K < 4503599627370496 → e = 0 := by
      intro h
      rcases Nat.eq_zero_or_pos e with he | he
      · exact he
      · have h52 : K.log2 = 52 := by omega
        rw [h52] at k1
        omega
    have he : e ≤ 2045 := by
      have : n.log2 < 2098 := (Nat.log2_lt hn).2 hlt
      omega
    have hlast : max (place + (mag.log2 : Int) - ((52 : Nat) : Int)) (-1074) = (e : Int) - 1074 := by omega
    have hk : Ieee.Toward.even.cut s (mag <<< (place - ((e : Int) - 1074)).toNat) (((e : Int) - 1074) - place).toNat = K := by
      have e1 : (place - ((e : Int) - 1074)).toNat = p - (q + e) := by omega
      have e2 : (((e : Int) - 1074) - place).toNat = (q + e) - p := by omega
      rw [e1, e2]
      refine cut_exact s _ _ K hK0 ?_
      rw [Nat.shiftLeft_eq]
      rw [hdiv] at heq
      by_cases hpq : q + e ≤ p
      · rw [show q + e - p = 0 by omega, Nat.pow_zero, Nat.mul_one]
        refine Nat.eq_of_mul_eq_mul_right (Nat.two_pow_pos (q + e)) ?_
        rw [Nat.mul_assoc, ← Nat.pow_add, show p - (q + e) + (q + e) = p by omega, heq, Nat.mul_assoc, ← Nat.pow_add, Nat.add_comm e q]
      · rw [show p - (q + e) = 0 by omega, Nat.pow_zero, Nat.mul_one]
        refine Nat.eq_of_mul_eq_mul_right (Nat.two_pow_pos p) ?_
        rw [heq, Nat.mul_assoc, Nat.mul_assoc, ← Nat.pow_add, ← Nat.pow_add, show q + e - p + p = e + q by omega]
    have hnear : Ieee.double.nearest s mag place = Ieee.double.word s (e * 4503599627370496 + K) := by
      unfold Ieee.Format.nearest
      rw [if_neg (by omega)]
      have c1 : (Ieee.double.fractionBits : Int) = ((52 : Nat) : Int) := rfl
      have c2 : Ieee.double.leastPlace = -1074 := rfl
      have c3 : Ieee.double.binade = 4503599627370496 := rfl
      have c4 : Ieee.double.infRung = 9218868437227405312 := rfl
      simp only [c1, c2, c3, c4, hlast, hk]
      rw [show ((e : Int) - 1074 - -1074).toNat = e by omega, Nat.min_eq_left (by omega)]
    rw [hnear, hdiv]
    exact word_parts s e K hKlt he hKge
end Go.Proofs.YtgodmbcebpbdiaaDoor.FL
end

/- Floats: comparisons, differences, doubles, whole parts, in the least unit. No Go stands here. -/
section
set_option linter.unusedVariables false
set_option linter.unusedSimpArgs false
set_option exponentiation.threshold 3000
namespace Go.Proofs.YtgodmbcebpbdiaaDoor.FL

theorem shl_base (m e d : Nat) (h : d ≤ e) : m <<< (((e : Int) - 1074) - ((d : Int) - 1074)).toNat * 2 ^ d = m * 2 ^ e := by
  rw [show (((e : Int) - 1074) - ((d : Int) - 1074)).toNat = e - d by omega, Nat.shiftLeft_eq, Nat.mul_assoc, ← Nat.pow_add, Nat.sub_add_cancel h]
theorem signed_mul (s : Bool) (m e d : Nat) (h : d ≤ e) : Ieee.signed s m (((e : Int) - 1074) - ((d : Int) - 1074)).toNat * ((2 ^ d : Nat) : Int) = if s then -((m * 2 ^ e : Nat) : Int) else ((m * 2 ^ e : Nat) : Int) := by
  unfold Ieee.signed
  rw [← shl_base m e d h]
  cases s with
  | true => rw [if_pos rfl, if_pos rfl, Int.neg_mul, Int.natCast_mul]
  | false => rw [if_neg Bool.false_ne_true, if_neg Bool.false_ne_true, Int.natCast_mul]
theorem base_eq (x y : Nat) : min ((plE x : Int) - 1074) ((plE y : Int) - 1074) = ((min (plE x) (plE y) : Nat) : Int) - 1074 := by omega
/-- How two finite floats stand to each other. -/
theorem order_fin (x y : Nat) (hx : fieldE x ≠ 2047) (hy : fieldE y ≠ 2047) : Ieee.double.order x y = some (compare (sU x) (sU y)) := by
  unfold Ieee.Format.order
  rw [read_fin x hx, read_fin y hy]
  simp only [Ieee.Datum.order]
  rw [base_eq]
  have h1 := signed_mul (sgnN x) (magN x) (plE x) (min (plE x) (plE y)) (Nat.min_le_left _ _)
  have h2 := signed_mul (sgnN y) (magN y) (plE y) (min (plE x) (plE y)) (Nat.min_le_right _ _)
  have hp : (0 : Int) < ((2 ^ min (plE x) (plE y) : Nat) : Int) := by have := Nat.two_pow_pos (min (plE x) (plE y)); omega
  have e1 : sU x = Ieee.signed (sgnN x) (magN x) (((plE x : Int) - 1074) - (((min (plE x) (plE y) : Nat) : Int) - 1074)).toNat * ((2 ^ min (plE x) (plE y) : Nat) : Int) := by rw [h1]; rfl
  have e2 : sU y = Ieee.signed (sgnN y) (magN y) (((plE y : Int) - 1074) - (((min (plE x) (plE y) : Nat) : Int) - 1074)).toNat * ((2 ^ min (plE x) (plE y) : Nat) : Int) := by rw [h2]; rfl
  rw [e1, e2]
  generalize Ieee.signed (sgnN x) _ _ = a
  generalize Ieee.signed (sgnN y) _ _ = b
  generalize ((2 ^ min (plE x) (plE y) : Nat) : Int) = p at hp
  congr 1
  rcases Int.lt_trichotomy a b with h | h | h
  · rw [Int.compare_eq_lt.2 h, Int.compare_eq_lt.2 (Int.mul_lt_mul_of_pos_right h hp)]
  · rw [h, Int.compare_eq_eq.2 rfl, Int.compare_eq_eq.2 rfl]
  · rw [Int.compare_eq_gt.2 h, Int.compare_eq_gt.2 (Int.mul_lt_mul_of_pos_right h hp)]
theorem lt_fin (x y : Nat) (hx : fieldE x ≠ 2047) (hy : fieldE y ≠ 2047) : (Ieee.double.order x y == some .lt) = decide (sU x < sU y) := by
  rw [order_fin x y hx hy, Bool.eq_iff_iff, decide_eq_true_eq, ← Int.compare_eq_lt]; simp
theorem gt_fin (x y : Nat) (hx : fieldE x ≠ 2047) (hy : fieldE y ≠ 2047) : (Ieee.double.order x y == some .gt) = decide (sU y < sU x) := by
  rw [order_fin x y hx hy, Bool.eq_iff_iff, decide_eq_true_eq, ← Int.compare_eq_gt]; simp
theorem eq_fin (x y : Nat) (hx : fieldE x ≠ 2047) (hy : fieldE y ≠ 2047) : (Ieee.double.order x y == some .eq) = decide (sU x = sU y) := by
  rw [order_fin x y hx hy, Bool.eq_iff_iff, decide_eq_true_eq, ← Int.compare_eq_eq]; simp
/-- A difference that has at most 53 digits. -/
theorem sub_fin (x y : Nat) (hx : fieldE x ≠ 2047) (hy : fieldE y ≠ 2047) (hr : Rep (sU x - sU y).natAbs) (hlt : (sU x - sU y).natAbs < 2 ^ 2098) :
    ∃ r s, Ieee.double.sub x y = some r ∧ Fin r s (sU x - sU y).natAbs ∧ (sU x - sU y ≠ 0 → s = decide (sU x - sU y < 0)) := by
  unfold Ieee.Format.sub
  rw [read_fin x hx, read_fin y hy]
  simp only [Ieee.Datum.opposite, Ieee.Datum.sum, Option.map_some]
  rw [base_eq]
  have h1 := signed_mul (sgnN x) (magN x) (plE x) (min (plE x) (plE y)) (Nat.min_le_left _ _)
  have h2 := signed_mul (!sgnN y) (magN y) (plE y) (min (plE x) (plE y)) (Nat.min_le_right _ _)
  have hp : (0 : Int) < ((2 ^ min (plE x) (plE y) : Nat) : Int) := by have := Nat.two_pow_pos (min (plE x) (plE y)); omega
  have e1 : Ieee.signed (sgnN x) (magN x) (((plE x : Int) - 1074) - (((min (plE x) (plE y) : Nat) : Int) - 1074)).toNat * ((2 ^ min (plE x) (plE y) : Nat) : Int) = sU x := by rw [h1]; rfl
  have e2 : Ieee.signed (!sgnN y) (magN y) (((plE y : Int) - 1074) - (((min (plE x) (plE y) : Nat) : Int) - 1074)).toNat * ((2 ^ min (plE x) (plE y) : Nat) : Int) = -sU y := by
    rw [h2]; unfold sU U
    cases sgnN y with
    | true => rw [if_neg (by decide), if_pos rfl, Int.neg_neg]
    | false => rw [if_pos (by decide), if_neg (by decide)]
  generalize Ieee.signed (sgnN x) _ _ = a at *
  generalize Ieee.signed (!sgnN y) _ _ = b at *
  have he : (a + b) * ((2 ^ min (plE x) (plE y) : Nat) : Int) = sU x - sU y := by rw [Int.add_mul, e1, e2]; omega
  have hn : (sU x - sU y).natAbs = (a + b).natAbs * 2 ^ min (plE x) (plE y) := by rw [← he, Int.natAbs_mul, Int.natAbs_natCast]
  refine ⟨_, if a + b = 0 then sgnN x && !sgnN y else decide (a + b < 0), rfl, ?_, ?_⟩
  · exact near _ (a + b).natAbs (min (plE x) (plE y)) 0 _ _ (by omega) (by rw [hn, Nat.pow_zero, Nat.mul_one]) hr hlt
  · intro hne
    rw [← he] at hne ⊢
    generalize ((2 ^ min (plE x) (plE y) : Nat) : Int) = p at *
    have hab : a + b ≠ 0 := fun h => hne (by rw [h, Int.zero_mul])
    rw [if_neg hab]
    rcases Int.lt_trichotomy (a + b) 0 with h | h | h
    · rw [decide_eq_true h, decide_eq_true (Int.mul_neg_of_neg_of_pos h hp)]
    · exact absurd h hab
    · have := Int.mul_pos h hp
      rw [decide_eq_false (by omega), decide_eq_false (by omega)]
/-- A word of two. -/
theorem two_read : Ieee.double.read 4611686018427387904 = .number false 4503599627370496 (-51) := by
  rw [read_fin _ (by decide)]; rfl
/-- A double. -/
theorem double_fin (x : Nat) (s : Bool) (n : Nat) (h : Fin x s n) (hlt : 2 * n < 2 ^ 2098) : ∃ r, Ieee.double.mul x 4611686018427387904 = some r ∧ Fin r s (2 * n) := by
  obtain ⟨h1, h2, h3, h4⟩ := h
  unfold Ieee.Format.mul
  rw [read_fin x h2, two_read]
  simp only [Ieee.Datum.product, Option.map_some]
  refine ⟨_, rfl, ?_⟩
  rw [h4, Bool.xor_false]
  refine near s (magN x * 4503599627370496) (plE x) 51 (2 * n) _ (by omega) ?_ ⟨magN x, plE x + 1, ?_, mag_lt x⟩ hlt
  · rw [← h3]; unfold U
    rw [show (4503599627370496 : Nat) = 2 * 2 ^ 51 from rfl]
    generalize 2 ^ 51 = a
    generalize 2 ^ plE x = c
    generalize magN x = m
    ac_rfl
  · rw [← h3]; unfold U
    rw [Nat.pow_succ]
    ac_rfl
/-- The whole part of a float that is not below 0. -/
theorem toInt_fin (x n : Nat) (h : Fin x false n) : (Ieee.double.read x).toInt .zero = some ((n / 2 ^ 1074 : Nat) : Int) := by
  obtain ⟨h1, h2, h3, h4⟩ := h
  rw [read_fin x h2, h4]
  simp only [Ieee.Datum.toInt, Ieee.Datum.integral, Ieee.signed, if_neg Bool.false_ne_true]
  rw [cut_zero, Nat.shiftLeft_eq, Nat.shiftLeft_eq, Nat.pow_zero, Nat.mul_one, ← h3]
  unfold U
  congr 2
  by_cases he : plE x ≤ 1074
  · rw [show ((plE x : Int) - 1074).toNat = 0 by omega, show (-((plE x : Int) - 1074)).toNat = 1074 - plE x by omega, Nat.pow_zero, Nat.mul_one]
    conv => rhs; rw [show 1074 = 1074 - plE x + plE x by omega, Nat.pow_add]
    exact (Nat.mul_div_mul_right _ _ (Nat.two_pow_pos _)).symm
  · rw [show ((plE x : Int) - 1074).toNat = plE x - 1074 by omega, show (-((plE x : Int) - 1074)).toNat = 0 by omega, Nat.pow_zero, Nat.div_one]
    conv => rhs; rw [show plE x = plE x - 1074 + 1074 by omega, Nat.pow_add, ← Nat.mul_assoc, Nat.mul_div_cancel _ (Nat.two_pow_pos _)]
/-- A whole number as a float. -/
theorem ofInt_fin (n : Nat) (h : n < 9007199254740992) : Fin (floatOfInt .f64 (n : Int)) false (n * 2 ^ 1074) := by
  have h1 : floatOfInt .f64 (n : Int) = Ieee.double.nearest (decide ((n : Int) < 0)) (n : Int).natAbs 0 := rfl
  rw [h1, decide_eq_false (by omega), Int.natAbs_natCast]
  refine near false n 1074 0 (n * 2 ^ 1074) 0 (by omega) (by rw [Nat.pow_zero, Nat.mul_one]) ⟨n, 1074, rfl, h⟩ ?_
  rw [show (2098 : Nat) = 1024 + 1074 from rfl, Nat.pow_add]
  exact Nat.mul_lt_mul_of_pos_right (Nat.lt_of_lt_of_le h (Nat.pow_le_pow_right (n := 2) (by decide) (show 53 ≤ 1024 by decide))) (Nat.two_pow_pos _)
/-- What is left of a number of 53 digits by a power of two. -/
theorem Rep.mod {n : Nat} (h : Rep n) (k : Nat) : Rep (n % 2 ^ k) := by
  obtain ⟨M, E, rfl, hM⟩ := h
  by_cases hk : k ≤ E
  · refine ⟨0, 0, ?_, by decide⟩
    rw [show E = E - k + k by omega, Nat.pow_add, ← Nat.mul_assoc, Nat.mul_mod_left, Nat.zero_mul]
  · refine ⟨M % 2 ^ (k - E), E, ?_, Nat.lt_of_le_of_lt (Nat.mod_le _ _) hM⟩
    conv => lhs; rw [show k = k - E + E by omega, Nat.pow_add]
    exact Nat.mul_mod_mul_right _ _ _
end Go.Proofs.YtgodmbcebpbdiaaDoor.FL
end

/- A number of words by two, walked. -/
section
set_option linter.unusedVariables false
set_option linter.unusedSimpArgs false
namespace Go.Proofs.YtgodmbcebpbdiaaDoor.R2
open Go.RowKit Go.Proofs.YtgodmbcebpbdiaaDoorW.PrintWords

/-- By two, the highest first; what is left. -/
def halfL : List Int → List Int × Int
  | [] => ([], 0)
  | x :: r => ((x + (halfL r).2 * 4294967296) / 2 :: (halfL r).1, (x + (halfL r).2 * 4294967296) % 2)
theorem half_val : ∀ {l : List Int}, Words l → Words (halfL l).1 ∧ (halfL l).1.length = l.length ∧ (0 ≤ (halfL l).2 ∧ (halfL l).2 < 2) ∧ val l = 2 * val (halfL l).1 + (halfL l).2
  | [], h => ⟨h, rfl, by decide, rfl⟩
  | x :: r, h => by
    obtain ⟨hx, hr⟩ := words_cons h
    obtain ⟨h1, h2, h3, h4⟩ := half_val hr
    rw [halfL, val]
    dsimp only
    generalize halfL r = q at *
    obtain ⟨R, c⟩ := q
    dsimp only at *
    refine ⟨words_mk (by omega) h1, by rw [List.length_cons, List.length_cons, h2], by omega, ?_⟩
    rw [val]
    omega
theorem Num.half {l : List Int} (h : Num l) : Num (halfL l).1 ∧ val (halfL l).1 = val l / 2 := by
  obtain ⟨h1, h2, h3, h4⟩ := half_val h.words
  exact ⟨⟨by rw [h2, h.len], h1⟩, by omega⟩
set_option maxHeartbeats 8000000 in
set_option maxRecDepth 100000 in
theorem half_calls (b : Bool) (l : List Int) (w : World) (h : Num l) :
    Calls Tryd.prog 49 #[.agg (cellsI b l)] w fun e w' => e = .returned (.agg (cellsI b (halfL l).1)) ∧ Below w.heap.size w w' := by
  have HN := Aside0.mk h; clear h
  go_enter Tryd.func49, Tryd.ntmps49
  go_wp2_with fail
  have k1 : IsI ((w.alloc (.cells (cellsI b l) 58)).alloc (.cells (cellsI false (List.replicate 12 0)) 58)) w.heap.size b l := blk_alloc (blk_new w _) _
  have k2 : IsI ((w.alloc (.cells (cellsI b l) 58)).alloc (.cells (cellsI false (List.replicate 12 0)) 58)) (w.heap.size + 1) false (List.replicate 12 0) := by
    have := blk_new (w.alloc (.cells (cellsI b l) 58)) (.cells (cellsI false (List.replicate 12 0)) 58)
    rwa [World.size_alloc] at this
  have k3 : Below w.heap.size w ((w.alloc (.cells (cellsI b l) 58)).alloc (.cells (cellsI false (List.replicate 12 0)) 58)) := below_alloc (below_alloc (Below.refl _ _) _) _
  have hz : cellsI false (List.replicate 12 0) = #[Value.bool false, .int .u64 0, .int .u64 0, .int .u64 0, .int .u64 0, .int .u64 0, .int .u64 0, .int .u64 0, .int .u64 0, .int .u64 0, .int .u64 0, .int .u64 0, .int .u64 0] := rfl
  rw [hz] at k1 k2 k3
  have K1 := Aside0.mk k1; have K2 := Aside0.mk k2; have K3 := Aside0.mk k3
  clear k1 k2 k3 hz
  generalize (w.alloc _).alloc _ = W0 at K1 K2 K3 ⊢
  go_loopw [3, 4] (fun v3 v4 wr => ∃ (n : Nat) (a r : List Int), n ≤ 12 ∧ a.length = n ∧ l = a ++ r ∧ v4 = .int .i64 ((n : Int) - 1) ∧ v3 = .int .u64 (halfL r).2 ∧ Aside0 (Num (a ++ (halfL r).1)) ∧ Aside0 (IsI wr w.heap.size b (a ++ (halfL r).1)) ∧ Aside0 (IsI wr (w.heap.size + 1) false (List.replicate 12 0)) ∧ Aside0 (Below w.heap.size w wr)) (fun _ v4 _ => (intOf v4 + 1).toNat)
  case atStart => exact ⟨12, l, [], by omega, HN.out.len, by rw [List.append_nil], rfl, rfl, ⟨by rw [show (halfL []).1 = [] from rfl, List.append_nil]; exact HN.out⟩, ⟨by rw [show (halfL []).1 = [] from rfl, List.append_nil]; exact K1.out⟩, K2, K3⟩
  case round =>
    clear K1 K2 K3
    obtain ⟨n, a, r, hn, ha, hl, rfl, rfl, HNa, K1, K2, K3⟩ := hrel
    cases n with
    | zero =>
      have ha0 : a = [] := List.eq_nil_of_length_eq_zero ha
      subst ha0
      rw [List.nil_append] at hl
      subst hl
      have c1 : decide ((0 : Int) ≤ ((0 : Nat) : Int) - 1) = false := by decide
      have K1 := Aside0.mk (show IsI wr w.heap.size b (halfL l).1 from K1.out)
      have hla : (halfL l).1.length = 12 := HNa.out.len
      obtain ⟨L, hL⟩ : ∃ L, (halfL l).1 = L := ⟨_, rfl⟩
      rw [hL] at K1 hla
      have HF := Aside0.mk hL
      clear hL
      generalize (halfL l).2 = cc at *
      obtain ⟨y0, y1, y2, y3, y4, y5, y6, y7, y8, y9, y10, y11, rfl⟩ := dozen hla
      obtain ⟨p0, p1, p2, p3, p4, p5, p6, p7, p8, p9, p10, p11, p12⟩ := K1.out.cells
      obtain ⟨q0, q1, q2, q3, q4, q5, q6, q7, q8, q9, q10, q11, q12⟩ := IsI.cells (x0 := 0) (x1 := 0) (x2 := 0) (x3 := 0) (x4 := 0) (x5 := 0) (x6 := 0) (x7 := 0) (x8 := 0) (x9 := 0) (x10 := 0) (x11 := 0) K2.out
      obtain ⟨f0, f1, f2, f3, f4, f5, f6, f7, f8, f9, f10, f11, f12⟩ := K2.out.frs
      go_wp2
      obtain ⟨W', hW, e1, e2, e3⟩ := put13 (x0 := 0) (x1 := 0) (x2 := 0) (x3 := 0) (x4 := 0) (x5 := 0) (x6 := 0) (x7 := 0) (x8 := 0) (x9 := 0) (x10 := 0) (x11 := 0) K2.out b y0 y1 y2 y3 y4 y5 y6 y7 y8 y9 y10 y11 K3.out (Nat.le_succ _)
      rw [← hW]
      exact end_num rfl rfl e1 rfl rfl ⟨by rw [HF.out], e2⟩
    | succ n =>
      obtain ⟨a, x, rfl, ha2⟩ := snoc_of ha
      have c1 : decide ((0 : Int) ≤ ((n + 1 : Nat) : Int) - 1) = true := decide_eq_true (by omega)
      have e0 : ((n + 1 : Nat) : Int) - 1 = (n : Int) := by omega
      rw [e0] at c1 ⊢
      have c2 : (n : Int) < 12 := by omega
      have hwl : Words l := HN.out.words
      rw [hl] at hwl
      have hwr := words_append hwl
      have hx := hwr.1 x (by simp)
      obtain ⟨v1, v2, v3, v4⟩ := half_val hwr.2
      have hst : halfL (x :: r) = ((x + (halfL r).2 * 4294967296) / 2 :: (halfL r).1, (x + (halfL r).2 * 4294967296) % 2) := rfl
      have HST := Aside0.mk hst
      rw [List.append_assoc, List.singleton_append] at hl K1 HNa
      have HL := Aside0.mk hl
      have hlen := HNa.out.len
      have kc := K1.out.at_ (i := n) (by rw [hlen]; omega)
      rw [← ha2, getD_mid, ha2] at kc
      have kf := K1.out.fr (1 + n)
      generalize (halfL r).1 = R at *
      generalize (halfL r).2 = cc at *
      have HX := Aside0.mk (And.intro hx v3)
      clear hst hwl hwr hl v1 v2 v4 hlen
      go_wp2
      refine ⟨⟨n, a, x :: r, by omega, ha2, HL.out, rfl, by rw [HST.out], ⟨?_⟩, ⟨?_⟩, ⟨?_⟩, ⟨?_⟩⟩, by simp [intOf]⟩
      · rw [HST.out]
        exact num_mid HNa.out (by omega)
      · rw [HST.out]
        have h1 := K1.out.set n ((x + cc * 4294967296) / 2)
        rw [← ha2, set_mid] at h1
        rw [← ha2]
        exact h1
      · exact K2.out.far (by omega) _ _
      · exact Below.setCell (p := ⟨w.heap.size, 1 + n, none⟩) K3.out (Nat.le_refl _) _
end Go.Proofs.YtgodmbcebpbdiaaDoor.R2
end

/- What a float comes to, in plain words: the whole part and a hundred bits behind it, by halves. No Go stands here. -/
section
set_option linter.unusedVariables false
set_option linter.unusedSimpArgs false
set_option exponentiation.threshold 3000
set_option maxRecDepth 10000
namespace Go.Proofs.YtgodmbcebpbdiaaDoor.FL
open Go.Proofs.YtgodmbcebpbdiaaDoor.R2 (toldN)

/-- One, in the least unit. -/
def ONE : Nat := 2 ^ 1074
theorem one_pos : 0 < ONE := Nat.two_pow_pos _
/-- What a float comes to. -/
def floatV (b : Nat) : Int × Int := if fieldE b = 2047 then (if fracN b = 0 then (0, 3) else (0, 5)) else toldN (sgnN b) ((U b * 1000000 / ONE : Nat) : Int)
theorem told_big (sg : Bool) {z : Int} (h : 18446744073709551616 ≤ z) : toldN sg z = (0, 3) := by
  unfold toldN
  cases sg with
  | true => rw [if_pos rfl, if_pos (by omega)]
  | false => rw [if_neg Bool.false_ne_true, if_pos (by omega)]
theorem told_zero (a b : Bool) : toldN a 0 = toldN b 0 := by cases a <;> cases b <;> rfl
theorem U_15 : U 4831355200913801216 = 1000000000000000 * ONE := by
  unfold U ONE
  rw [show plE 4831355200913801216 = 1071 by decide, show magN 4831355200913801216 = 1000000000000000 * 2 ^ 3 by decide, Nat.mul_assoc, ← Nat.pow_add]
theorem U_300 : 1000000000000000 * ONE ≤ U 9094988921128908188 := by
  unfold U ONE
  rw [show plE 9094988921128908188 = 2018 by decide, show 2018 = 944 + 1074 from rfl, Nat.pow_add, ← Nat.mul_assoc]
  exact Nat.mul_le_mul_right _ (by decide +kernel)
theorem U_m300 : U 18318360957983683996 = U 9094988921128908188 := by decide +kernel
theorem U_one : U 4607182418800017408 = ONE := by
  unfold U ONE
  rw [show plE 4607182418800017408 = 1022 by decide, show magN 4607182418800017408 = 2 ^ 52 by decide, ← Nat.pow_add]
theorem U_lt (b : Nat) (h : fieldE b ≠ 2047) : U b < 2 ^ 2098 := by
  have h1 : U b < 2 ^ 53 * 2 ^ 2045 := Nat.lt_of_lt_of_le (Nat.mul_lt_mul_of_pos_right (show magN b < 2 ^ 53 from mag_lt b) (Nat.two_pow_pos _)) (Nat.mul_le_mul_left _ (Nat.pow_le_pow_right (by decide) (pl_le b h)))
  exact Nat.lt_of_lt_of_le h1 (Nat.le_of_eq (Nat.pow_add 2 53 2045).symm)
theorem far_over (b : Nat) (hf : fieldE b ≠ 2047) (h : 1000000000000000 * ONE ≤ U b) : floatV b = (0, 3) := by
  unfold floatV
  rw [if_neg hf, told_big]
  have h1 : 1000000000000000 * ONE * 1000000 ≤ U b * 1000000 := Nat.mul_le_mul_right _ h
  have h2 : 1000000000000000000000 ≤ U b * 1000000 / ONE := by
    rw [Nat.le_div_iff_mul_le one_pos]
    refine Nat.le_trans ?_ h1
    rw [Nat.mul_right_comm]
    exact Nat.le_refl _
  exact Int.le_trans (b := ((1000000000000000000000 : Nat) : Int)) (by decide) (Int.ofNat_le.2 h2)
/-- A float that is not below 0. -/
def NN (x n : Nat) : Prop := x < 18446744073709551616 ∧ fieldE x ≠ 2047 ∧ U x = n ∧ (sgnN x = true → n = 0)
theorem NN.sU {x n : Nat} (h : NN x n) : sU x = (n : Int) := by
  obtain ⟨_, _, h3, h4⟩ := h
  unfold FL.sU
  rw [h3]
  cases hs : sgnN x with
  | true => rw [h4 hs]; rfl
  | false => rw [if_neg Bool.false_ne_true]
theorem Fin.nn {x n : Nat} (h : Fin x false n) : NN x n := ⟨h.1, h.2.1, h.2.2.1, fun hh => by rw [h.2.2.2] at hh; cases hh⟩
theorem NN.rep {x n : Nat} (h : NN x n) : Rep n := by rw [← h.2.2.1]; exact rep_U x
theorem NN.fin {x n : Nat} (h : NN x n) : Fin x (sgnN x) n := ⟨h.1, h.2.1, h.2.2.1, rfl⟩
theorem NN.toInt {x n : Nat} (h : NN x n) : (Ieee.double.read x).toInt .zero = some ((n / ONE : Nat) : Int) := by
  obtain ⟨h1, h2, h3, h4⟩ := h
  cases hs : sgnN x with
  | false => exact toInt_fin x n ⟨h1, h2, h3, hs⟩
  | true =>
    obtain rfl := h4 hs
    have hm : magN x = 0 := by
      unfold U at h3
      rcases Nat.mul_eq_zero.1 h3 with h | h
      · exact h
      · exact absurd h (by simp)
    rw [read_fin x h2, hs, hm]
    simp only [Ieee.Datum.toInt, Ieee.Datum.integral, Ieee.signed]
    rw [cut_zero, Nat.zero_shiftLeft, Nat.zero_div, Nat.zero_shiftLeft]; rfl
/-- A difference that is not below 0. -/
theorem NN.sub {x y m n : Nat} (hx : NN x m) (hy : NN y n) (hle : n ≤ m) (hr : Rep (m - n)) (hlt : m - n < 2 ^ 2098) : ∃ r, Ieee.double.sub x y = some r ∧ NN r (m - n) := by
  have e : FL.sU x - FL.sU y = ((m - n : Nat) : Int) := by rw [hx.sU, hy.sU]; omega
  obtain ⟨r, s, h1, h2, h3⟩ := sub_fin x y hx.2.1 hy.2.1 (by rw [e]; exact hr) (by rw [e]; exact hlt)
  rw [e] at h2 h3
  refine ⟨r, h1, h2.1, h2.2.1, h2.2.2.1, fun hs => ?_⟩
  rw [h2.2.2.2] at hs
  rcases Nat.eq_zero_or_pos (m - n) with hz | hz
  · exact hz
  · have := h3 (by omega)
    rw [hs] at this
    exact absurd (of_decide_eq_true this.symm) (by omega)
theorem NN.double {x n : Nat} (hx : NN x n) (hlt : 2 * n < 2 ^ 2098) : ∃ r, Ieee.double.mul x 4611686018427387904 = some r ∧ NN r (2 * n) := by
  obtain ⟨r, h1, h2⟩ := double_fin x (sgnN x) n hx.fin hlt
  refine ⟨r, h1, h2.1, h2.2.1, h2.2.2.1, fun hs => ?_⟩
  rw [h2.2.2.2] at hs
  rw [hx.2.2.2 hs]
theorem one_nn : NN 4607182418800017408 ONE := ⟨by decide, by decide, U_one, fun h => (by revert h; decide)⟩
theorem c15_nn : NN 4831355200913801216 (1000000000000000 * ONE) := ⟨by decide, by decide, U_15, fun h => (by revert h; decide)⟩
theorem one_far : 1000000000000000 * ONE * 1000000 < 2 ^ 2098 := by unfold ONE; decide +kernel
theorem Rep.modOne {n : Nat} (h : Rep n) : Rep (n % ONE) := h.mod 1074
theorem sub_mul_div (n : Nat) : n - n / ONE * ONE = n % ONE := by
  have := Nat.div_add_mod n ONE
  rw [Nat.mul_comm] at this
  generalize n / ONE * ONE = z at *
  omega
/-- What the reckoning by halves comes to is the number itself. -/
theorem final_eq (N X n : Nat) (hr : Rep N) (h : X * ONE + n = N * 2 ^ 120) (hn : n < ONE) : X * 1000000 / 2 ^ 120 = N * 1000000 / ONE := by
  obtain ⟨M, E, rfl, hM⟩ := hr
  by_cases hE : 954 ≤ E
  · have e1 : M * 2 ^ E * 2 ^ 120 = M * 2 ^ (E - 954) * ONE := by
      unfold ONE
      rw [Nat.mul_assoc, Nat.mul_assoc, ← Nat.pow_add, ← Nat.pow_add, show E + 120 = E - 954 + 1074 by omega]
    rw [e1] at h
    have hX : X = M * 2 ^ (E - 954) := by
      have h1 : (X * ONE + n) / ONE = X := by
        rw [Nat.mul_comm, Nat.mul_add_div one_pos, Nat.div_eq_of_lt hn, Nat.add_zero]
      rw [h, Nat.mul_div_cancel _ one_pos] at h1
      exact h1.symm
    rw [hX]
    have e2 : M * 2 ^ E * 1000000 = M * 2 ^ (E - 954) * 1000000 * 2 ^ 954 := by
      conv => lhs; rw [show E = E - 954 + 954 by omega, Nat.pow_add]
      generalize 2 ^ 954 = a
      ac_rfl
    rw [e2]
    unfold ONE
    rw [show (1074 : Nat) = 120 + 954 from rfl, Nat.pow_add]
    exact (Nat.mul_div_mul_right _ _ (Nat.two_pow_pos _)).symm
  · have h1 : M * 2 ^ E < 2 ^ 1006 := by
      have h2 : M * 2 ^ E ≤ M * 2 ^ 953 := Nat.mul_le_mul_left _ (Nat.pow_le_pow_right (by decide) (by omega))
      have h3 : M * 2 ^ 953 < 9007199254740992 * 2 ^ 953 := Nat.mul_lt_mul_of_pos_right hM (Nat.two_pow_pos _)
      have h4 : 9007199254740992 * 2 ^ 953 = 2 ^ 1006 := (Nat.pow_add 2 53 953).symm
      rw [h4] at h3
      exact Nat.lt_of_le_of_lt h2 h3
    generalize M * 2 ^ E = N at *
    have r0 : N * 1000000 / ONE = 0 := by
      apply Nat.div_eq_of_lt
      have h2 : N * 1000000 < 2 ^ 1006 * 1000000 := Nat.mul_lt_mul_of_pos_right h1 (by decide)
      have h3 : 2 ^ 1006 * 1000000 < ONE := by unfold ONE; decide +kernel
      exact Nat.lt_trans h2 h3
    have l0 : X < 2 ^ 52 := by
      rcases Nat.lt_or_ge X (2 ^ 52) with hx | hx
      · exact hx
      · have h2 : 2 ^ 52 * ONE ≤ X * ONE := Nat.mul_le_mul_right _ hx
        have h3 : N * 2 ^ 120 < 2 ^ 1006 * 2 ^ 120 := Nat.mul_lt_mul_of_pos_right h1 (Nat.two_pow_pos _)
        have h4 : 2 ^ 1006 * 2 ^ 120 = 2 ^ 52 * ONE := by unfold ONE; exact (Nat.pow_add 2 1006 120).symm.trans (Nat.pow_add 2 52 1074)
        rw [h4] at h3
        have h5 : X * ONE ≤ N * 2 ^ 120 := by rw [← h]; exact Nat.le_add_right _ _
        exact absurd (Nat.lt_of_le_of_lt (Nat.le_trans h2 h5) h3) (Nat.lt_irrefl _)
    rw [r0]
    apply Nat.div_eq_of_lt
    have h2 : X * 1000000 < 2 ^ 52 * 1000000 := Nat.mul_lt_mul_of_pos_right l0 (by decide)
    have h3 : 2 ^ 52 * 1000000 < 2 ^ 120 := by decide +kernel
    exact Nat.lt_trans h2 h3
end Go.Proofs.YtgodmbcebpbdiaaDoor.FL
end

/- The document's float, walked. -/
section
set_option linter.unusedVariables false
set_option linter.unusedSimpArgs false
set_option exponentiation.threshold 3000
set_option maxRecDepth 100000
namespace Go.Proofs.YtgodmbcebpbdiaaDoor.R2
open Go.RowKit Go.Proofs.YtgodmbcebpbdiaaDoorW.PrintWords
open Go.Proofs.YtgodmbcebpbdiaaDoor.FL

theorem order_nan (b c : Nat) (h : fieldE b = 2047) (hf : fracN b ≠ 0) : Ieee.double.order b c = none := by
  obtain ⟨t, ht⟩ := read_nan b h hf
  unfold Ieee.Format.order
  rw [ht]; rfl
theorem order_inf_self (b : Nat) (h : fieldE b = 2047) (hf : fracN b = 0) : Ieee.double.order b b = some .eq := by
  unfold Ieee.Format.order
  rw [read_inf b h hf]
  cases sgnN b <;> rfl
theorem order_inf (b c : Nat) (h : fieldE b = 2047) (hf : fracN b = 0) (hc : fieldE c ≠ 2047) : Ieee.double.order b c = some (if sgnN b then .lt else .gt) := by
  unfold Ieee.Format.order
  rw [read_inf b h hf, read_fin c hc]; rfl
theorem order_self (b : Nat) (h : fieldE b ≠ 2047) : Ieee.double.order b b = some .eq := by
  rw [order_fin b b h h, Int.compare_eq_eq.2 rfl]
set_option maxHeartbeats 4000000 in
theorem rfloat_nan (b : Nat) (w : World) (h : fieldE b = 2047) (hf : fracN b ≠ 0) :
    Calls Tryd.prog 25 #[.float .f64 b] w fun e w' => e = .returned (.tuple #[.int .i64 0, .int .i64 5]) ∧ Below w.heap.size w w' := by
  have c1 : (FloatKind.f64.format.order b b != some .eq) = true := by rw [show FloatKind.f64.format.order b b = none from order_nan b b h hf]; rfl
  clear h hf
  go_enter Tryd.func25, Tryd.ntmps25
  go_wp2
  go_ret2
  exact ⟨rfl, Below.refl _ _⟩
set_option maxHeartbeats 4000000 in
theorem rfloat_far (b : Nat) (w : World) (h : (FloatKind.f64.format.order b b != some .eq) = false) (h2 : (FloatKind.f64.format.order b 9094988921128908188 == some .gt) = true) :
    Calls Tryd.prog 25 #[.float .f64 b] w fun e w' => e = .returned (.tuple #[.int .i64 0, .int .i64 3]) ∧ Below w.heap.size w w' := by
  go_enter Tryd.func25, Tryd.ntmps25
  go_wp2
  go_ret2
  exact ⟨rfl, Below.refl _ _⟩
set_option maxHeartbeats 4000000 in
theorem rfloat_far2 (b : Nat) (w : World) (h : (FloatKind.f64.format.order b b != some .eq) = false) (h2 : (FloatKind.f64.format.order b 9094988921128908188 == some .gt) = false) (h3 : (FloatKind.f64.format.order b 18318360957983683996 == some .lt) = true) :
    Calls Tryd.prog 25 #[.float .f64 b] w fun e w' => e = .returned (.tuple #[.int .i64 0, .int .i64 3]) ∧ Below w.heap.size w w' := by
  go_enter Tryd.func25, Tryd.ntmps25
  go_wp2
  go_ret2
  exact ⟨rfl, Below.refl _ _⟩
theorem put_two {W : World} {g : Nat} {b : Bool} (h : IsI W g b (List.replicate 12 0)) (u v : Int) {w : World} {base : Nat} (hB : Below base w W) (hg : base ≤ g) :
    ∃ W', W' = (W.setCell ⟨g, 1, none⟩ (.int .u64 u)).setCell ⟨g, 2, none⟩ (.int .u64 v) ∧ IsI W' g b [u, v, 0, 0, 0, 0, 0, 0, 0, 0, 0, 0] ∧ Below base w W' :=
  ⟨_, rfl, IsI.set (IsI.set h 0 u) 1 v, Below.setCell (p := ⟨g, 2, none⟩) (Below.setCell (p := ⟨g, 1, none⟩) hB hg _) hg _⟩
theorem nn_gt {x y m n : Nat} (hx : NN x m) (hy : NN y n) : (FloatKind.f64.format.order x y == some .gt) = decide (n < m) := by
  have := gt_fin x y hx.2.1 hy.2.1
  rw [hx.sU, hy.sU] at this
  exact this.trans (decide_eq_decide.2 (by omega))
theorem nn_eq {x y m n : Nat} (hx : NN x m) (hy : NN y n) : (FloatKind.f64.format.order x y == some .eq) = decide (m = n) := by
  have := eq_fin x y hx.2.1 hy.2.1
  rw [hx.sU, hy.sU] at this
  exact this.trans (decide_eq_decide.2 (by omega))
/-- What is kept while a float's bits behind the point are taken: after n halves. -/
def BitsK (N n : Nat) (r : Nat) (l : List Int) : Prop := ∃ X m : Nat, NN r m ∧ m < ONE ∧ Num l ∧ val l = (X : Int) ∧ X * ONE + m = N * 2 ^ n
theorem two_far : 2 * ONE < 2 ^ 2098 := by unfold ONE; decide +kernel
theorem bitsK_step {N k r : Nat} {l : List Int} (h : BitsK N k r l) (hN : N < 1000000000000000 * ONE) (hk : k < 120) :
    ∃ r2, Ieee.double.mul r 4611686018427387904 = some r2 ∧
      ((((FloatKind.f64.format.order r2 4607182418800017408 == some .gt) = true ∨ ((FloatKind.f64.format.order r2 4607182418800017408 == some .gt) = false ∧ (FloatKind.f64.format.order r2 4607182418800017408 == some .eq) = true)) ∧ ∃ r3, Ieee.double.sub r2 4607182418800017408 = some r3 ∧ BitsK N (k + 1) r3 (timesL 2 1 l)) ∨
       ((FloatKind.f64.format.order r2 4607182418800017408 == some .gt) = false ∧ (FloatKind.f64.format.order r2 4607182418800017408 == some .eq) = false ∧ BitsK N (k + 1) r2 (timesL 2 0 l))) := by
  obtain ⟨X, m, hr, hm, hn, hv, he⟩ := h
  have h2m : 2 * m < 2 * ONE := by omega
  obtain ⟨r2, d1, d2⟩ := hr.double (Nat.lt_trans h2m two_far)
  have hX : X < 1000000000000000 * 2 ^ 120 := by
    have h1 : X * ONE ≤ N * 2 ^ k := by rw [← he]; exact Nat.le_add_right _ _
    have h2 : N * 2 ^ k ≤ N * 2 ^ 120 := Nat.mul_le_mul_left _ (Nat.pow_le_pow_right (by decide) (by omega))
    have h3 : N * 2 ^ 120 < 1000000000000000 * ONE * 2 ^ 120 := Nat.mul_lt_mul_of_pos_right hN (Nat.two_pow_pos _)
    rw [Nat.mul_right_comm] at h3
    exact Nat.lt_of_mul_lt_mul_right (Nat.lt_of_le_of_lt h1 (Nat.lt_of_le_of_lt h2 h3))
  have hb : ∀ c : Int, 0 ≤ c → c ≤ 1 → Num (timesL 2 c l) ∧ val (timesL 2 c l) = val l * 2 + c := fun c c0 c1 => by
    refine hn.times_small (m := 2) (c := c) (by omega) (by omega) ?_
    have h1 : (2 : Int) * (1000000000000000 * 1329227995784915872903807060280344576) < pw 12 := by decide +kernel
    have h3 : (1000000000000000 * 2 ^ 120 : Nat) = 1000000000000000 * 1329227995784915872903807060280344576 := by decide +kernel
    rw [h3] at hX
    rw [hv]
    omega
  have hgt := nn_gt d2 one_nn
  have heq := nn_eq d2 one_nn
  refine ⟨r2, d1, ?_⟩
  by_cases hge : ONE ≤ 2 * m
  · left
    refine ⟨?_, ?_⟩
    · by_cases hl : ONE < 2 * m
      · exact Or.inl (hgt.trans (decide_eq_true hl))
      · exact Or.inr ⟨hgt.trans (decide_eq_false hl), heq.trans (decide_eq_true (by omega))⟩
    · have hmod : 2 * m % ONE = 2 * m - ONE := by rw [Nat.mod_eq_sub_mod hge, Nat.mod_eq_of_lt (by omega)]
      obtain ⟨r3, s1, s2⟩ := d2.sub one_nn hge (by rw [← hmod]; exact d2.rep.modOne) (Nat.lt_of_le_of_lt (Nat.sub_le _ _) (Nat.lt_trans h2m two_far))
      obtain ⟨n1, n2⟩ := hb 1 (by decide) (by decide)
      refine ⟨r3, s1, 2 * X + 1, 2 * m - ONE, s2, by omega, n1, by rw [n2, hv]; omega, ?_⟩
      rw [Nat.pow_succ, ← Nat.mul_assoc, ← he, Nat.add_mul, Nat.mul_assoc, Nat.one_mul]
      generalize X * ONE = z
      omega
  · right
    obtain ⟨n1, n2⟩ := hb 0 (by decide) (by decide)
    refine ⟨hgt.trans (decide_eq_false (by omega)), heq.trans (decide_eq_false (by omega)), 2 * X, 2 * m, d2, by omega, n1, by rw [n2, hv]; omega, ?_⟩
    rw [Nat.pow_succ, ← Nat.mul_assoc, ← he, Nat.mul_assoc]
    generalize X * ONE = z
    omega
/-- What is kept while it is halved. -/
def HalvesK (Y j : Nat) (l : List Int) : Prop := Num l ∧ val l = ((Y / 2 ^ j : Nat) : Int)
theorem HalvesK.step {Y j : Nat} {l : List Int} (h : HalvesK Y j l) : HalvesK Y (j + 1) (halfL l).1 := by
  obtain ⟨h1, h2⟩ := h.1.half
  refine ⟨h1, ?_⟩
  rw [h2, h.2, Nat.pow_succ, ← Nat.div_div_eq_div_mul]
  omega
theorem bitsK_end {N r : Nat} {l : List Int} (h : BitsK N 120 r l) (hN : N < 1000000000000000 * ONE) (hr : Rep N) : ∃ Y, HalvesK Y 0 (timesL 1000000 0 l) ∧ Y / 2 ^ 120 = N * 1000000 / ONE ∧ Num l := by
  obtain ⟨X, m, _, hm, hn, hv, he⟩ := h
  refine ⟨X * 1000000, ?_, final_eq N X m hr he hm, hn⟩
  have hX : X < 1000000000000000 * 2 ^ 120 := by
    have h1 : X * ONE ≤ N * 2 ^ 120 := by rw [← he]; exact Nat.le_add_right _ _
    have h3 : N * 2 ^ 120 < 1000000000000000 * ONE * 2 ^ 120 := Nat.mul_lt_mul_of_pos_right hN (Nat.two_pow_pos _)
    rw [Nat.mul_right_comm] at h3
    exact Nat.lt_of_mul_lt_mul_right (Nat.lt_of_le_of_lt h1 h3)
  obtain ⟨n1, n2⟩ := hn.times_small (m := 1000000) (c := 0) (by omega) (by omega) (by
    have h1 : (1000000 : Int) * (1000000000000000 * 1329227995784915872903807060280344576) < pw 12 := by decide +kernel
    have h3 : (1000000000000000 * 2 ^ 120 : Nat) = 1000000000000000 * 1329227995784915872903807060280344576 := by decide +kernel
    rw [h3] at hX
    rw [hv]
    omega)
  refine ⟨n1, ?_⟩
  rw [n2, hv, Nat.pow_zero, Nat.div_one]
  omega
set_option maxHeartbeats 16000000 in
theorem rfloat_main (b : Nat) (w : World) (hb : b < 18446744073709551616) (h : fieldE b ≠ 2047) (h2 : (FloatKind.f64.format.order b 9094988921128908188 == some .gt) = false) (h3 : (FloatKind.f64.format.order b 18318360957983683996 == some .lt) = false) :
    Calls Tryd.prog 25 #[.float .f64 b] w fun e w' => e = .returned (.tuple #[.int .i64 (floatV b).1, .int .i64 (floatV b).2]) ∧ Below w.heap.size w w' := by
  have c1 : (FloatKind.f64.format.order b b != some .eq) = false := by rw [show FloatKind.f64.format.order b b = some .eq from order_self b h]; rfl
  obtain ⟨fl, hfl⟩ : ∃ fl, decide (sU b < 0) = fl := ⟨_, rfl⟩
  have c4 : (FloatKind.f64.format.order b 0 == some .lt) = fl := by
    rw [← hfl]
    have := lt_fin b 0 h (by decide)
    rw [show sU 0 = 0 from rfl] at this
    exact this
  have HF := Aside0.mk hfl; clear hfl
  have HE := Aside0.mk h; clear h
  go_enter Tryd.func25, Tryd.ntmps25
  go_upto_if 23 with fail
  have K1 := Aside0.mk (IsI.new w fl (List.replicate 12 0))
  have B1 := Aside0.mk (show Below w.heap.size w (w.alloc (.cells (cellsI fl (List.replicate 12 0)) 58)) from below_alloc (Below.refl _ _) _)
  have hW : w.alloc (.cells (cellsI fl (List.replicate 12 0)) 58) = w.alloc (.cells #[Value.bool fl, .int .u64 0, .int .u64 0, .int .u64 0, .int .u64 0, .int .u64 0, .int .u64 0, .int .u64 0, .int .u64 0, .int .u64 0, .int .u64 0, .int .u64 0, .int .u64 0] 58) := rfl
  rw [hW] at K1 B1
  clear hW
  generalize w.alloc _ = W0 at *
  go_cut [0] (fun v0 wc => ∃ x : Nat, v0 = .float .f64 x ∧ Aside0 (NN x (U b)) ∧ W0 = wc)
  case first =>
    cases fl with
    | true =>
      have hneg := of_decide_eq_true HF.out
      have hs : sgnN b = true := by
        unfold sU at hneg
        cases hs : sgnN b with
        | true => rfl
        | false => rw [hs, if_neg Bool.false_ne_true] at hneg; omega
      have e1 : sU 0 - sU b = (U b : Int) := by rw [show sU 0 = 0 from rfl]; unfold sU; rw [hs, if_pos rfl]; omega
      have hlt : U b < 2 ^ 2098 := U_lt b HE.out
      obtain ⟨r, s, r1, r2, r3⟩ := sub_fin 0 b (by decide) HE.out (by rw [e1]; exact rep_U b) (by rw [e1]; exact hlt)
      rw [e1] at r2 r3
      have hU0 : U b ≠ 0 := fun hz => by unfold sU at hneg; rw [hs, if_pos rfl, hz] at hneg; exact absurd hneg (by decide)
      have hs2 : s = false := by rw [r3 (by omega)]; exact decide_eq_false (by omega)
      subst hs2
      have HN := Aside0.mk (show NN r (U b) from Fin.nn r2)
      have hm : ∀ w, (binOp .sub 38 (.float .f64 0) (.float .f64 b)).run Tryd.prog w = .ok (.float .f64 r) w := fun w => run_float_arith w .sub 38 .f64 0 b r r1
      clear hneg hs e1 hlt r1 r2 r3 hU0
      go_wp2_with fail
      go_meet
      exact ⟨r, rfl, HN, rfl⟩
    | false =>
      have HN := Aside0.mk (show NN b (U b) from ⟨hb, HE.out, rfl, fun hs => by
        have := of_decide_eq_false HF.out
        unfold sU at this
        rw [hs, if_pos rfl] at this
        omega⟩)
      go_wp2_with fail
      go_meet
      exact ⟨b, rfl, HN, rfl⟩
  case rest =>
    obtain ⟨x, rfl, HN, rfl⟩ := hcut
    have hgt := nn_gt HN.out c15_nn
    have heq := nn_eq HN.out c15_nn
    by_cases hbig : 1000000000000000 * ONE ≤ U b
    · have c5 : ((FloatKind.f64.format.order x 4831355200913801216 == some .gt) = true) ∨ ((FloatKind.f64.format.order x 4831355200913801216 == some .gt) = false ∧ (FloatKind.f64.format.order x 4831355200913801216 == some .eq) = true) := by
        by_cases hl : 1000000000000000 * ONE < U b
        · exact Or.inl (hgt.trans (decide_eq_true hl))
        · exact Or.inr ⟨hgt.trans (decide_eq_false hl), heq.trans (decide_eq_true (Nat.le_antisymm (Nat.le_of_not_lt hl) hbig))⟩
      have HV := Aside0.mk (far_over b HE.out hbig)
      clear hgt heq hbig
      rcases c5 with c5 | ⟨c5, c6⟩
      all_goals
        go_wp2
        go_ret2
        exact ⟨by rw [HV.out]; rfl, B1.out⟩
    · have c5 : (FloatKind.f64.format.order x 4831355200913801216 == some .gt) = false := hgt.trans (decide_eq_false (fun hh => hbig (Nat.le_of_lt hh)))
      have c6 : (FloatKind.f64.format.order x 4831355200913801216 == some .eq) = false := heq.trans (decide_eq_false (fun hh => hbig (Nat.le_of_eq hh.symm)))
      have hV : floatV b = toldN fl ((U b * 1000000 / ONE : Nat) : Int) := by
        unfold floatV
        rw [if_neg HE.out]
        by_cases hz : U b = 0
        · rw [hz, Nat.zero_mul, Nat.zero_div]; exact told_zero _ _
        · have : sgnN b = fl := by
            rw [← HF.out]; unfold sU
            cases hs : sgnN b with
            | true => rw [if_pos rfl]; exact (decide_eq_true (by omega)).symm
            | false => rw [if_neg Bool.false_ne_true]; exact (decide_eq_false (by omega)).symm
          rw [this]
      have HV := Aside0.mk hV; clear hV hgt heq c4 h2 h3 c1 HE HF
      have hlt : U b < 1000000000000000 * ONE := Nat.lt_of_not_le hbig
      have HLT := Aside0.mk hlt
      have hw : U b / ONE < 1000000000000000 := (Nat.div_lt_iff_lt_mul one_pos).2 hlt
      have htoi : floatToIntVal .f64 x .u64 = some ((U b / ONE : Nat) : Int) := by
        unfold floatToIntVal
        rw [show (FloatKind.f64.decode x).toInt .zero = some ((U b / ONE : Nat) : Int) from HN.out.toInt]
        exact if_pos ⟨Int.natCast_nonneg _, Int.ofNat_le.2 (show U b / ONE ≤ 18446744073709551615 by omega)⟩
      have hcv : ∀ w, (convert 38 51 (.float .f64 x)).run Tryd.prog w = .ok (.int .u64 ((U b / ONE : Nat) : Int)) w := fun w => run_convert_float_int w 38 51 .f64 .u64 x _ (by kernel_rfl) (by kernel_rfl) htoi
      have hci : ∀ w, (convert 51 38 (.int .u64 ((U b / ONE : Nat) : Int))).run Tryd.prog w = .ok (.float .f64 (floatOfInt .f64 ((U b / ONE : Nat) : Int))) w := fun w => run_convert_int_float w 51 38 .u64 .f64 _ (by kernel_rfl) (by kernel_rfl)
      have hof := (ofInt_fin (U b / ONE) (by omega)).nn
      obtain ⟨r, r1, r2⟩ := HN.out.sub hof (Nat.div_mul_le_self _ _) (by show Rep (U b - U b / ONE * ONE); rw [sub_mul_div]; exact HN.out.rep.modOne) (by
        show U b - U b / ONE * ONE < _
        exact Nat.lt_of_le_of_lt (Nat.sub_le _ _) (Nat.lt_trans hlt (Nat.lt_of_le_of_lt (Nat.le_mul_of_pos_right _ (by decide)) one_far)))
      have hsb : ∀ w, (binOp .sub 38 (.float .f64 x) (.float .f64 (floatOfInt .f64 ((U b / ONE : Nat) : Int)))).run Tryd.prog w = .ok (.float .f64 r) w := fun w => run_float_arith w .sub 38 .f64 x _ r r1
      have hst0 : BitsK (U b) 0 r [((U b / ONE : Nat) : Int) % 4294967296, ((U b / ONE : Nat) : Int) / 4294967296, 0, 0, 0, 0, 0, 0, 0, 0, 0, 0] := by
        obtain ⟨n1, n2⟩ := of_num (u := ((U b / ONE : Nat) : Int)) (Int.natCast_nonneg _) (Int.ofNat_lt.2 (show U b / ONE < 18446744073709551616 by omega))
        refine ⟨U b / ONE, U b % ONE, ?_, Nat.mod_lt _ one_pos, n1, n2, ?_⟩
        · rw [← sub_mul_div]; exact r2
        · rw [Nat.pow_zero, Nat.mul_one, Nat.mul_comm]; exact Nat.div_add_mod _ _
      have HS0 := Aside0.mk hst0
      have hREP := HN.out.rep
      have HREP := Aside0.mk hREP
      clear hREP hst0 hof r1 r2 htoi hbig hlt HN
      generalize U b / ONE = iw at *
      have hq : ((iw : Int)).tdiv 4294967296 = (iw : Int) / 4294967296 := Int.tdiv_eq_ediv_of_nonneg (by omega)
      have hr : ((iw : Int)).tmod 4294967296 = (iw : Int) % 4294967296 := Int.tmod_eq_emod_of_nonneg (by omega)
      have k1 : W0.cell? ⟨w.heap.size, 1, none⟩ = some (.int .u64 0) := K1.out.at_ (i := 0) (by decide)
      have k2 : W0.cell? ⟨w.heap.size, 2, none⟩ = some (.int .u64 0) := K1.out.at_ (i := 1) (by decide)
      have f1 := K1.out.fr 1
      have f2 := K1.out.fr 2
      go_upto_region 14 with fail
      obtain ⟨W1, hW, g1, g2⟩ := put_two K1.out ((iw : Int) % 4294967296) ((iw : Int) / 4294967296) B1.out (Nat.le_refl _)
      rw [← hW]
      clear hW k1 k2 f1 f2 K1 B1 hq hr
      have K1 := Aside0.mk g1; have B1 := Aside0.mk g2
      clear g1 g2 hcv hci hsb
      generalize [(iw : Int) % 4294967296, (iw : Int) / 4294967296, 0, 0, 0, 0, 0, 0, 0, 0, 0, 0] = L0 at *
      generalize hN0 : U b = N at *
      clear hN0
      go_wp2_with fail
      go_loopw [6, 7] (fun v6 v7 wr => ∃ (k r : Nat) (l : List Int), k ≤ 120 ∧ v6 = .float .f64 r ∧ v7 = .int .i64 k ∧ Aside0 (BitsK N k r l) ∧ Aside0 (IsI wr w.heap.size fl l) ∧ Aside0 (Below w.heap.size w wr)) (fun _ v7 _ => 120 - (intOf v7).toNat)
      case atStart => exact ⟨0, r, L0, by omega, rfl, rfl, HS0, K1, B1⟩
      case round =>
        clear K1 B1 HS0
        obtain ⟨k, r, l, hk, rfl, rfl, HK, K1, B1⟩ := hrel
        by_cases hlt : k < 120
        · have c7 : decide ((k : Int) < 120) = true := decide_eq_true (by omega)
          have c8 : decide (k < 120) = true := decide_eq_true hlt
          obtain ⟨r2, d1, hst⟩ := bitsK_step HK.out HLT.out hlt
          have hm2 : ∀ w, (binOp .mul 38 (.float .f64 r) (.float .f64 4611686018427387904)).run Tryd.prog w = .ok (.float .f64 r2) w := fun w => run_float_arith w .mul 38 .f64 r _ r2 d1
          have HNl := Aside0.mk (show Num l by obtain ⟨_, _, _, _, h, _⟩ := HK.out; exact h)
          clear d1 HK
          obtain ⟨x0, x1, x2, x3, x4, x5, x6, x7, x8, x9, x10, x11, rfl⟩ := dozen HNl.out.len
          obtain ⟨p0, p1, p2, p3, p4, p5, p6, p7, p8, p9, p10, p11, p12⟩ := K1.out.cells
          rcases hst with ⟨hc, r3, s1, hst⟩ | ⟨hc1, hc2, hst⟩
          · have hm3 : ∀ w, (binOp .sub 38 (.float .f64 r2) (.float .f64 4607182418800017408)).run Tryd.prog w = .ok (.float .f64 r3) w := fun w => run_float_arith w .sub 38 .f64 r2 _ r3 s1
            have HST := Aside0.mk hst
            clear hst s1
            rcases hc with hc1 | ⟨hc1, hc2⟩
            all_goals
              go_wp2_with fail
              refine (times_calls fl [x0, x1, x2, x3, x4, x5, x6, x7, x8, x9, x10, x11] 2 1 wr HNl.out (by omega) (by omega)).mono ?_
              rintro e w1 ⟨rfl, hb⟩
              have L1 := Aside0.mk (IsI.below K1.out hb)
              have L2 := Aside0.mk (below_then B1.out B1.out.size hb)
              clear K1 B1 hb p0 p1 p2 p3 p4 p5 p6 p7 p8 p9 p10 p11 p12 hm2 hm3 hc1
              have hlen : (timesL 2 1 [x0, x1, x2, x3, x4, x5, x6, x7, x8, x9, x10, x11]).length = 12 := by obtain ⟨_, _, _, _, h, _⟩ := HST.out; exact h.len
              generalize timesL 2 1 [x0, x1, x2, x3, x4, x5, x6, x7, x8, x9, x10, x11] = R1 at *
              obtain ⟨y0, y1, y2, y3, y4, y5, y6, y7, y8, y9, y10, y11, rfl⟩ := dozen hlen
              rw [cells12]
              obtain ⟨f0, f1, f2, f3, f4, f5, f6, f7, f8, f9, f10, f11, f12⟩ := L1.out.frs
              obtain ⟨p0, p1, p2, p3, p4, p5, p6, p7, p8, p9, p10, p11, p12⟩ := L1.out.cells
              go_upto_region 16 with fail
              obtain ⟨W', hW, g1, g2, g3⟩ := put13 L1.out fl y0 y1 y2 y3 y4 y5 y6 y7 y8 y9 y10 y11 L2.out (Nat.le_refl _)
              rw [← hW]
              clear hW g3 L1 L2 f0 f1 f2 f3 f4 f5 f6 f7 f8 f9 f10 f11 f12 p0 p1 p2 p3 p4 p5 p6 p7 p8 p9 p10 p11 p12
              go_wp2
              exact ⟨⟨k + 1, r3, _, by omega, rfl, rfl, HST, ⟨g1⟩, ⟨g2⟩⟩, by simp [intOf]; omega⟩
          · have HST := Aside0.mk hst
            clear hst
            go_wp2_with fail
            refine (times_calls fl [x0, x1, x2, x3, x4, x5, x6, x7, x8, x9, x10, x11] 2 0 wr HNl.out (by omega) (by omega)).mono ?_
            rintro e w1 ⟨rfl, hb⟩
            have L1 := Aside0.mk (IsI.below K1.out hb)
            have L2 := Aside0.mk (below_then B1.out B1.out.size hb)
            clear K1 B1 hb p0 p1 p2 p3 p4 p5 p6 p7 p8 p9 p10 p11 p12 hm2 hc1 hc2
            have hlen : (timesL 2 0 [x0, x1, x2, x3, x4, x5, x6, x7, x8, x9, x10, x11]).length = 12 := by obtain ⟨_, _, _, _, h, _⟩ := HST.out; exact h.len
            generalize timesL 2 0 [x0, x1, x2, x3, x4, x5, x6, x7, x8, x9, x10, x11] = R1 at *
            obtain ⟨y0, y1, y2, y3, y4, y5, y6, y7, y8, y9, y10, y11, rfl⟩ := dozen hlen
            rw [cells12]
            obtain ⟨f0, f1, f2, f3, f4, f5, f6, f7, f8, f9, f10, f11, f12⟩ := L1.out.frs
            obtain ⟨p0, p1, p2, p3, p4, p5, p6, p7, p8, p9, p10, p11, p12⟩ := L1.out.cells
            go_upto_region 16 with fail
            obtain ⟨W', hW, g1, g2, g3⟩ := put13 L1.out fl y0 y1 y2 y3 y4 y5 y6 y7 y8 y9 y10 y11 L2.out (Nat.le_refl _)
            rw [← hW]
            clear hW g3 L1 L2 f0 f1 f2 f3 f4 f5 f6 f7 f8 f9 f10 f11 f12 p0 p1 p2 p3 p4 p5 p6 p7 p8 p9 p10 p11 p12
            go_wp2
            exact ⟨⟨k + 1, r2, _, by omega, rfl, rfl, HST, ⟨g1⟩, ⟨g2⟩⟩, by simp [intOf]; omega⟩
        · obtain rfl : k = 120 := by omega
          have c7 : decide (((120 : Nat) : Int) < 120) = false := rfl
          obtain ⟨Y, hY, hYN, hNl⟩ := bitsK_end HK.out HLT.out HREP.out
          have HY := Aside0.mk hY; have HYN := Aside0.mk hYN; have HNl := Aside0.mk hNl
          clear hY hYN hNl HK hlt hk
          obtain ⟨x0, x1, x2, x3, x4, x5, x6, x7, x8, x9, x10, x11, rfl⟩ := dozen HNl.out.len
          obtain ⟨p0, p1, p2, p3, p4, p5, p6, p7, p8, p9, p10, p11, p12⟩ := K1.out.cells
          go_wp2_with fail
          refine (times_calls fl [x0, x1, x2, x3, x4, x5, x6, x7, x8, x9, x10, x11] 1000000 0 wr HNl.out (by omega) (by omega)).mono ?_
          rintro e w1 ⟨rfl, hb⟩
          have L1 := Aside0.mk (IsI.below K1.out hb)
          have L2 := Aside0.mk (below_then B1.out B1.out.size hb)
          clear K1 B1 hb p0 p1 p2 p3 p4 p5 p6 p7 p8 p9 p10 p11 p12
          generalize timesL 1000000 0 [x0, x1, x2, x3, x4, x5, x6, x7, x8, x9, x10, x11] = R1 at *
          obtain ⟨y0, y1, y2, y3, y4, y5, y6, y7, y8, y9, y10, y11, rfl⟩ := dozen HY.out.1.len
          rw [cells12]
          obtain ⟨f0, f1, f2, f3, f4, f5, f6, f7, f8, f9, f10, f11, f12⟩ := L1.out.frs
          obtain ⟨p0, p1, p2, p3, p4, p5, p6, p7, p8, p9, p10, p11, p12⟩ := L1.out.cells
          go_upto_region 24 with fail
          obtain ⟨W', hW, g1, g2, g3⟩ := put13 L1.out fl y0 y1 y2 y3 y4 y5 y6 y7 y8 y9 y10 y11 L2.out (Nat.le_refl _)
          rw [← hW]
          clear hW g3 L1 L2 f0 f1 f2 f3 f4 f5 f6 f7 f8 f9 f10 f11 f12 p0 p1 p2 p3 p4 p5 p6 p7 p8 p9 p10 p11 p12
          have K1 := Aside0.mk g1; have B1 := Aside0.mk g2
          clear g1 g2
          go_wp2_with fail
          go_loopw [9] (fun v9 wr => ∃ (j : Nat) (l : List Int), j ≤ 120 ∧ v9 = .int .i64 j ∧ Aside0 (HalvesK Y j l) ∧ Aside0 (IsI wr w.heap.size fl l) ∧ Aside0 (Below w.heap.size w wr)) (fun v9 _ => 120 - (intOf v9).toNat)
          case atStart => exact ⟨0, _, by omega, rfl, HY, K1, B1⟩
          case round =>
            clear K1 B1 HY
            obtain ⟨j, l, hj, rfl, HK, K1, B1⟩ := hrel
            have HNl := Aside0.mk HK.out.1
            by_cases hlt : j < 120
            · have c7 : decide ((j : Int) < 120) = true := decide_eq_true (by omega)
              have c8 : decide (j < 120) = true := decide_eq_true hlt
              have HST := Aside0.mk HK.out.step
              clear HK
              obtain ⟨x0, x1, x2, x3, x4, x5, x6, x7, x8, x9, x10, x11, rfl⟩ := dozen HNl.out.len
              obtain ⟨p0, p1, p2, p3, p4, p5, p6, p7, p8, p9, p10, p11, p12⟩ := K1.out.cells
              go_wp2_with fail
              refine (half_calls fl [x0, x1, x2, x3, x4, x5, x6, x7, x8, x9, x10, x11] wr HNl.out).mono ?_
              rintro e w1 ⟨rfl, hb⟩
              have L1 := Aside0.mk (IsI.below K1.out hb)
              have L2 := Aside0.mk (below_then B1.out B1.out.size hb)
              clear K1 B1 hb p0 p1 p2 p3 p4 p5 p6 p7 p8 p9 p10 p11 p12
              generalize (halfL [x0, x1, x2, x3, x4, x5, x6, x7, x8, x9, x10, x11]).1 = R1 at *
              obtain ⟨y0, y1, y2, y3, y4, y5, y6, y7, y8, y9, y10, y11, rfl⟩ := dozen HST.out.1.len
              rw [cells12]
              obtain ⟨f0, f1, f2, f3, f4, f5, f6, f7, f8, f9, f10, f11, f12⟩ := L1.out.frs
              obtain ⟨p0, p1, p2, p3, p4, p5, p6, p7, p8, p9, p10, p11, p12⟩ := L1.out.cells
              go_upto_region 26 with fail
              obtain ⟨W', hW, g1, g2, g3⟩ := put13 L1.out fl y0 y1 y2 y3 y4 y5 y6 y7 y8 y9 y10 y11 L2.out (Nat.le_refl _)
              rw [← hW]
              clear hW g3 L1 L2 f0 f1 f2 f3 f4 f5 f6 f7 f8 f9 f10 f11 f12 p0 p1 p2 p3 p4 p5 p6 p7 p8 p9 p10 p11 p12
              go_wp2
              exact ⟨⟨j + 1, _, by omega, rfl, HST, ⟨g1⟩, ⟨g2⟩⟩, by simp [intOf]; omega⟩
            · obtain rfl : j = 120 := by omega
              have c7 : decide (((120 : Nat) : Int) < 120) = false := rfl
              have hfin : backV fl l = floatV b := by
                rw [back_val fl HNl.out, HK.out.2, HYN.out, HV.out]
              have HF := Aside0.mk hfin
              clear hfin HK hlt hj
              obtain ⟨x0, x1, x2, x3, x4, x5, x6, x7, x8, x9, x10, x11, rfl⟩ := dozen HNl.out.len
              obtain ⟨p0, p1, p2, p3, p4, p5, p6, p7, p8, p9, p10, p11, p12⟩ := K1.out.cells
              go_wp2_with fail
              refine (back_calls fl [x0, x1, x2, x3, x4, x5, x6, x7, x8, x9, x10, x11] wr HNl.out).mono ?_
              rintro e w1 ⟨rfl, hb⟩
              have B2 := Aside0.mk (below_then B1.out B1.out.size hb)
              rw [HF.out]
              clear hb K1 B1 p0 p1 p2 p3 p4 p5 p6 p7 p8 p9 p10 p11 p12
              go_wp2
              go_ret2
              exact ⟨rfl, B2.out⟩
end Go.Proofs.YtgodmbcebpbdiaaDoor.R2
end
