/- Texts of this seat, put together: each part tells above it what it proves and on what conditions. -/
import Derived.Test.YtgodmbcebpbdiaaDoorXQ0x
import Derived.Laws.Bits64b
import Derived.Lib.BitFns
import Derived.Lib.ItoaNum
/- math/bits.Div64: the plain law's steps on whole numbers. -/
section
set_option linter.unusedVariables false
set_option linter.unusedSimpArgs false
namespace Go.Proofs.YtgodmbcebpbdiaaDoor.G
open Go.RowKit Go.Proofs.YtgodmbcebpbdiaaDoorW.PrintWords Go.Proofs.YtgodmbcebpbdiaaDoorW.PrintLast Go.Proofs.YtgodmbcebpbdiaaDoorW.PrintMore Go.Proofs.YtgodmbcebpbdiaaDoor.Q0
theorem mul_le_r {a b y : Int} (h : a ≤ b) (hy : 0 ≤ y) : a * y ≤ b * y := Int.mul_le_mul_of_nonneg_right h hy
/-- One figure of a quotient, guessed too high by at most 2: what the test says. -/
theorem guess (u d y n1 n0 q r Q : Int) (hy : y = n1 * 4294967296 + n0) (h1 : 2147483648 ≤ n1) (h2 : n1 < 4294967296) (h3 : 0 ≤ n0) (h4 : n0 < 4294967296)
    (hr : 0 ≤ r) (hr' : r < 4294967296) (hd : 0 ≤ d) (hd' : d < 4294967296) (hu : q * n1 + r = u) (hQ0 : 0 ≤ Q) (hQ1 : Q < 4294967296)
    (hQ2 : Q * y ≤ u * 4294967296 + d) (hQ3 : u * 4294967296 + d < Q * y + y) (hq' : q ≤ 4294967297) :
    (q = Q → q < 4294967296 ∧ q * n0 ≤ 4294967296 * r + d) ∧ (Q < q → q ≥ 4294967296 ∨ 4294967296 * r + d < q * n0) ∧ (Q < q → 4294967296 ≤ r + n1 → q - 1 = Q) := by
  have hZ : q * y = (u - r) * 4294967296 + q * n0 := by
    rw [hy, Int.mul_add, ← Int.mul_assoc]
    have : q * n1 = u - r := by omega
    rw [this]
  have hy0 : 0 ≤ y := by omega
  refine ⟨?_, ?_, ?_⟩
  · rintro rfl
    exact ⟨hQ1, by omega⟩
  · intro h
    right
    have := mul_le_r (show Q + 1 ≤ q by omega) hy0
    rw [Int.add_mul, Int.one_mul] at this
    omega
  · intro h hb
    refine Classical.byContradiction fun hn => ?_
    have hm := mul_le_r (show Q + 1 ≤ q - 1 by omega) hy0
    rw [Int.add_mul, Int.one_mul, Int.sub_mul, Int.one_mul] at hm
    have hp := mul_le_r (show q - 1 ≤ 4294967296 by omega) h3
    rw [Int.sub_mul, Int.one_mul] at hp
    omega
theorem w64 {x : Int} (h0 : 0 ≤ x) (h1 : x < 18446744073709551616) : IntKind.u64.wrap x = x := by
  have e : IntKind.u64.wrap x = x % 18446744073709551616 := by simp [IntKind.wrap, IntKind.bits, IntKind.signed]
  rw [e]; omega
/-- The first loop's round, the guess right. -/
theorem l0_eq (k : Nat) (y s n1 n0 u d e q r : Int) (ht : q < 4294967296 ∧ q * n0 ≤ 4294967296 * r + d) (hq : 0 ≤ q) (h3 : 0 ≤ n0) (h4 : n0 < 4294967296)
    (hr : 0 ≤ r) (hr' : r < 4294967296) (hd : 0 ≤ d) (hd' : d < 4294967296) :
    bits_Div64.l0 (k + 2) y s n1 n0 u d e q r = bits_Div64.j2 k y s n1 n0 u d e q := by
  have hp := mul_le_r (show q ≤ 4294967295 by omega) h3
  have hp0 := Int.mul_nonneg hq h3
  rw [bits_Div64.l0, if_neg (by omega), bits_Div64.j1, w64 (x := q * n0) hp0 (by omega), w64 (x := 4294967296 * r) (by omega) (by omega), w64 (by omega) (by omega)]
  rw [if_neg]
  intro h
  have := of_decide_eq_true h
  omega
theorem l0_gt (k : Nat) (y s n1 n0 u d e q r : Int) (ht : q ≥ 4294967296 ∨ 4294967296 * r + d < q * n0) (hq : 0 < q) (hq' : q ≤ 4294967297) (h2 : n1 < 4294967296) (h1 : 0 ≤ n1) (h3 : 0 ≤ n0) (h4 : n0 < 4294967296)
    (hr : 0 ≤ r) (hr' : r < 4294967296) (hd : 0 ≤ d) (hd' : d < 4294967296) :
    bits_Div64.l0 (k + 2) y s n1 n0 u d e q r = if r + n1 ≥ 4294967296 then bits_Div64.j2 k y s n1 n0 u d e (q - 1) else bits_Div64.l0 k y s n1 n0 u d e (q - 1) (r + n1) := by
  rw [bits_Div64.l0]
  by_cases hb : q ≥ 4294967296
  · rw [if_pos hb, bits_Div64.j1, if_pos rfl, w64 (x := r + n1) (by omega) (by omega), w64 (x := q - 1) (by omega) (by omega)]
  · have hp := mul_le_r (show q ≤ 4294967295 by omega) h3
    have hp0 := Int.mul_nonneg (Int.le_of_lt hq) h3
    rw [if_neg hb, bits_Div64.j1, w64 (x := q * n0) hp0 (by omega), w64 (x := 4294967296 * r) (by omega) (by omega), w64 (x := 4294967296 * r + d) (by omega) (by omega)]
    rw [if_pos (by apply decide_eq_true; omega), w64 (x := r + n1) (by omega) (by omega), w64 (x := q - 1) (by omega) (by omega)]
/-- The first loop comes to the figure. -/
theorem l0_ends (y n1 n0 u d Q s e : Int) (hy : y = n1 * 4294967296 + n0) (h1 : 2147483648 ≤ n1) (h2 : n1 < 4294967296) (h3 : 0 ≤ n0) (h4 : n0 < 4294967296)
    (hd : 0 ≤ d) (hd' : d < 4294967296) (hQ0 : 0 ≤ Q) (hQ1 : Q < 4294967296)
    (hQ2 : Q * y ≤ u * 4294967296 + d) (hQ3 : u * 4294967296 + d < Q * y + y) :
    ∀ (n : Nat) (k : Nat) (q r : Int), 0 ≤ r → r < 4294967296 → q * n1 + r = u → Q ≤ q → q ≤ 4294967297 → 4294967296 ≤ r + n * n1 → 
    ∃ m, k ≤ m ∧ bits_Div64.l0 (k + 2 * n + 2) y s n1 n0 u d e q r = bits_Div64.j2 m y s n1 n0 u d e Q
  | 0, k, q, r, hr, hr', hu, hq, hq', hn => by simp at hn; omega
  | n + 1, k, q, r, hr, hr', hu, hq, hq', hn => by
    have G := guess u d y n1 n0 q r Q hy h1 h2 h3 h4 hr hr' hd hd' hu hQ0 hQ1 hQ2 hQ3 hq'
    by_cases he : q = Q
    · refine ⟨k + 2 * (n + 1), by omega, ?_⟩
      rw [l0_eq _ y s n1 n0 u d e q r (G.1 he) (by omega) h3 h4 hr hr' hd hd', he]
    · rw [l0_gt _ y s n1 n0 u d e q r (G.2.1 (by omega)) (by omega) hq' h2 (by omega) h3 h4 hr hr' hd hd']
      by_cases hb : r + n1 ≥ 4294967296
      · rw [if_pos hb, G.2.2 (by omega) hb]
        exact ⟨_, by omega, rfl⟩
      · rw [if_neg hb]
        refine l0_ends y n1 n0 u d Q s e hy h1 h2 h3 h4 hd hd' hQ0 hQ1 hQ2 hQ3 n k (q - 1) (r + n1) (by omega) (by omega) ?_ (by omega) (by omega) ?_
        · rw [Int.sub_mul]; omega
        · have : ((n + 1 : Nat) : Int) * n1 = n * n1 + n1 := by rw [Int.natCast_add, Int.add_mul]; simp
          omega
/-- The second loop's round, the guess right. -/
theorem l1_eq (k : Nat) (y s n1 n0 d e r v q : Int) (ht : q < 4294967296 ∧ q * n0 ≤ 4294967296 * r + d) (hs : 0 ≤ s) (hq : 0 ≤ q) (h3 : 0 ≤ n0) (h4 : n0 < 4294967296)
    (hr : 0 ≤ r) (hr' : r < 4294967296) (hd : 0 ≤ d) (hd' : d < 4294967296) :
    ∃ z, bits_Div64.l1 (k + 2) y s n1 n0 d e r v q = some (IntKind.u64.wrap ((IntKind.u64.wrap (e * 4294967296)) + q), z) := by
  have hp := mul_le_r (show q ≤ 4294967295 by omega) h3
  have hp0 := Int.mul_nonneg hq h3
  rw [bits_Div64.l1, if_neg (by omega), bits_Div64.j4, w64 (x := q * n0) hp0 (by omega), w64 (x := 4294967296 * r) (by omega) (by omega), w64 (by omega) (by omega)]
  rw [if_neg, if_pos hs]
  · exact ⟨_, rfl⟩
  intro h
  have := of_decide_eq_true h
  omega
theorem l1_gt (k : Nat) (y s n1 n0 d e r v q : Int) (ht : q ≥ 4294967296 ∨ 4294967296 * r + d < q * n0) (hs : 0 ≤ s) (hq : 0 < q) (hq' : q ≤ 4294967297) (h2 : n1 < 4294967296) (h1 : 0 ≤ n1) (h3 : 0 ≤ n0) (h4 : n0 < 4294967296)
    (hr : 0 ≤ r) (hr' : r < 4294967296) (hd : 0 ≤ d) (hd' : d < 4294967296) :
    ∃ z, bits_Div64.l1 (k + 2) y s n1 n0 d e r v q = if r + n1 ≥ 4294967296 then some (IntKind.u64.wrap ((IntKind.u64.wrap (e * 4294967296)) + (q - 1)), z) else bits_Div64.l1 k y s n1 n0 d e (r + n1) v (q - 1) := by
  rw [bits_Div64.l1]
  by_cases hb : q ≥ 4294967296
  · rw [if_pos hb, bits_Div64.j4, if_pos rfl, w64 (x := r + n1) (by omega) (by omega), w64 (x := q - 1) (by omega) (by omega), if_pos hs]
    exact ⟨_, rfl⟩
  · have hp := mul_le_r (show q ≤ 4294967295 by omega) h3
    have hp0 := Int.mul_nonneg (Int.le_of_lt hq) h3
    rw [if_neg hb, bits_Div64.j4, w64 (x := q * n0) hp0 (by omega), w64 (x := 4294967296 * r) (by omega) (by omega), w64 (x := 4294967296 * r + d) (by omega) (by omega)]
    rw [if_pos (by apply decide_eq_true; omega), w64 (x := r + n1) (by omega) (by omega), w64 (x := q - 1) (by omega) (by omega), if_pos hs]
    exact ⟨_, rfl⟩
/-- The second loop comes to the figure. -/
theorem l1_ends (y n1 n0 u d Q s e v : Int) (hy : y = n1 * 4294967296 + n0) (h1 : 2147483648 ≤ n1) (h2 : n1 < 4294967296) (h3 : 0 ≤ n0) (h4 : n0 < 4294967296)
    (hs : 0 ≤ s) (hd : 0 ≤ d) (hd' : d < 4294967296) (hQ0 : 0 ≤ Q) (hQ1 : Q < 4294967296)
    (hQ2 : Q * y ≤ u * 4294967296 + d) (hQ3 : u * 4294967296 + d < Q * y + y) :
    ∀ (n : Nat) (k : Nat) (q r : Int), 0 ≤ r → r < 4294967296 → q * n1 + r = u → Q ≤ q → q ≤ 4294967297 → 4294967296 ≤ r + n * n1 → 
    ∃ z, bits_Div64.l1 (k + 2 * n + 2) y s n1 n0 d e r v q = some (IntKind.u64.wrap ((IntKind.u64.wrap (e * 4294967296)) + Q), z)
  | 0, k, q, r, hr, hr', hu, hq, hq', hn => by simp at hn; omega
  | n + 1, k, q, r, hr, hr', hu, hq, hq', hn => by
    have G := guess u d y n1 n0 q r Q hy h1 h2 h3 h4 hr hr' hd hd' hu hQ0 hQ1 hQ2 hQ3 hq'
    by_cases he : q = Q
    · obtain ⟨z, hz⟩ := l1_eq (k + 2 * (n + 1)) y s n1 n0 d e r v q (G.1 he) hs (by omega) h3 h4 hr hr' hd hd'
      rw [hz, he]; exact ⟨_, rfl⟩
    · obtain ⟨z, hz⟩ := l1_gt (k + 2 * (n + 1)) y s n1 n0 d e r v q (G.2.1 (by omega)) hs (by omega) hq' h2 (by omega) h3 h4 hr hr' hd hd'
      rw [hz]
      by_cases hb : r + n1 ≥ 4294967296
      · rw [if_pos hb, G.2.2 (by omega) hb]
        exact ⟨_, rfl⟩
      · rw [if_neg hb]
        refine l1_ends y n1 n0 u d Q s e v hy h1 h2 h3 h4 hs hd hd' hQ0 hQ1 hQ2 hQ3 n k (q - 1) (r + n1) (by omega) (by omega) ?_ (by omega) (by omega) ?_
        · rw [Int.sub_mul]; omega
        · have : ((n + 1 : Nat) : Int) * n1 = n * n1 + n1 := by rw [Int.natCast_add, Int.add_mul]; simp
          omega
/-- The first guess is no less than the figure, and too high by at most 2. -/
theorem guess0 (u d y n1 n0 Q : Int) (hy : y = n1 * 4294967296 + n0) (h1 : 2147483648 ≤ n1) (h2 : n1 < 4294967296) (h3 : 0 ≤ n0) (h4 : n0 < 4294967296)
    (hu0 : 0 ≤ u) (huy : u < y) (hd : 0 ≤ d) (hd' : d < 4294967296) (hQ0 : 0 ≤ Q) (hQ2 : Q * y ≤ u * 4294967296 + d) :
    0 ≤ u / n1 ∧ u / n1 ≤ 4294967297 ∧ Q ≤ u / n1 ∧ 0 ≤ u % n1 ∧ u % n1 < n1 ∧ u / n1 * n1 + u % n1 = u := by
  have ha := Int.emod_nonneg u (show n1 ≠ 0 by omega)
  have hb := Int.emod_lt_of_pos u (show 0 < n1 by omega)
  have hc := Int.mul_ediv_add_emod u n1
  rw [Int.mul_comm] at hc
  have hd0 := Int.ediv_nonneg hu0 (show 0 ≤ n1 by omega)
  refine ⟨hd0, ?_, ?_, ha, hb, hc⟩
  · refine Classical.byContradiction fun hn => ?_
    have := mul_le_r (show 4294967298 ≤ u / n1 by omega) (show 0 ≤ n1 by omega)
    omega
  · refine Classical.byContradiction fun hn => ?_
    have hm := mul_le_r (show u / n1 + 1 ≤ Q by omega) (show 0 ≤ n1 by omega)
    rw [Int.add_mul, Int.one_mul] at hm
    have he : Q * y = Q * n1 * 4294967296 + Q * n0 := by rw [hy, Int.mul_add, ← Int.mul_assoc]
    have hf := Int.mul_nonneg hQ0 h3
    omega
end Go.Proofs.YtgodmbcebpbdiaaDoor.G
end

/- math/bits.Div64: the quotient. -/
section
set_option linter.unusedVariables false
set_option linter.unusedSimpArgs false
namespace Go.Proofs.YtgodmbcebpbdiaaDoor.G
open Go.RowKit Go.Proofs.YtgodmbcebpbdiaaDoorW.PrintWords Go.Proofs.YtgodmbcebpbdiaaDoorW.PrintLast Go.Proofs.YtgodmbcebpbdiaaDoorW.PrintMore Go.Proofs.YtgodmbcebpbdiaaDoor.Q0
theorem wmod (x : Int) : IntKind.u64.wrap x = x % 18446744073709551616 := by simp [IntKind.wrap, IntKind.bits, IntKind.signed]
/-- Behind the first figure: the second one, and the quotient. -/
theorem j2_ends (k : Nat) (y n1 n0 u d c s Q R P : Int) (hy : y = n1 * 4294967296 + n0) (h1 : 2147483648 ≤ n1) (h2 : n1 < 4294967296) (h3 : 0 ≤ n0) (h4 : n0 < 4294967296)
    (hs : 0 ≤ s) (hu : 0 ≤ u) (hd : 0 ≤ d) (hd' : d < 4294967296) (hc : 0 ≤ c) (hc' : c < 4294967296) (hQ0 : 0 ≤ Q) (hQ1 : Q < 4294967296)
    (hR : u * 4294967296 + d = Q * y + R) (hR0 : 0 ≤ R) (hRy : R < y)
    (hP0 : 0 ≤ P) (hP1 : P < 4294967296) (hP2 : P * y ≤ R * 4294967296 + c) (hP3 : R * 4294967296 + c < P * y + y) :
    ∃ z, bits_Div64.j2 (k + 9) y s n1 n0 u d c Q = some (Q * 4294967296 + P, z) := by
  rw [bits_Div64.j2, if_neg (by omega)]
  have e1 : IntKind.u64.wrap (IntKind.u64.wrap (IntKind.u64.wrap (u * 4294967296) + d) - IntKind.u64.wrap (Q * y)) = R := by
    rw [wmod, wmod, wmod, wmod]; omega
  rw [e1]
  have G := guess0 R c y n1 n0 P hy h1 h2 h3 h4 hR0 hRy hc hc' hP0 hP2
  have e2 : IntKind.u64.wrap (Int.tdiv R n1) = R / n1 := by
    rw [Int.tdiv_eq_ediv_of_nonneg hR0, w64 (by omega) (by omega)]
  rw [e2]
  have e3 : IntKind.u64.wrap (R - IntKind.u64.wrap (R / n1 * n1)) = R % n1 := by
    rw [wmod, wmod]; omega
  rw [e3]
  obtain ⟨z, hz⟩ := l1_ends y n1 n0 R c P s Q R hy h1 h2 h3 h4 hs hc hc' hP0 hP1 hP2 hP3 3 k (R / n1) (R % n1) G.2.2.2.1 (by omega) G.2.2.2.2.2 G.2.2.1 G.2.1 (by omega)
  rw [show k + 8 = k + 2 * 3 + 2 from by omega, hz, w64 (x := Q * 4294967296) (by omega) (by omega), w64 (by omega) (by omega)]
  exact ⟨_, rfl⟩
/-- From the first guess on. -/
theorem l0_all (y n1 n0 u d c s : Int) (hy : y = n1 * 4294967296 + n0) (h1 : 2147483648 ≤ n1) (h2 : n1 < 4294967296) (h3 : 0 ≤ n0) (h4 : n0 < 4294967296)
    (hs : 0 ≤ s) (hu : 0 ≤ u) (huy : u < y) (hd : 0 ≤ d) (hd' : d < 4294967296) (hc : 0 ≤ c) (hc' : c < 4294967296) :
    ∃ z, bits_Div64.l0 20 y s n1 n0 u d c (IntKind.u64.wrap (Int.tdiv u n1)) (IntKind.u64.wrap (u - IntKind.u64.wrap (IntKind.u64.wrap (Int.tdiv u n1) * n1))) = some ((u * 18446744073709551616 + d * 4294967296 + c) / y, z) := by
  have hy0 : 0 < y := by omega
  have hN : 0 ≤ u * 4294967296 + d := by omega
  have q1 := Int.ediv_nonneg hN (show 0 ≤ y by omega)
  have q2 := Int.mul_ediv_add_emod (u * 4294967296 + d) y
  rw [Int.mul_comm] at q2
  have q3 := Int.emod_nonneg (u * 4294967296 + d) (show y ≠ 0 by omega)
  have q4 := Int.emod_lt_of_pos (u * 4294967296 + d) hy0
  generalize (u * 4294967296 + d) / y = Q at q1 q2
  generalize (u * 4294967296 + d) % y = R at q2 q3 q4
  have q5 : Q < 4294967296 := by
    refine Classical.byContradiction fun hn => ?_
    have := mul_le_r (show 4294967296 ≤ Q by omega) (show 0 ≤ y by omega)
    omega
  have hM : 0 ≤ R * 4294967296 + c := by omega
  have p1 := Int.ediv_nonneg hM (show 0 ≤ y by omega)
  have p2 := Int.mul_ediv_add_emod (R * 4294967296 + c) y
  rw [Int.mul_comm] at p2
  have p3 := Int.emod_nonneg (R * 4294967296 + c) (show y ≠ 0 by omega)
  have p4 := Int.emod_lt_of_pos (R * 4294967296 + c) hy0
  generalize (R * 4294967296 + c) / y = P at p1 p2
  generalize (R * 4294967296 + c) % y = S at p2 p3 p4
  have p5 : P < 4294967296 := by
    refine Classical.byContradiction fun hn => ?_
    have := mul_le_r (show 4294967296 ≤ P by omega) (show 0 ≤ y by omega)
    omega
  have e : (u * 18446744073709551616 + d * 4294967296 + c) / y = Q * 4294967296 + P := by
    have : u * 18446744073709551616 + d * 4294967296 + c = S + (Q * 4294967296 + P) * y := by
      rw [Int.add_mul, Int.mul_assoc, Int.mul_comm 4294967296 y, ← Int.mul_assoc]; omega
    rw [this, Int.add_mul_ediv_right _ _ (by omega), Int.ediv_eq_zero_of_lt p3 p4]; omega
  rw [e]
  have G := guess0 u d y n1 n0 Q hy h1 h2 h3 h4 hu huy hd hd' q1 (by omega)
  have e2 : IntKind.u64.wrap (Int.tdiv u n1) = u / n1 := by
    rw [Int.tdiv_eq_ediv_of_nonneg hu, w64 (by omega) (by omega)]
  rw [e2]
  have e3 : IntKind.u64.wrap (u - IntKind.u64.wrap (u / n1 * n1)) = u % n1 := by
    rw [wmod, wmod]; omega
  rw [e3]
  obtain ⟨m, hm, hl⟩ := l0_ends y n1 n0 u d Q s c hy h1 h2 h3 h4 hd hd' q1 q5 (by omega) (by omega) 3 12 (u / n1) (u % n1) G.2.2.2.1 (by omega) G.2.2.2.2.2 G.2.2.1 G.2.1 (by omega)
  rw [show (20 : Nat) = 12 + 2 * 3 + 2 from rfl, hl]
  obtain ⟨k, rfl⟩ : ∃ k, m = k + 9 := ⟨m - 9, by omega⟩
  exact j2_ends k y n1 n0 u d c s Q R P hy h1 h2 h3 h4 hs hu hd hd' hc hc' q1 q5 (by omega) q3 q4 p1 p5 (by omega) (by omega)
end Go.Proofs.YtgodmbcebpbdiaaDoor.G
end

/- math/bits.Div64 computes the quotient. -/
section
set_option linter.unusedVariables false
set_option linter.unusedSimpArgs false
namespace Go.Proofs.YtgodmbcebpbdiaaDoor.G
open Go.RowKit Go.Proofs.YtgodmbcebpbdiaaDoorW.PrintWords Go.Proofs.YtgodmbcebpbdiaaDoorW.PrintLast Go.Proofs.YtgodmbcebpbdiaaDoorW.PrintMore Go.Proofs.YtgodmbcebpbdiaaDoor.Q0
theorem shlN (a t : Nat) (ht : t ≤ 64) : shl .u64 (a : Int) (t : Int) = ((a * 2 ^ t % 18446744073709551616 : Nat) : Int) := by
  unfold shl
  rw [Int.toNat_natCast, Nat.min_eq_left (by simpa [IntKind.bits] using ht), wmod, Int.natCast_emod, Int.natCast_mul, Int.natCast_pow]
  rfl
theorem shrN (a t : Nat) (ht : t ≤ 64) : shr .u64 (a : Int) (t : Int) = ((a / 2 ^ t : Nat) : Int) := by
  unfold shr
  rw [Int.toNat_natCast, Nat.min_eq_left (by simpa [IntKind.bits] using ht), Int.natCast_ediv, Int.natCast_pow]
  rfl
theorem maskN (a : Nat) (h : a < 18446744073709551616) : Go.bits .and .u64 (a : Int) 4294967295 = ((a % 4294967296 : Nat) : Int) := by
  have := bits_and_u64_nat a 4294967295 h (by omega)
  rw [show (4294967295 : Int) = ((4294967295 : Nat) : Int) from rfl, this, show (4294967295 : Nat) = 2 ^ 32 - 1 from rfl, Nat.and_two_pow_sub_one_eq_mod]
theorem divN (a b : Nat) : (a : Int) / (b : Int) = ((a / b : Nat) : Int) := (Int.natCast_ediv a b).symm
set_option maxRecDepth 4000 in
theorem div64 (hi lo y : Nat) (h : hi < y) (hlo : lo < 18446744073709551616) (hy : y < 18446744073709551616) :
    ∃ z, bits_Div64.f 20 hi lo y = some ((((hi * 18446744073709551616 + lo) / y : Nat) : Int), z) := by
  unfold bits_Div64.f
  rw [if_neg (by omega), if_neg (by omega)]
  by_cases h0 : hi = 0
  · subst h0
    rw [if_pos (by rfl), Int.tdiv_eq_ediv_of_nonneg (by omega), divN, Nat.zero_mul, Nat.zero_add]
    have hd := Nat.div_le_self lo y
    generalize lo / y = D at hd ⊢
    rw [w64 (by omega) (by omega)]
    exact ⟨_, rfl⟩
  rw [if_neg (by omega)]
  obtain ⟨L1, L2, L3⟩ := Lib.bitLenAux_bounds 64 y hy (by omega)
  have L4 : Lib.bitLenAux 64 y ≤ 64 := Lib.bitLen_le y 64 (Nat.le_refl _) hy
  have hlz : bits_LeadingZeros64.f (y : Int) = some (64 - (Lib.bitLenAux 64 y : Int)) := by
    unfold bits_LeadingZeros64.f
    rw [if_pos ⟨by omega, by omega⟩, Int.toNat_natCast]; rfl
  rw [hlz]
  generalize Lib.bitLenAux 64 y = L at L1 L2 L3 L4 hlz
  obtain ⟨t, rfl⟩ : ∃ t, L = 64 - t := ⟨64 - L, by omega⟩
  have ht : t ≤ 63 := by omega
  clear L4 hlz L1
  have m1 : 2 ^ (64 - t - 1) * 2 ^ t = 9223372036854775808 := by rw [← Nat.pow_add, show 64 - t - 1 + t = 63 by omega]
  have m2 : 2 ^ (64 - t) * 2 ^ t = 18446744073709551616 := by rw [← Nat.pow_add, show 64 - t + t = 64 by omega]
  have hp : 0 < 2 ^ t := Nat.two_pow_pos t
  have y1 : 9223372036854775808 ≤ y * 2 ^ t := by rw [← m1]; exact Nat.mul_le_mul_right _ L2
  have y2 : y * 2 ^ t < 18446744073709551616 := by rw [← m2]; exact Nat.mul_lt_mul_of_pos_right L3 hp
  have y3 : hi * 2 ^ t + 2 ^ t ≤ y * 2 ^ t := by rw [← Nat.succ_mul]; exact Nat.mul_le_mul_right _ h
  have y4 : lo / 2 ^ (64 - t) < 2 ^ t := Nat.div_lt_of_lt_mul (by rw [m2]; exact hlo)
  have y5 : lo * 2 ^ t / 18446744073709551616 = lo / 2 ^ (64 - t) := by rw [← m2, Nat.mul_div_mul_right _ _ hp]
  have e1 : IntKind.u64.wrap (64 - ((64 - t : Nat) : Int)) = (t : Int) := by rw [w64 (by omega) (by omega)]; omega
  have e2 : IntKind.u64.wrap (64 - (t : Int)) = ((64 - t : Nat) : Int) := by rw [w64 (by omega) (by omega)]; omega
  rw [Option.bind_some, e1, e2, if_pos (by omega), if_pos (by omega), shlN y t (by omega), shlN hi t (by omega), shlN lo t (by omega), shrN lo (64 - t) (by omega)]
  rw [Nat.mod_eq_of_lt y2, Nat.mod_eq_of_lt (show hi * 2 ^ t < 18446744073709551616 by omega), maskN _ y2, maskN _ (Nat.mod_lt _ (by decide))]
  rw [bits_or_u64_nat _ _ (by omega) (by omega), ← Nat.shiftLeft_eq hi t, ← Nat.shiftLeft_add_eq_or_of_lt y4, Nat.shiftLeft_eq hi t]
  have hfin : (hi * 18446744073709551616 + lo) / y = ((hi * 2 ^ t + lo / 2 ^ (64 - t)) * 18446744073709551616 + lo * 2 ^ t % 18446744073709551616) / (y * 2 ^ t) := by
    rw [← Nat.mul_div_mul_right _ y hp]
    congr 1
    rw [Nat.add_mul, Nat.mul_right_comm]
    omega
  rw [hfin]
  clear y5 hfin e1 e2 m1 m2 L2 L3
  generalize y * 2 ^ t = Y at y1 y2 y3 ⊢
  have hV : lo * 2 ^ t % 18446744073709551616 < 18446744073709551616 := Nat.mod_lt _ (by decide)
  generalize lo * 2 ^ t % 18446744073709551616 = V at hV ⊢
  generalize lo / 2 ^ (64 - t) = W at y4 ⊢
  rw [show ((Y : Nat) : Int) / 4294967296 = ((Y / 4294967296 : Nat) : Int) by omega, show ((V : Nat) : Int) / 4294967296 = ((V / 4294967296 : Nat) : Int) by omega, if_neg (by omega)]
  have hU : hi * 2 ^ t + W < Y := by omega
  generalize hi * 2 ^ t + W = U at hU ⊢
  obtain ⟨z, hz⟩ := l0_all (Y : Int) ((Y / 4294967296 : Nat) : Int) ((Y % 4294967296 : Nat) : Int) (U : Int) ((V / 4294967296 : Nat) : Int) ((V % 4294967296 : Nat) : Int) (t : Int) (by omega) (by omega) (by omega) (by omega) (by omega) (by omega) (by omega) (by omega) (by omega) (by omega) (by omega) (by omega)
  rw [hz, show (U : Int) * 18446744073709551616 + ((V / 4294967296 : Nat) : Int) * 4294967296 + ((V % 4294967296 : Nat) : Int) = ((U * 18446744073709551616 + V : Nat) : Int) by omega, divN]
  exact ⟨_, rfl⟩
end Go.Proofs.YtgodmbcebpbdiaaDoor.G
end
