/- Texts of this seat, put together: each part tells above it what it proves and on what conditions. -/
import Derived.Test.YthnfmpieoondaaaJPA
import Derived.Test.YthnfmpieoondaaaJOP
import Derived.Laws.BitsLemmas
/- dragomanref06's moves are the same. -/
section
set_option linter.unusedVariables false
set_option linter.unusedSimpArgs false
namespace Go.Proofs.Ythnfmpieoondaaa.P
open Go.RowKit Go.Proofs.YthnfmpieoondaaaW.PrintWords Go.Proofs.Ythnfmpieoondaaa.QA Go.Proofs.Ythnfmpieoondaaa.QB Go.Proofs.Ythnfmpieoondaaa.G Go.Proofs.Ythnfmpieoondaaa.Mt
def to97 (x : St) : S97 := ⟨x.node, x.ended, x.at_⟩
theorem parent_step (k : Nat) (l : List S55) (i j : Int) (h0 : 0 ≤ j) (h1 : j < l.length) : dragomanref06_parent.l0 (k + 1) l i j =
    if ((rd_T55 l j).f0 ≥ 2 ∧ (rd_T55 l j).f0 ≤ 6 ∧ (rd_T55 l j).f2.f0 = i) ∨ (((rd_T55 l j).f0 = 2 ∨ (rd_T55 l j).f0 = 3) ∧ (rd_T55 l j).f2.f1 = i) then some j else dragomanref06_parent.l0 k l i (wrap64 (j + 1)) := by
  generalize hR : dragomanref06_parent.l0 k l i (wrap64 (j + 1)) = R
  unfold dragomanref06_parent.l0
  rw [if_pos h1, if_pos h0, hR]
  generalize (rd_T55 l j).f0 = A
  generalize (rd_T55 l j).f2.f0 = B
  generalize (rd_T55 l j).f2.f1 = C
  by_cases c1 : B = i <;> by_cases c2 : C = i <;> by_cases c3 : A = 2 <;> by_cases c4 : A = 3 <;> by_cases c5 : A ≥ 2 <;> by_cases c6 : A ≤ 6 <;> (first | (exfalso; omega) | (simp [c1, c2, c3, c4, c5, c6]; done))
section
variable {l : List S55} {s : ByteArray} {up : List Int}
theorem kid_up (T : Tree (ndOf l) l.length (fun j => up.getD j 0)) {p i : Nat} (hp : p < l.length) (h : HasKid (ndOf l) p i) : i < p ∧ up.getD i 0 = (p : Int) := by
  rcases h with ⟨h1, h2, h3⟩ | ⟨h1, h3⟩
  · obtain ⟨a, b⟩ := T.kid0 p hp h1 h2
    rw [h3] at a b
    exact ⟨a, b⟩
  · obtain ⟨a, b, _⟩ := T.kid1 p hp h1
    rw [h3] at a b
    exact ⟨a, b⟩
theorem kid_int (hK : KidsOk l) {p i : Nat} (hp : p < l.length) : (((rd_T55 l p).f0 ≥ 2 ∧ (rd_T55 l p).f0 ≤ 6 ∧ (rd_T55 l p).f2.f0 = (i : Int)) ∨ (((rd_T55 l p).f0 = 2 ∨ (rd_T55 l p).f0 = 3) ∧ (rd_T55 l p).f2.f1 = (i : Int))) ↔ HasKid (ndOf l) p i := by
  obtain ⟨k0, k1⟩ := hK p hp
  have hn : ndOf l p = ⟨(rd_T55 l p).f0, hasB (rd_T55 l p).f1, (rd_T55 l p).f2.f0.toNat, (rd_T55 l p).f2.f1.toNat⟩ := rfl
  unfold HasKid
  rw [hn]
  dsimp only
  constructor
  · rintro (⟨h1, h2, h3⟩ | ⟨h1, h3⟩)
    · exact .inl ⟨h1, h2, by omega⟩
    · exact .inr ⟨h1, by omega⟩
  · rintro (⟨h1, h2, h3⟩ | ⟨h1, h3⟩)
    · have := k0 h1 h2; exact .inl ⟨h1, h2, by omega⟩
    · have := k1 h1; exact .inr ⟨h1, by omega⟩
theorem parent_eq (T : Tree (ndOf l) l.length (fun j => up.getD j 0)) (hK : KidsOk l) (hl : l.length ≤ 1000000) (i p : Nat) (hp : p < l.length) (hk : HasKid (ndOf l) p i) : ∀ (d j k : Nat), j + d = p → d < k → dragomanref06_parent.l0 k l i j = some (p : Int) := by
  intro d
  induction d with
  | zero =>
    intro j k hj hd
    obtain ⟨k, rfl⟩ : ∃ m, k = m + 1 := ⟨k - 1, by omega⟩
    have : j = p := by omega
    subst this
    rw [parent_step k l i j (by omega) (by omega), if_pos ((kid_int hK hp).2 hk)]
  | succ d ih =>
    intro j k hj hd
    obtain ⟨k, rfl⟩ : ∃ m, k = m + 1 := ⟨k - 1, by omega⟩
    have hne : ¬ HasKid (ndOf l) j i := fun h => by
      have h1 := (kid_up T (by omega) h).2
      have h2 := (kid_up T hp hk).2
      omega
    rw [parent_step k l i j (by omega) (by omega), if_neg (fun z => hne ((kid_int hK (by omega)).1 z)), show wrap64 ((j : Int) + 1) = ((j + 1 : Nat) : Int) by unfold wrap64; omega]
    exact ih (j + 1) k (by omega) (by omega)
theorem beyond_eq (T : Tree (ndOf l) l.length (fun j => up.getD j 0)) (hK : KidsOk l) (hl : l.length ≤ 1000000) (i a : Nat) (hi : i < l.length - 1) (k : Nat) (hk : l.length + 2 < k) :
    dragomanref06_beyond.f k l i true a = some ((moves (ndOf l) s.size (sb s) (fun j => up.getD j 0) ⟨i, true, a⟩).map to97) := by
  obtain ⟨p, hp0, hpn, hkid⟩ := T.par i hi
  have hp : up.getD i 0 = (p : Nat) := hp0
  have hip := (kid_up T hpn hkid).1
  have h1 := parent_eq T hK hl i p hpn hkid (p - (i + 1)) (i + 1) k (by omega) (by omega)
  unfold dragomanref06_beyond.f dragomanref06_parent.f
  rw [show wrap64 ((i : Int) + 1) = ((i + 1 : Nat) : Int) by unfold wrap64; omega, h1, Option.bind_some, if_pos (by omega), if_pos (by omega)]
  have hmv : moves (ndOf l) s.size (sb s) (fun j => up.getD j 0) ⟨i, true, a⟩ = if (rd_T55 l p).f0 = 4 ∨ (rd_T55 l p).f0 = 5 then [⟨p, true, a⟩, ⟨i, false, a⟩] else if (rd_T55 l p).f0 = 2 ∧ (rd_T55 l p).f2.f0.toNat = i then [⟨(rd_T55 l p).f2.f1.toNat, false, a⟩] else [⟨p, true, a⟩] := by
    unfold moves
    rw [if_pos rfl]
    dsimp only
    rw [if_neg (by rw [hp]; omega), hp, Int.toNat_natCast]
    rfl
  rw [hmv]
  obtain ⟨k, rfl⟩ : ∃ m, k = m + 1 := ⟨k - 1, by omega⟩
  obtain ⟨k0, k1⟩ := hK p hpn
  by_cases c2 : (rd_T55 l p).f0 = 2
  · rw [if_pos c2]
    simp only [dragomanref06_beyond.j0]
    have z0 := k0 (by omega) (by omega)
    have z1 := k1 (.inl c2)
    rw [if_neg (show ¬ ((rd_T55 l p).f0 = 4 ∨ (rd_T55 l p).f0 = 5) by omega)]
    by_cases c0 : (rd_T55 l p).f2.f0 = (i : Int)
    · rw [if_pos (beq_iff_eq.2 c0), if_pos (by omega), if_pos (by omega), if_pos ⟨c2, by omega⟩]
      simp only [List.map_cons, List.map_nil, to97, Option.some.injEq, List.cons.injEq, S97.mk.injEq, and_true, true_and]
      omega
    · rw [if_neg (fun z => c0 (beq_iff_eq.1 z)), if_pos (by omega), if_pos (by omega), if_neg (by omega), if_neg (by omega), if_neg (by omega)]
      rfl
  · rw [if_neg c2]
    simp only [dragomanref06_beyond.j0]
    rw [if_neg (show ¬ false = true by decide), if_pos (by omega), if_pos (by omega), if_neg (show ¬ ((rd_T55 l p).f0 = 2 ∧ (rd_T55 l p).f2.f0.toNat = i) by omega)]
    by_cases c4 : (rd_T55 l p).f0 = 4
    · rw [if_pos c4, if_pos (.inl c4)]; rfl
    rw [if_neg c4]
    by_cases c5 : (rd_T55 l p).f0 = 5
    · rw [if_pos c5, if_pos (.inr c5)]; rfl
    rw [if_neg c5, if_neg (by omega)]; rfl
theorem wrap_u64 (n : Int) (h0 : 0 ≤ n) (h1 : n < 2 ^ 64) : IntKind.u64.wrap n = n := by
  simp only [IntKind.wrap, IntKind.bits, IntKind.signed]
  simp
  omega
theorem sel_ok (y : S53) (hy : Ok53 y) (i : Int) : 0 ≤ sel y.f0 y.f1 y.f2 y.f3 i ∧ sel y.f0 y.f1 y.f2 y.f3 i < 2 ^ 64 := by
  obtain ⟨h0, h1, h2, h3⟩ := hy
  have b0 := bounds_u64 h0
  have b1 := bounds_u64 h1
  have b2 := bounds_u64 h2
  have b3 := bounds_u64 h3
  unfold sel
  split
  · omega
  split
  · omega
  split <;> omega
theorem half_eq (v : Int) (n : Nat) (h0 : 0 ≤ v) (h1 : v < 2 ^ 64) (hn : n < 64) : ((IntKind.u64.wrap (Int.tdiv v (IntKind.u64.wrap (2 ^ n)))).tmod 2 == 1) = (bits .and .u64 (v / 2 ^ n) 1 == 1) := by
  have hp : (0 : Int) < 2 ^ n := by exact Int.pow_pos (by decide)
  have hp2 : (2 : Int) ^ n < 2 ^ 64 := Int.pow_lt_pow_of_lt (by decide) hn
  rw [wrap_u64 (2 ^ n) (Int.le_of_lt hp) hp2, Int.tdiv_eq_ediv_of_nonneg h0]
  have q0 : 0 ≤ v / 2 ^ n := Int.ediv_nonneg h0 (Int.le_of_lt hp)
  have q1 : v / 2 ^ n < 2 ^ 64 := Int.lt_of_le_of_lt (Int.ediv_le_self _ h0) h1
  rw [wrap_u64 _ q0 q1, Int.tmod_eq_emod_of_nonneg q0]
  have := bits_mask .u64 64 (by decide) wrap_u64 1 (by decide) (v / 2 ^ n) q0 q1
  rw [show (2 : Int) ^ 1 - 1 = 1 from rfl, show (2 : Int) ^ 1 = 2 from rfl] at this
  rw [this]
theorem ref_has (y : S53) (hy : Ok53 y) (c : Nat) (h : c ≤ 255) : ref04_Has.f y.f0 y.f1 y.f2 y.f3 (c : Int) = some (hasB y c) := by
  unfold ref04_Has.f hasB
  rw [if_pos ⟨by omega, by omega⟩]
  obtain ⟨h0, h1⟩ := sel_ok y hy ((c : Int) / 64)
  rw [half_eq _ _ h0 h1 (by omega)]
theorem ok_at (hO : ∀ x, x ∈ l → Ok55 x) (i : Nat) (hi : i < l.length) : Ok55 (rd_T55 l i) := by
  unfold rd_T55
  rw [Int.toNat_natCast, List.getD_eq_getElem?_getD, List.getElem?_eq_getElem hi]
  exact hO _ (List.getElem_mem hi)
theorem wrap_succ (a : Nat) (h : a ≤ 1000000) : wrap64 ((a : Int) + 1) = ((a + 1 : Nat) : Int) := by unfold wrap64; omega
set_option maxHeartbeats 4000000 in
theorem within_eq (T : Tree (ndOf l) l.length (fun j => up.getD j 0)) (hK : KidsOk l) (hO : ∀ x, x ∈ l → Ok55 x) (i a : Nat) (hi : i < l.length) (ha : a ≤ s.size) (hs : s.size ≤ 100000) (k : Nat) (hk : 5 < k) :
    dragomanref06_within.f k l s i false a = some ((moves (ndOf l) s.size (sb s) (fun j => up.getD j 0) ⟨i, false, a⟩).map to97) := by
  have kinds : 0 ≤ (rd_T55 l i).f0 ∧ (rd_T55 l i).f0 ≤ 8 := T.kinds i hi
  obtain ⟨k0, k1⟩ := hK i hi
  have hok := ok_at hO i hi
  have hmv : moves (ndOf l) s.size (sb s) (fun j => up.getD j 0) ⟨i, false, a⟩ = if (rd_T55 l i).f0 = 0 ∨ ((rd_T55 l i).f0 = 7 ∧ a = 0) ∨ ((rd_T55 l i).f0 = 8 ∧ a = s.size) then [⟨i, true, a⟩]
    else if (rd_T55 l i).f0 = 1 then (if a < s.size ∧ hasB (rd_T55 l i).f1 (sb s a) = true then [⟨i, true, a + 1⟩] else [])
    else if (rd_T55 l i).f0 = 2 ∨ (rd_T55 l i).f0 = 5 then [⟨(rd_T55 l i).f2.f0.toNat, false, a⟩]
    else if (rd_T55 l i).f0 = 3 then [⟨(rd_T55 l i).f2.f0.toNat, false, a⟩, ⟨(rd_T55 l i).f2.f1.toNat, false, a⟩]
    else if (rd_T55 l i).f0 = 4 ∨ (rd_T55 l i).f0 = 6 then [⟨i, true, a⟩, ⟨(rd_T55 l i).f2.f0.toNat, false, a⟩]
    else [] := by
    unfold moves
    rw [if_neg (show ¬ false = true by decide)]
    rfl
  rw [hmv]
  obtain ⟨k, rfl⟩ : ∃ m, k = m + 5 := ⟨k - 5, by omega⟩
  unfold dragomanref06_within.f
  rw [if_pos (by omega), if_pos (by omega), bt_sb, ref_has _ hok.2.1 _ (sb_le s a), Option.bind_some]
  simp only [dragomanref06_within.j0, dragomanref06_within.j1, dragomanref06_within.j2]
  generalize (rd_T55 l i).f0 = A at *
  generalize hB : (rd_T55 l i).f2.f0 = B at *
  generalize hC : (rd_T55 l i).f2.f1 = C at *
  generalize hasB (rd_T55 l i).f1 (sb s a) = R at *
  have e7 : ((a : Int) = 0) = (a = 0) := by apply propext; omega
  have e8 : ((a : Int) = (s.size : Int)) = (a = s.size) := by apply propext; omega
  have e1 : ((a : Int) < (s.size : Int)) = (a < s.size) := by apply propext; omega
  have hA : A = 0 ∨ A = 1 ∨ A = 2 ∨ A = 3 ∨ A = 4 ∨ A = 5 ∨ A = 6 ∨ A = 7 ∨ A = 8 := by omega
  have hc2 : A = 2 ∨ A = 3 ∨ A = 4 ∨ A = 5 ∨ A = 6 → ((B.toNat : Nat) : Int) = B := fun h => by have := k0 (by omega) (by omega); omega
  have hc3 : A = 3 → ((C.toNat : Nat) : Int) = C := fun h => by have := k1 (.inr h); omega
  have hw := wrap_succ a (by omega)
  simp only [hw, e7, e8, e1]
  clear hw
  rcases hA with h | h | h | h | h | h | h | h | h
  · simp [h, to97]
  · by_cases q : a < s.size <;> cases R <;> simp [h, q, to97]
  · have := hc2 (by omega); simp [h, to97, this]
  · have := hc2 (by omega); have := hc3 h; simp [h, to97, *]
  · have := hc2 (by omega); simp [h, to97, this]
  · have := hc2 (by omega); simp [h, to97, this]
  · have := hc2 (by omega); simp [h, to97, this]
  · by_cases q : a = 0 <;> simp [h, q, to97]
  · by_cases q : a = s.size <;> simp [h, q, to97]
end
end Go.Proofs.Ythnfmpieoondaaa.P
end

/- dragomanref06.from1 comes to all places to which the tree stands, as match.ends does. -/
section
set_option linter.unusedVariables false
set_option linter.unusedSimpArgs false
namespace Go.Proofs.Ythnfmpieoondaaa.P
open Go.RowKit Go.Proofs.YthnfmpieoondaaaW.PrintWords Go.Proofs.Ythnfmpieoondaaa.QA Go.Proofs.Ythnfmpieoondaaa.QB Go.Proofs.Ythnfmpieoondaaa.G Go.Proofs.Ythnfmpieoondaaa.Mt
def ix2 (m : Nat) (x : St) : Nat := (x.node * m + x.at_) * 2 + (if x.ended = true then 1 else 0)
theorem ix2_lt {n m : Nat} {x : St} (h : Vl n m x) : ix2 m x < n * m * 2 := by
  have := idx_lt h.1 h.2
  unfold ix2
  split <;> omega
theorem ix2_inj {n m : Nat} {x y : St} (hx : Vl n m x) (hy : Vl n m y) (h : ix2 m x = ix2 m y) : x = y := by
  obtain ⟨i, e, a⟩ := x
  obtain ⟨j, f, b⟩ := y
  unfold ix2 at h
  dsimp only at h
  have he : e = f := by cases e <;> cases f <;> simp at h <;> first | rfl | omega
  subst he
  obtain ⟨rfl, rfl⟩ := div_mod_eq hx.2 hy.2 (show i * m + a = j * m + b by split at h <;> omega)
  rfl
section
variable {l : List S55} {s : ByteArray} {up : List Int}
theorem moves_two (nd : Nat → Nd) (L : Nat) (b : Nat → Nat) (u : Nat → Int) (x : St) : (moves nd L b u x).length ≤ 2 := by
  unfold moves
  by_cases h1 : x.ended = true
  · rw [if_pos h1]
    by_cases h2 : u x.node < 0
    · rw [if_pos h2]; simp
    · rw [if_neg h2]
      dsimp only
      split
      · simp
      · split <;> simp
  · rw [if_neg h1]
    repeat' split
    all_goals simp
theorem ok_mv2 (T : Tree (ndOf l) l.length (fun j => up.getD j 0)) : Ok (moves (ndOf l) s.size (sb s) (fun j => up.getD j 0)) (ix2 (s.size + 1)) (l.length * (s.size + 1) * 2) (Vl l.length (s.size + 1)) :=
  ⟨fun x y hx hy h => ix2_inj hx hy h, fun x hx => ix2_lt hx, fun x y hx hy => moves_valid T x y hx hy⟩
theorem from1L_run (T : Tree (ndOf l) l.length (fun j => up.getD j 0)) (hK : KidsOk l) (hO : ∀ x, x ∈ l → Ok55 x) (hs : s.size ≤ 100000) (hl : l.length ≤ 100000) : ∀ (j : Nat) (out seen : List Bool) (wait : List St) (r : List Bool), (∀ x, x ∈ wait → Vl l.length (s.size + 1) x) → wait.length + 2 * j ≤ 1000000 →
    run2 (moves (ndOf l) s.size (sb s) (fun j => up.getD j 0)) (ix2 (s.size + 1)) (l.length - 1) j out seen wait = some r → from1L l s (j + (l.length + 10)) out seen (wait.map to97) = some r
  | 0, _, _, _, _, _, _, h => by cases h
  | j + 1, out, seen, wait, r, hv, hc, h => by
    rw [show j + 1 + (l.length + 10) = (j + (l.length + 10)) + 1 by omega]
    unfold run2 at h
    unfold from1L
    rw [getLast_map]
    cases hg : wait.getLast? with
    | none => rw [hg] at h; exact h
    | some x =>
      rw [hg] at h
      obtain ⟨init, rfl⟩ := List.getLast?_eq_some_iff.1 hg
      have hx := hv x (by simp)
      have hc' : init.length + 1 + 2 * (j + 1) ≤ 1000000 := by simpa using hc
      have hvi : ∀ y, y ∈ init → Vl l.length (s.size + 1) y := fun y hy => hv y (by simp [hy])
      rw [Option.map_some]
      dsimp only at h ⊢
      rw [List.dropLast_concat] at h
      rw [List.map_append, List.map_cons, List.map_nil, List.dropLast_concat]
      obtain ⟨i, e, a⟩ := x
      have h1 := hx.1
      have h2 := hx.2
      dsimp only at h1 h2 h
      rw [show (to97 ⟨i, e, a⟩).f0 = (i : Int) from rfl, show (to97 ⟨i, e, a⟩).f1 = e from rfl, show (to97 ⟨i, e, a⟩).f2 = (a : Int) from rfl]
      rw [if_pos ⟨by omega, by omega, by omega, by omega, by simp; omega⟩, Int.toNat_natCast, Int.toNat_natCast]
      rw [show (i * (s.size + 1) + a) * 2 + (if e = true then 1 else 0) = ix2 (s.size + 1) ⟨i, e, a⟩ from rfl]
      by_cases hsv : seen.getD (ix2 (s.size + 1) ⟨i, e, a⟩) false = true
      · rw [if_pos hsv] at h ⊢
        exact from1L_run T hK hO hs hl j out seen init r hvi (by omega) h
      rw [if_neg hsv] at h ⊢
      have hvm := fun y hy => moves_valid (s := s) T ⟨i, e, a⟩ y hx hy
      have hm2 := moves_two (ndOf l) s.size (sb s) (fun j => up.getD j 0) ⟨i, e, a⟩
      have hvn : ∀ y, y ∈ init ++ moves (ndOf l) s.size (sb s) (fun j => up.getD j 0) ⟨i, e, a⟩ → Vl l.length (s.size + 1) y := fun y hy => (List.mem_append.1 hy).elim (hvi y) (hvm y)
      cases e with
      | true =>
        rw [if_pos rfl]
        by_cases hr : i = l.length - 1
        · rw [if_pos ⟨rfl, hr⟩] at h
          rw [if_pos (by omega)]
          exact from1L_run T hK hO hs hl j _ _ init r hvi (by omega) h
        · rw [if_neg (fun z => hr z.2)] at h
          rw [if_neg (by omega), beyond_eq (s := s) T hK (by omega) i a (by omega) _ (by omega), Option.bind_some, if_pos (by rw [List.length_map]; omega), ← List.map_append]
          exact from1L_run T hK hO hs hl j _ _ _ r hvn (by rw [List.length_append]; omega) h
      | false =>
        rw [if_neg (fun z => by cases z.1)] at h
        rw [if_neg (show ¬ false = true by decide), within_eq T hK hO i a h1 (by omega) hs _ (by omega), Option.bind_some, if_pos (by rw [List.length_map]; omega), ← List.map_append]
        exact from1L_run T hK hO hs hl j _ _ _ r hvn (by rw [List.length_append]; omega) h
theorem from1_spec (T : Tree (ndOf l) l.length (fun j => up.getD j 0)) (hK : KidsOk l) (hO : ∀ x, x ∈ l → Ok55 x) (hb : l.length * (s.size + 1) ≤ 50000) (a : Nat) (ha : a ≤ s.size) (k : Nat) (hk : 6 * (l.length * (s.size + 1)) + l.length + 12 ≤ k) :
    ref06_from1.f k l s a = some (EL l s a) := by
  have hn := T.pos
  have hs : s.size ≤ 100000 := by
    have : 1 * (s.size + 1) ≤ l.length * (s.size + 1) := Nat.mul_le_mul_right _ (by omega)
    omega
  have hl : l.length ≤ 100000 := by
    have : l.length * 1 ≤ l.length * (s.size + 1) := Nat.mul_le_mul_left _ (by omega)
    omega
  have hst : Vl l.length (s.size + 1) ⟨l.length - 1, false, a⟩ := ⟨by show l.length - 1 < _; omega, by show a < _; omega⟩
  unfold ref06_from1.f
  rw [if_pos ⟨by omega, by omega, hs, hl, by omega⟩]
  have hI : Inv2 (moves (ndOf l) s.size (sb s) (fun j => up.getD j 0)) (ix2 (s.size + 1)) (l.length - 1) (l.length * (s.size + 1) * 2) (s.size + 1) (Vl l.length (s.size + 1)) ⟨l.length - 1, false, a⟩ (List.replicate (s.size + 1) false) (List.replicate (l.length * (s.size + 1) * 2) false) [⟨l.length - 1, false, a⟩] := by
    refine ⟨by simp, by simp, ?_, ?_, ?_, .inl (by simp), ?_, ?_⟩
    · intro x hx
      simp at hx; subst hx
      exact ⟨hst, .refl _⟩
    · intro x hx h
      rw [repl_get] at h; cases h
    · intro x hx h
      rw [repl_get] at h; cases h
    · intro q h
      rw [repl_get] at h; cases h
    · intro q hq h
      rw [repl_get] at h; cases h
  obtain ⟨out', h3, h4, h5⟩ := run2_spec (ok_mv2 (s := s) T) (moves_two _ _ _ _) (s.size + 1) ⟨l.length - 1, false, a⟩ (root := l.length - 1) (fun q hq => ⟨hq.2, by
      unfold moves
      rw [if_pos rfl, if_pos ((up_root T _ hq.1).2 rfl)]⟩) hst (6 * (l.length * (s.size + 1)) + 2) _ _ _ hI (by rw [fls_repl]; simp only [List.length_cons, List.length_nil]; omega)
  have h6 := from1L_run T hK hO hs hl (6 * (l.length * (s.size + 1)) + 2) _ _ _ _ (fun x hx => by simp at hx; subst hx; exact hst) (by simp only [List.length_cons, List.length_nil]; omega) h3
  have h7 : out' = EL l s a := by
    apply bools_ext (by rw [h4, EL_length])
    intro b hb2
    rw [h4] at hb2
    rw [h5 b ⟨by show l.length - 1 < _; omega, hb2⟩, EL_get l s a b (by omega)]
    exact Mt.steps_iff T
  rw [h7] at h6
  have h8 := at_rounds (fun k => from1L_mono l s k _ _ _) (show 6 * (l.length * (s.size + 1)) + 2 + (l.length + 10) ≤ k by omega) h6
  rw [List.map_cons, List.map_nil, show to97 ⟨l.length - 1, false, a⟩ = (⟨(l.length : Int) - 1, false, (a : Int)⟩ : S97) by unfold to97; simp; omega] at h8
  exact h8
end
end Go.Proofs.Ythnfmpieoondaaa.P
end

/- A right tree: each node but the root is one's kid, and of one alone; match.parents tells whose. -/
section
set_option linter.unusedVariables false
set_option linter.unusedSimpArgs false
namespace Go.Proofs.Ythnfmpieoondaaa.P
open Go.RowKit Go.Proofs.YthnfmpieoondaaaW.PrintWords Go.Proofs.Ythnfmpieoondaaa.QA Go.Proofs.Ythnfmpieoondaaa.G Go.Proofs.Ythnfmpieoondaaa.Mt
/-- p has j as a kid. -/
def KidI (l : List S55) (p j : Nat) : Prop := (2 ≤ (rd_T55 l p).f0 ∧ (rd_T55 l p).f0 ≤ 6 ∧ (rd_T55 l p).f2.f0 = (j : Int)) ∨ (((rd_T55 l p).f0 = 2 ∨ (rd_T55 l p).f0 = 3) ∧ (rd_T55 l p).f2.f1 = (j : Int))
/-- The nodes from b to i are one tree. -/
inductive SubT (l : List S55) : Nat → Nat → Prop
  | leaf {i : Nat} : ((rd_T55 l i).f0 = 0 ∨ (rd_T55 l i).f0 = 1 ∨ (rd_T55 l i).f0 = 7 ∨ (rd_T55 l i).f0 = 8) → SubT l i i
  | un {b i : Nat} : 1 ≤ i → 4 ≤ (rd_T55 l i).f0 → (rd_T55 l i).f0 ≤ 6 → (rd_T55 l i).f2.f0 = (i : Int) - 1 → SubT l b (i - 1) → SubT l b i
  | bin {b c i : Nat} : 1 ≤ i → ((rd_T55 l i).f0 = 2 ∨ (rd_T55 l i).f0 = 3) → SubT l c (i - 1) → 1 ≤ c → (rd_T55 l i).f2.f0 = (c : Int) - 1 → (rd_T55 l i).f2.f1 = (i : Int) - 1 → SubT l b (c - 1) → SubT l b i
structure SubP (l : List S55) (b i : Nat) : Prop where
  le : b ≤ i
  kinds : ∀ j, b ≤ j → j ≤ i → 0 ≤ (rd_T55 l j).f0 ∧ (rd_T55 l j).f0 ≤ 8
  k0 : ∀ j, b ≤ j → j ≤ i → 2 ≤ (rd_T55 l j).f0 → (rd_T55 l j).f0 ≤ 6 → (b : Int) ≤ (rd_T55 l j).f2.f0 ∧ (rd_T55 l j).f2.f0 < j
  k1 : ∀ j, b ≤ j → j ≤ i → ((rd_T55 l j).f0 = 2 ∨ (rd_T55 l j).f0 = 3) → (b : Int) ≤ (rd_T55 l j).f2.f1 ∧ (rd_T55 l j).f2.f1 < j ∧ (rd_T55 l j).f2.f0 ≠ (rd_T55 l j).f2.f1
  par : ∀ j, b ≤ j → j < i → ∃ p, b ≤ p ∧ p ≤ i ∧ KidI l p j
  uniq : ∀ p q j, b ≤ p → p ≤ i → b ≤ q → q ≤ i → KidI l p j → KidI l q j → p = q
theorem SubP.kid {l : List S55} {b i : Nat} (h : SubP l b i) {p j : Nat} (h1 : b ≤ p) (h2 : p ≤ i) (h3 : KidI l p j) : b ≤ j ∧ j < p := by
  rcases h3 with ⟨a, c, d⟩ | ⟨a, d⟩
  · have := h.k0 p h1 h2 a c; omega
  · have := h.k1 p h1 h2 a; omega
theorem SubT.prop {l : List S55} {b i : Nat} (h : SubT l b i) : SubP l b i := by
  induction h with
  | @leaf i hk =>
    refine ⟨Nat.le_refl _, fun j h1 h2 => ?_, fun j h1 h2 h3 h4 => ?_, fun j h1 h2 h3 => ?_, fun j h1 h2 => by omega, fun p q j h1 h2 h3 h4 _ _ => by omega⟩
    · obtain rfl : j = i := by omega
      omega
    · obtain rfl : j = i := by omega
      omega
    · obtain rfl : j = i := by omega
      omega
  | @un b i hi h4 h6 h0 _ ih =>
    have hle := ih.le
    have root : ∀ j, KidI l i j → j = i - 1 := fun j hj => by
      rcases hj with ⟨_, _, d⟩ | ⟨a, _⟩ <;> omega
    refine ⟨by omega, fun j h1 h2 => ?_, fun j h1 h2 h3 h5 => ?_, fun j h1 h2 h3 => ?_, fun j h1 h2 => ?_, fun p q j h1 h2 h3 h5 hp hq => ?_⟩
    · by_cases e : j = i
      · subst e; omega
      · exact ih.kinds j h1 (by omega)
    · by_cases e : j = i
      · subst e; omega
      · exact ih.k0 j h1 (by omega) h3 h5
    · by_cases e : j = i
      · subst e; omega
      · exact ih.k1 j h1 (by omega) h3
    · by_cases e : j = i - 1
      · exact ⟨i, by omega, Nat.le_refl _, .inl ⟨by omega, h6, by omega⟩⟩
      · obtain ⟨p, g1, g2, g3⟩ := ih.par j h1 (by omega)
        exact ⟨p, g1, by omega, g3⟩
    · by_cases e : p = i <;> by_cases f : q = i
      · omega
      · subst e
        have := root j hp
        have := (ih.kid h3 (by omega) hq).2
        omega
      · subst f
        have := root j hq
        have := (ih.kid h1 (by omega) hp).2
        omega
      · exact ih.uniq p q j h1 (by omega) h3 (by omega) hp hq
  | @bin b c i hi hk _ hc h0 h1' _ ihr ihl =>
    have hl1 := ihl.le
    have hr1 := ihr.le
    have root : ∀ j, KidI l i j → j = c - 1 ∨ j = i - 1 := fun j hj => by
      rcases hj with ⟨_, _, d⟩ | ⟨a, d⟩ <;> omega
    refine ⟨by omega, fun j h1 h2 => ?_, fun j h1 h2 h3 h5 => ?_, fun j h1 h2 h3 => ?_, fun j h1 h2 => ?_, fun p q j h1 h2 h3 h5 hp hq => ?_⟩
    · by_cases e : j = i
      · subst e; omega
      by_cases f : j < c
      · exact ihl.kinds j h1 (by omega)
      · exact ihr.kinds j (by omega) (by omega)
    · by_cases e : j = i
      · subst e; omega
      by_cases f : j < c
      · exact ihl.k0 j h1 (by omega) h3 h5
      · have := ihr.k0 j (by omega) (by omega) h3 h5; omega
    · by_cases e : j = i
      · subst e; omega
      by_cases f : j < c
      · exact ihl.k1 j h1 (by omega) h3
      · have := ihr.k1 j (by omega) (by omega) h3
        exact ⟨by omega, this.2.1, this.2.2⟩
    · by_cases e : j = i - 1
      · exact ⟨i, by omega, Nat.le_refl _, .inr ⟨hk, by omega⟩⟩
      by_cases e2 : j = c - 1
      · exact ⟨i, by omega, Nat.le_refl _, .inl ⟨by omega, by omega, by omega⟩⟩
      by_cases f : j < c
      · obtain ⟨p, g1, g2, g3⟩ := ihl.par j h1 (by omega)
        exact ⟨p, g1, by omega, g3⟩
      · obtain ⟨p, g1, g2, g3⟩ := ihr.par j (by omega) (by omega)
        exact ⟨p, by omega, by omega, g3⟩
    · have left : ∀ p, b ≤ p → p < c → KidI l p j → b ≤ j ∧ j < p := fun p a b k => ihl.kid a (by omega) k
      have right : ∀ p, c ≤ p → p < i → KidI l p j → c ≤ j ∧ j < p := fun p a b k => ihr.kid a (by omega) k
      by_cases e : p = i <;> by_cases f : q = i
      · omega
      · subst e
        have z := root j hp
        by_cases g : q < c
        · have := left q h3 g hq; omega
        · have := right q (by omega) (by omega) hq; omega
      · subst f
        have z := root j hq
        by_cases g : p < c
        · have := left p h1 g hp; omega
        · have := right p (by omega) (by omega) hp; omega
      · by_cases g : p < c <;> by_cases g2 : q < c
        · exact ihl.uniq p q j h1 (by omega) h3 (by omega) hp hq
        · have := left p h1 g hp; have := right q (by omega) (by omega) hq; omega
        · have := right p (by omega) (by omega) hp; have := left q h3 g2 hq; omega
        · exact ihr.uniq p q j (by omega) (by omega) (by omega) (by omega) hp hq
theorem kids_ok {l : List S55} (h : SubP l 0 (l.length - 1)) : KidsOk l := fun i hi => ⟨fun a b => by have := h.k0 i (by omega) (by omega) a b; omega, fun a => by have := h.k1 i (by omega) (by omega) a; omega⟩
theorem kidI_iff {l : List S55} (h : SubP l 0 (l.length - 1)) {p j : Nat} (hp : p < l.length) : KidI l p j ↔ HasKid (ndOf l) p j := kid_int (kids_ok h) hp
theorem tree_of {l : List S55} {up : List Int} (hn : 0 < l.length) (h : SubP l 0 (l.length - 1)) (hup : ∀ j, j < l.length → (∃ p, p < l.length ∧ KidI l p j ∧ up.getD j 0 = (p : Int)) ∨ ((∀ p, p < l.length → ¬ KidI l p j) ∧ up.getD j 0 = -1)) :
    Tree (ndOf l) l.length (fun j => up.getD j 0) := by
  have hk := kids_ok h
  have of_kid : ∀ p j, p < l.length → KidI l p j → j < p ∧ up.getD j 0 = (p : Int) := fun p j hp hj => by
    have h1 := h.kid (Nat.zero_le _) (by omega) hj
    rcases hup j (by omega) with ⟨q, hq, hqj, e⟩ | ⟨hno, _⟩
    · rw [h.uniq p q j (by omega) (by omega) (by omega) (by omega) hj hqj]
      rw [h.uniq p q j (by omega) (by omega) (by omega) (by omega) hj hqj] at h1
      exact ⟨h1.2, e⟩
    · exact absurd hj (hno p hp)
  refine ⟨hn, fun i hi => h.kinds i (by omega) (by omega), fun i hi h2 h6 => ?_, fun i hi h23 => ?_, ?_, fun i hi => ?_⟩
  · have hkid : KidI l i (ndOf l i).k0 := (kidI_iff h hi).2 (.inl ⟨h2, h6, rfl⟩)
    exact of_kid i _ hi hkid
  · have hkid : KidI l i (ndOf l i).k1 := (kidI_iff h hi).2 (.inr ⟨h23, rfl⟩)
    have a := of_kid i _ hi hkid
    have b := h.k1 i (by omega) (by omega) h23
    have c := h.k0 i (by omega) (by omega) (by have : (ndOf l i).kind = (rd_T55 l i).f0 := rfl; omega) (by have : (ndOf l i).kind = (rd_T55 l i).f0 := rfl; omega)
    refine ⟨a.1, a.2, ?_⟩
    show (rd_T55 l i).f2.f0.toNat ≠ (rd_T55 l i).f2.f1.toNat
    omega
  · rcases hup (l.length - 1) (by omega) with ⟨q, hq, hqj, e⟩ | ⟨_, e⟩
    · have := h.kid (Nat.zero_le q) (by omega) hqj
      omega
    · exact e
  · obtain ⟨p, _, g2, g3⟩ := h.par i (by omega) (by omega)
    have := of_kid p i (by omega) g3
    exact ⟨p, this.2, by omega, (kidI_iff h (by omega)).1 g3⟩
end Go.Proofs.Ythnfmpieoondaaa.P
end

/- What is right is one tree; what match.parents tells. -/
section
set_option linter.unusedVariables false
set_option linter.unusedSimpArgs false
namespace Go.Proofs.Ythnfmpieoondaaa.P
open Go.RowKit Go.Proofs.YthnfmpieoondaaaW.PrintWords Go.Proofs.Ythnfmpieoondaaa.QA Go.Proofs.Ythnfmpieoondaaa.G Go.Proofs.Ythnfmpieoondaaa.Mt
theorem wrap_pred (a : Nat) (h : a ≤ 1000000) (h1 : 1 ≤ a) : wrap64 ((a : Int) - 1) = ((a - 1 : Nat) : Int) := by unfold wrap64; omega
theorem par_fill (l : List S55) (hl : l.length ≤ 1000000) : ∀ (d i k : Nat) (x : List Int), i + d = l.length → x.length = l.length → d < k → (∀ j, j < i → x.getD j 0 = -1) →
    ∃ x', x'.length = l.length ∧ (∀ j, j < l.length → x'.getD j 0 = -1) ∧ match_parents.l0 k l x (l.length : Int) i = match_parents.l1 (k - d - 1) x' l (l.length : Int) 0 := by
  intro d
  induction d with
  | zero =>
    intro i k x hi hx hk hf
    obtain ⟨k, rfl⟩ : ∃ m, k = m + 1 := ⟨k - 1, by omega⟩
    refine ⟨x, hx, fun j hj => hf j (by omega), ?_⟩
    simp only [match_parents.l0]
    rw [if_neg (by omega)]
    rfl
  | succ d ih =>
    intro i k x hi hx hk hf
    obtain ⟨k, rfl⟩ : ∃ m, k = m + 1 := ⟨k - 1, by omega⟩
    obtain ⟨x', h1, h2, h3⟩ := ih (i + 1) k (x.set i (-1)) (by omega) (by rw [List.length_set, hx]) (by omega) (fun j hj => by
      rw [List.getD_eq_getElem?_getD, List.getElem?_set]
      by_cases e : i = j
      · rw [if_pos e, if_pos (by omega)]; rfl
      · rw [if_neg e, ← List.getD_eq_getElem?_getD]; exact hf j (by omega))
    refine ⟨x', h1, h2, ?_⟩
    simp only [match_parents.l0]
    rw [if_pos (by omega), if_pos (by omega), if_pos (by omega), Int.toNat_natCast, wrap_succ i (by omega), h3]
    congr 1
    omega
theorem getD_set_int (x : List Int) (i j : Nat) (v : Int) (h : i < x.length) : (x.set i v).getD j 0 = if i = j then v else x.getD j 0 := by
  simp only [List.getD_eq_getElem?_getD, List.getElem?_set]
  by_cases e : i = j
  · subst e; simp [h]
  · simp [e]
/-- What has been told of the first m nodes' kids. -/
def Told (l : List S55) (m : Nat) (x : List Int) : Prop := ∀ j, j < l.length → (∃ p, p < m ∧ KidI l p j ∧ x.getD j 0 = (p : Int)) ∨ ((∀ p, p < m → ¬ KidI l p j) ∧ x.getD j 0 = -1)
theorem told_step {l : List S55} (h : SubP l 0 (l.length - 1)) {m : Nat} {x x' : List Int} (hm : m < l.length) (ht : Told l m x) (hx : ∀ j, j < l.length → (KidI l m j ∧ x'.getD j 0 = (m : Int)) ∨ (¬ KidI l m j ∧ x'.getD j 0 = x.getD j 0)) : Told l (m + 1) x' := by
  intro j hj
  rcases hx j hj with ⟨a, b⟩ | ⟨a, b⟩
  · exact .inl ⟨m, by omega, a, b⟩
  · rcases ht j hj with ⟨p, h1, h2, h3⟩ | ⟨h1, h2⟩
    · exact .inl ⟨p, by omega, h2, by rw [b, h3]⟩
    · refine .inr ⟨fun p hp => ?_, by rw [b, h2]⟩
      by_cases e : p = m
      · rw [e]; exact a
      · exact h1 p (by omega)
theorem par_loop {l : List S55} (hl : l.length ≤ 1000000) (h : SubP l 0 (l.length - 1)) : ∀ (d m k : Nat) (x : List Int), m + d = l.length → x.length = l.length → 2 * d < k → Told l m x →
    ∃ x', x'.length = l.length ∧ Told l l.length x' ∧ match_parents.l1 k x l (l.length : Int) m = some x' := by
  intro d
  induction d with
  | zero =>
    intro m k x hm hx hk ht
    obtain ⟨k, rfl⟩ : ∃ j, k = j + 1 := ⟨k - 1, by omega⟩
    obtain rfl : m = l.length := by omega
    refine ⟨x, hx, ht, ?_⟩
    simp only [match_parents.l1]
    rw [if_neg (by omega)]
  | succ d ih =>
    intro m k x hm hx hk ht
    obtain ⟨k, rfl⟩ : ∃ j, k = j + 2 := ⟨k - 2, by omega⟩
    have kinds := h.kinds m (by omega) (by omega)
    have k0 := h.k0 m (by omega) (by omega)
    have k1 := h.k1 m (by omega) (by omega)
    have go : ∀ x' : List Int, x'.length = l.length → Told l (m + 1) x' → ∃ x'', x''.length = l.length ∧ Told l l.length x'' ∧ match_parents.l1 k x' l (l.length : Int) (wrap64 ((m : Int) + 1)) = some x'' := fun x' h1 h2 => by
      rw [wrap_succ m (by omega)]
      exact ih (m + 1) k x' (by omega) h1 (by omega) h2
    simp only [match_parents.l1]
    rw [if_pos (by omega), if_pos (by omega), if_pos (by omega)]
    by_cases h23 : (rd_T55 l m).f0 = 2 ∨ (rd_T55 l m).f0 = 3
    · have e1 := k1 h23
      have e0 := k0 (by omega) (by omega)
      obtain ⟨a, ha⟩ := Int.eq_ofNat_of_zero_le (show 0 ≤ (rd_T55 l m).f2.f0 by omega)
      obtain ⟨b, hb⟩ := Int.eq_ofNat_of_zero_le (show 0 ≤ (rd_T55 l m).f2.f1 by omega)
      have hT : Told l (m + 1) ((x.set b m).set a m) := told_step h (by omega) ht (fun j hj => by
        rw [getD_set_int _ _ _ _ (by rw [List.length_set]; omega)]
        by_cases ea : a = j
        · rw [if_pos ea]; exact .inl ⟨.inl ⟨by omega, by omega, by omega⟩, rfl⟩
        · rw [if_neg ea, getD_set_int _ _ _ _ (by omega)]
          by_cases eb : b = j
          · rw [if_pos eb]; exact .inl ⟨.inr ⟨h23, by omega⟩, rfl⟩
          · rw [if_neg eb]
            refine .inr ⟨?_, rfl⟩
            rintro (⟨_, _, z⟩ | ⟨_, z⟩) <;> omega)
      obtain ⟨x'', g1, g2, g3⟩ := go _ (by rw [List.length_set, List.length_set, hx]) hT
      refine ⟨x'', g1, g2, ?_⟩
      by_cases c2 : (rd_T55 l m).f0 = 2
      · rw [if_pos c2]
        simp only [match_parents.j2]
        rw [if_pos (beq_iff_eq.2 c2), if_pos (by omega), if_pos (by omega), if_pos (by omega), if_pos (by omega), ha, hb, Int.toNat_natCast, Int.toNat_natCast]
        exact g3
      · rw [if_neg c2]
        simp only [match_parents.j2]
        rw [if_pos (beq_iff_eq.2 (by omega)), if_pos (by omega), if_pos (by omega), if_pos (by omega), if_pos (by omega), ha, hb, Int.toNat_natCast, Int.toNat_natCast]
        exact g3
    · rw [if_neg (by omega)]
      simp only [match_parents.j2]
      rw [if_neg (show ¬ ((rd_T55 l m).f0 == 3) = true by rw [beq_iff_eq]; omega)]
      by_cases h456 : 4 ≤ (rd_T55 l m).f0 ∧ (rd_T55 l m).f0 ≤ 6
      · have e0 := k0 (by omega) (by omega)
        obtain ⟨a, ha⟩ := Int.eq_ofNat_of_zero_le (show 0 ≤ (rd_T55 l m).f2.f0 by omega)
        have hT : Told l (m + 1) (x.set a m) := told_step h (by omega) ht (fun j hj => by
          rw [getD_set_int _ _ _ _ (by omega)]
          by_cases ea : a = j
          · rw [if_pos ea]; exact .inl ⟨.inl ⟨by omega, by omega, by omega⟩, rfl⟩
          · rw [if_neg ea]
            refine .inr ⟨?_, rfl⟩
            rintro (⟨_, _, z⟩ | ⟨z, _⟩) <;> omega)
        obtain ⟨x'', g1, g2, g3⟩ := go _ (by rw [List.length_set, hx]) hT
        refine ⟨x'', g1, g2, ?_⟩
        by_cases c4 : (rd_T55 l m).f0 = 4
        · rw [if_pos c4, if_pos (by omega), if_pos (by omega), ha, Int.toNat_natCast]; exact g3
        rw [if_neg c4]
        by_cases c5 : (rd_T55 l m).f0 = 5
        · rw [if_pos c5, if_pos (by omega), if_pos (by omega), ha, Int.toNat_natCast]; exact g3
        rw [if_neg c5, if_pos (by omega), if_pos (by omega), if_pos (by omega), ha, Int.toNat_natCast]; exact g3
      · rw [if_neg (by omega), if_neg (by omega), if_neg (by omega)]
        have hT : Told l (m + 1) x := told_step h (by omega) ht (fun j hj => .inr ⟨by rintro (⟨_, _, z⟩ | ⟨z, _⟩) <;> omega, rfl⟩)
        obtain ⟨x'', g1, g2, g3⟩ := go _ hx hT
        exact ⟨x'', g1, g2, g3⟩
theorem parents_spec {l : List S55} (hl : l.length ≤ 1000000) (h : SubP l 0 (l.length - 1)) : ∃ up, up.length = l.length ∧ Told l l.length up ∧ ∀ k, 4 * l.length + 4 < k → match_parents.f k l = some up := by
  obtain ⟨x', h1, h2, h3⟩ := par_fill l hl l.length 0 (3 * l.length + 4) (List.replicate l.length 0) (by omega) (by simp) (by omega) (fun j hj => by omega)
  obtain ⟨up, g1, g2, g3⟩ := par_loop hl h l.length 0 (3 * l.length + 4 - l.length - 1) x' (by omega) h1 (by omega) (fun j hj => .inr ⟨fun p hp => by omega, h2 j hj⟩)
  refine ⟨up, g1, g2, fun k hk => ?_⟩
  have : match_parents.f (3 * l.length + 4) l = some up := by
    unfold match_parents.f
    rw [if_pos (by omega), if_pos (by omega), Option.bind_some, Int.toNat_natCast, List.length_replicate]
    exact h3.trans g3
  exact at_rounds (fun k => match_parents.mono l k) (by omega) this
end Go.Proofs.Ythnfmpieoondaaa.P
end

/- What few says; where a right tree ends. -/
section
set_option linter.unusedVariables false
set_option linter.unusedSimpArgs false
namespace Go.Proofs.Ythnfmpieoondaaa.P
open Go.RowKit Go.Proofs.YthnfmpieoondaaaW.PrintWords Go.Proofs.Ythnfmpieoondaaa.QA Go.Proofs.Ythnfmpieoondaaa.G Go.Proofs.Ythnfmpieoondaaa.Mt
/-- A right tree: all that is wanted of it. -/
structure Rt (l : List S55) (s : ByteArray) : Prop where
  pos : 0 < l.length
  sub : SubT l 0 (l.length - 1)
  ok : ∀ x, x ∈ l → Ok55 x
  big : l.length * (s.size + 1) ≤ 10000
theorem Rt.tree {l : List S55} {s : ByteArray} (h : Rt l s) : ∃ up, up.length = l.length ∧ Tree (ndOf l) l.length (fun j => up.getD j 0) ∧ ∀ k, 4 * l.length + 4 < k → match_parents.f k l = some up := by
  have hl : l.length ≤ 1000000 := by
    have : l.length * 1 ≤ l.length * (s.size + 1) := Nat.mul_le_mul_left _ (by omega)
    have := h.big
    omega
  obtain ⟨up, h1, h2, h3⟩ := parents_spec hl h.sub.prop
  exact ⟨up, h1, tree_of h.pos h.sub.prop h2, h3⟩
/-- Both come to all places. -/
theorem ends_both {l : List S55} {s : ByteArray} (h : Rt l s) (a : Nat) (ha : a ≤ s.size) : ∀ k, 100000 ≤ k → match_ends.f k l s a = some (EL l s a) ∧ ref06_from1.f k l s a = some (EL l s a) := by
  obtain ⟨up, h1, T, h3⟩ := h.tree
  have hK := kids_ok h.sub.prop
  have hb := h.big
  have hl : l.length * 1 ≤ l.length * (s.size + 1) := Nat.mul_le_mul_left _ (by omega)
  have hs : 1 * (s.size + 1) ≤ l.length * (s.size + 1) := Nat.mul_le_mul_right _ h.pos
  intro k hk
  refine ⟨?_, from1_spec T hK h.ok (by omega) a ha k (by omega)⟩
  unfold match_ends.f
  rw [if_pos ⟨h.pos, by omega, by omega, by omega, by omega⟩, h3 k (by omega), Option.bind_some, if_pos h1]
  exact ends_spec T hK (by omega) a ha k (by omega)
end Go.Proofs.Ythnfmpieoondaaa.P
end
