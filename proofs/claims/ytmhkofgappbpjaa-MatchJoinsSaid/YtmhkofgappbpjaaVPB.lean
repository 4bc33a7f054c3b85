/- Texts of this seat, put together: each part tells above it what it proves and on what conditions. -/
import Derived.Test.YtmhkofgappbpjaaVPA
import Derived.Test.YtmhkofgappbpjaaVOP
import Derived.Laws.BitsLemmas
import Derived.Test.YtmhkofgappbpjaaVQCx2
import Derived.Test.YtmhkofgappbpjaaVQCx5
import Derived.Test.YtmhkofgappbpjaaVQCx3
/- dragomanref06's moves are the same. -/
section
set_option linter.unusedVariables false
set_option linter.unusedSimpArgs false
namespace Go.Proofs.Ytmhkofgappbpjaa.P
open Go.RowKit Go.Proofs.YtmhkofgappbpjaaW.PrintWords Go.Proofs.Ytmhkofgappbpjaa.QA Go.Proofs.Ytmhkofgappbpjaa.QB Go.Proofs.Ytmhkofgappbpjaa.G Go.Proofs.Ytmhkofgappbpjaa.Mt
def to78 (x : St) : S78 := ⟨x.node, x.ended, x.at_⟩
theorem parent_step (k : Nat) (l : List S42) (i j : Int) (h0 : 0 ≤ j) (h1 : j < l.length) : dragomanref06_parent.l0 (k + 1) l i j =
    if ((rd_T42 l j).f0 ≥ 2 ∧ (rd_T42 l j).f0 ≤ 6 ∧ (rd_T42 l j).f2.f0 = i) ∨ (((rd_T42 l j).f0 = 2 ∨ (rd_T42 l j).f0 = 3) ∧ (rd_T42 l j).f2.f1 = i) then some j else dragomanref06_parent.l0 k l i (wrap64 (j + 1)) := by
  generalize hR : dragomanref06_parent.l0 k l i (wrap64 (j + 1)) = R
  unfold dragomanref06_parent.l0
  rw [if_pos h1, if_pos h0, hR]
  generalize (rd_T42 l j).f0 = A
  generalize (rd_T42 l j).f2.f0 = B
  generalize (rd_T42 l j).f2.f1 = C
  by_cases c1 : B = i <;> by_cases c2 : C = i <;> by_cases c3 : A = 2 <;> by_cases c4 : A = 3 <;> by_cases c5 : A ≥ 2 <;> by_cases c6 : A ≤ 6 <;> (first | (exfalso; omega) | (simp [c1, c2, c3, c4, c5, c6]; done))
section
variable {l : List S42} {s : ByteArray} {up : List Int}
theorem kid_up (T : Tree (ndOf l) l.length (fun j => up.getD j 0)) {p i : Nat} (hp : p < l.length) (h : HasKid (ndOf l) p i) : i < p ∧ up.getD i 0 = (p : Int) := by
  rcases h with ⟨h1, h2, h3⟩ | ⟨h1, h3⟩
  · obtain ⟨a, b⟩ := T.kid0 p hp h1 h2
    rw [h3] at a b
    exact ⟨a, b⟩
  · obtain ⟨a, b, _⟩ := T.kid1 p hp h1
    rw [h3] at a b
    exact ⟨a, b⟩
theorem kid_int (hK : KidsOk l) {p i : Nat} (hp : p < l.length) : (((rd_T42 l p).f0 ≥ 2 ∧ (rd_T42 l p).f0 ≤ 6 ∧ (rd_T42 l p).f2.f0 = (i : Int)) ∨ (((rd_T42 l p).f0 = 2 ∨ (rd_T42 l p).f0 = 3) ∧ (rd_T42 l p).f2.f1 = (i : Int))) ↔ HasKid (ndOf l) p i := by
  obtain ⟨k0, k1⟩ := hK p hp
  have hn : ndOf l p = ⟨(rd_T42 l p).f0, hasB (rd_T42 l p).f1, (rd_T42 l p).f2.f0.toNat, (rd_T42 l p).f2.f1.toNat⟩ := rfl
  unfold HasKid
  rw [hn]
  dsimp only
  constructor
  · rintro (⟨h1, h2, h3⟩ | ⟨h1, h3⟩)
    · exact .inl ⟨h1, h2, by omega⟩
    · exact .inr ⟨h1, by omega⟩
  · rintro (⟨h1, h2, h3⟩ | ⟨h1, h3⟩)
    · have := k0 h1 h2; exact .inl ⟨h1, h2, by omega⟩
    · have := k1 h1; exact .inr ⟨h1, by omega⟩
theorem parent_eq (T : Tree (ndOf l) l.length (fun j => up.getD j 0)) (hK : KidsOk l) (hl : l.length ≤ 1000000) (i p : Nat) (hp : p < l.length) (hk : HasKid (ndOf l) p i) : ∀ (d j k : Nat), j + d = p → d < k → dragomanref06_parent.l0 k l i j = some (p : Int) := by
  intro d
  induction d with
  | zero =>
    intro j k hj hd
    obtain ⟨k, rfl⟩ : ∃ m, k = m + 1 := ⟨k - 1, by omega⟩
    have : j = p := by omega
    subst this
    rw [parent_step k l i j (by omega) (by omega), if_pos ((kid_int hK hp).2 hk)]
  | succ d ih =>
    intro j k hj hd
    obtain ⟨k, rfl⟩ : ∃ m, k = m + 1 := ⟨k - 1, by omega⟩
    have hne : ¬ HasKid (ndOf l) j i := fun h => by
      have h1 := (kid_up T (by omega) h).2
      have h2 := (kid_up T hp hk).2
      omega
    rw [parent_step k l i j (by omega) (by omega), if_neg (fun z => hne ((kid_int hK (by omega)).1 z)), show wrap64 ((j : Int) + 1) = ((j + 1 : Nat) : Int) by unfold wrap64; omega]
    exact ih (j + 1) k (by omega) (by omega)
theorem beyond_eq (T : Tree (ndOf l) l.length (fun j => up.getD j 0)) (hK : KidsOk l) (hl : l.length ≤ 1000000) (i a : Nat) (hi : i < l.length - 1) (k : Nat) (hk : l.length + 2 < k) :
    dragomanref06_beyond.f k l i true a = some ((moves (ndOf l) s.size (sb s) (fun j => up.getD j 0) ⟨i, true, a⟩).map to78) := by
  obtain ⟨p, hp0, hpn, hkid⟩ := T.par i hi
  have hp : up.getD i 0 = (p : Nat) := hp0
  have hip := (kid_up T hpn hkid).1
  have h1 := parent_eq T hK hl i p hpn hkid (p - (i + 1)) (i + 1) k (by omega) (by omega)
  unfold dragomanref06_beyond.f dragomanref06_parent.f
  rw [show wrap64 ((i : Int) + 1) = ((i + 1 : Nat) : Int) by unfold wrap64; omega, h1, Option.bind_some, if_pos (by omega), if_pos (by omega)]
  have hmv : moves (ndOf l) s.size (sb s) (fun j => up.getD j 0) ⟨i, true, a⟩ = if (rd_T42 l p).f0 = 4 ∨ (rd_T42 l p).f0 = 5 then [⟨p, true, a⟩, ⟨i, false, a⟩] else if (rd_T42 l p).f0 = 2 ∧ (rd_T42 l p).f2.f0.toNat = i then [⟨(rd_T42 l p).f2.f1.toNat, false, a⟩] else [⟨p, true, a⟩] := by
    unfold moves
    rw [if_pos rfl]
    dsimp only
    rw [if_neg (by rw [hp]; omega), hp, Int.toNat_natCast]
    rfl
  rw [hmv]
  obtain ⟨k, rfl⟩ : ∃ m, k = m + 1 := ⟨k - 1, by omega⟩
  obtain ⟨k0, k1⟩ := hK p hpn
  by_cases c2 : (rd_T42 l p).f0 = 2
  · rw [if_pos c2]
    simp only [dragomanref06_beyond.j0]
    have z0 := k0 (by omega) (by omega)
    have z1 := k1 (.inl c2)
    rw [if_neg (show ¬ ((rd_T42 l p).f0 = 4 ∨ (rd_T42 l p).f0 = 5) by omega)]
    by_cases c0 : (rd_T42 l p).f2.f0 = (i : Int)
    · rw [if_pos (beq_iff_eq.2 c0), if_pos (by omega), if_pos (by omega), if_pos ⟨c2, by omega⟩]
      simp only [List.map_cons, List.map_nil, to78, Option.some.injEq, List.cons.injEq, S78.mk.injEq, and_true, true_and]
      omega
    · rw [if_neg (fun z => c0 (beq_iff_eq.1 z)), if_pos (by omega), if_pos (by omega), if_neg (by omega), if_neg (by omega), if_neg (by omega)]
      rfl
  · rw [if_neg c2]
    simp only [dragomanref06_beyond.j0]
    rw [if_neg (show ¬ false = true by decide), if_pos (by omega), if_pos (by omega), if_neg (show ¬ ((rd_T42 l p).f0 = 2 ∧ (rd_T42 l p).f2.f0.toNat = i) by omega)]
    by_cases c4 : (rd_T42 l p).f0 = 4
    · rw [if_pos c4, if_pos (.inl c4)]; rfl
    rw [if_neg c4]
    by_cases c5 : (rd_T42 l p).f0 = 5
    · rw [if_pos c5, if_pos (.inr c5)]; rfl
    rw [if_neg c5, if_neg (by omega)]; rfl
theorem wrap_u64 (n : Int) (h0 : 0 ≤ n) (h1 : n < 2 ^ 64) : IntKind.u64.wrap n = n := by
  simp only [IntKind.wrap, IntKind.bits, IntKind.signed]
  simp
  omega
theorem sel_ok (y : S39) (hy : Ok39 y) (i : Int) : 0 ≤ sel y.f0 y.f1 y.f2 y.f3 i ∧ sel y.f0 y.f1 y.f2 y.f3 i < 2 ^ 64 := by
  obtain ⟨h0, h1, h2, h3⟩ := hy
  have b0 := bounds_u64 h0
  have b1 := bounds_u64 h1
  have b2 := bounds_u64 h2
  have b3 := bounds_u64 h3
  unfold sel
  split
  · omega
  split
  · omega
  split <;> omega
theorem half_eq (v : Int) (n : Nat) (h0 : 0 ≤ v) (h1 : v < 2 ^ 64) (hn : n < 64) : ((IntKind.u64.wrap (Int.tdiv v (IntKind.u64.wrap (2 ^ n)))).tmod 2 == 1) = (bits .and .u64 (v / 2 ^ n) 1 == 1) := by
  have hp : (0 : Int) < 2 ^ n := by exact Int.pow_pos (by decide)
  have hp2 : (2 : Int) ^ n < 2 ^ 64 := Int.pow_lt_pow_of_lt (by decide) hn
  rw [wrap_u64 (2 ^ n) (Int.le_of_lt hp) hp2, Int.tdiv_eq_ediv_of_nonneg h0]
  have q0 : 0 ≤ v / 2 ^ n := Int.ediv_nonneg h0 (Int.le_of_lt hp)
  have q1 : v / 2 ^ n < 2 ^ 64 := Int.lt_of_le_of_lt (Int.ediv_le_self _ h0) h1
  rw [wrap_u64 _ q0 q1, Int.tmod_eq_emod_of_nonneg q0]
  have := bits_mask .u64 64 (by decide) wrap_u64 1 (by decide) (v / 2 ^ n) q0 q1
  rw [show (2 : Int) ^ 1 - 1 = 1 from rfl, show (2 : Int) ^ 1 = 2 from rfl] at this
  rw [this]
theorem ref_has (y : S39) (hy : Ok39 y) (c : Nat) (h : c ≤ 255) : ref04_Has.f y.f0 y.f1 y.f2 y.f3 (c : Int) = some (hasB y c) := by
  unfold ref04_Has.f hasB
  rw [if_pos ⟨by omega, by omega⟩]
  obtain ⟨h0, h1⟩ := sel_ok y hy ((c : Int) / 64)
  rw [half_eq _ _ h0 h1 (by omega)]
theorem ok_at (hO : ∀ x, x ∈ l → Ok42 x) (i : Nat) (hi : i < l.length) : Ok42 (rd_T42 l i) := by
  unfold rd_T42
  rw [Int.toNat_natCast, List.getD_eq_getElem?_getD, List.getElem?_eq_getElem hi]
  exact hO _ (List.getElem_mem hi)
theorem wrap_succ (a : Nat) (h : a ≤ 1000000) : wrap64 ((a : Int) + 1) = ((a + 1 : Nat) : Int) := by unfold wrap64; omega
set_option maxHeartbeats 4000000 in
theorem within_eq (T : Tree (ndOf l) l.length (fun j => up.getD j 0)) (hK : KidsOk l) (hO : ∀ x, x ∈ l → Ok42 x) (i a : Nat) (hi : i < l.length) (ha : a ≤ s.size) (hs : s.size ≤ 100000) (k : Nat) (hk : 5 < k) :
    dragomanref06_within.f k l s i false a = some ((moves (ndOf l) s.size (sb s) (fun j => up.getD j 0) ⟨i, false, a⟩).map to78) := by
  have kinds : 0 ≤ (rd_T42 l i).f0 ∧ (rd_T42 l i).f0 ≤ 8 := T.kinds i hi
  obtain ⟨k0, k1⟩ := hK i hi
  have hok := ok_at hO i hi
  have hmv : moves (ndOf l) s.size (sb s) (fun j => up.getD j 0) ⟨i, false, a⟩ = if (rd_T42 l i).f0 = 0 ∨ ((rd_T42 l i).f0 = 7 ∧ a = 0) ∨ ((rd_T42 l i).f0 = 8 ∧ a = s.size) then [⟨i, true, a⟩]
    else if (rd_T42 l i).f0 = 1 then (if a < s.size ∧ hasB (rd_T42 l i).f1 (sb s a) = true then [⟨i, true, a + 1⟩] else [])
    else if (rd_T42 l i).f0 = 2 ∨ (rd_T42 l i).f0 = 5 then [⟨(rd_T42 l i).f2.f0.toNat, false, a⟩]
    else if (rd_T42 l i).f0 = 3 then [⟨(rd_T42 l i).f2.f0.toNat, false, a⟩, ⟨(rd_T42 l i).f2.f1.toNat, false, a⟩]
    else if (rd_T42 l i).f0 = 4 ∨ (rd_T42 l i).f0 = 6 then [⟨i, true, a⟩, ⟨(rd_T42 l i).f2.f0.toNat, false, a⟩]
    else [] := by
    unfold moves
    rw [if_neg (show ¬ false = true by decide)]
    rfl
  rw [hmv]
  obtain ⟨k, rfl⟩ : ∃ m, k = m + 5 := ⟨k - 5, by omega⟩
  unfold dragomanref06_within.f
  rw [if_pos (by omega), if_pos (by omega), bt_sb, ref_has _ hok.2.1 _ (sb_le s a), Option.bind_some]
  simp only [dragomanref06_within.j0, dragomanref06_within.j1, dragomanref06_within.j2]
  generalize (rd_T42 l i).f0 = A at *
  generalize hB : (rd_T42 l i).f2.f0 = B at *
  generalize hC : (rd_T42 l i).f2.f1 = C at *
  generalize hasB (rd_T42 l i).f1 (sb s a) = R at *
  have e7 : ((a : Int) = 0) = (a = 0) := by apply propext; omega
  have e8 : ((a : Int) = (s.size : Int)) = (a = s.size) := by apply propext; omega
  have e1 : ((a : Int) < (s.size : Int)) = (a < s.size) := by apply propext; omega
  have hA : A = 0 ∨ A = 1 ∨ A = 2 ∨ A = 3 ∨ A = 4 ∨ A = 5 ∨ A = 6 ∨ A = 7 ∨ A = 8 := by omega
  have hc2 : A = 2 ∨ A = 3 ∨ A = 4 ∨ A = 5 ∨ A = 6 → ((B.toNat : Nat) : Int) = B := fun h => by have := k0 (by omega) (by omega); omega
  have hc3 : A = 3 → ((C.toNat : Nat) : Int) = C := fun h => by have := k1 (.inr h); omega
  have hw := wrap_succ a (by omega)
  simp only [hw, e7, e8, e1]
  clear hw
  rcases hA with h | h | h | h | h | h | h | h | h
  · simp [h, to78]
  · by_cases q : a < s.size <;> cases R <;> simp [h, q, to78]
  · have := hc2 (by omega); simp [h, to78, this]
  · have := hc2 (by omega); have := hc3 h; simp [h, to78, *]
  · have := hc2 (by omega); simp [h, to78, this]
  · have := hc2 (by omega); simp [h, to78, this]
  · have := hc2 (by omega); simp [h, to78, this]
  · by_cases q : a = 0 <;> simp [h, q, to78]
  · by_cases q : a = s.size <;> simp [h, q, to78]
end
end Go.Proofs.Ytmhkofgappbpjaa.P
end

/- dragomanref06.from1 comes to all places to which the tree stands, as match.ends does. -/
section
set_option linter.unusedVariables false
set_option linter.unusedSimpArgs false
namespace Go.Proofs.Ytmhkofgappbpjaa.P
open Go.RowKit Go.Proofs.YtmhkofgappbpjaaW.PrintWords Go.Proofs.Ytmhkofgappbpjaa.QA Go.Proofs.Ytmhkofgappbpjaa.QB Go.Proofs.Ytmhkofgappbpjaa.G Go.Proofs.Ytmhkofgappbpjaa.Mt
def ix2 (m : Nat) (x : St) : Nat := (x.node * m + x.at_) * 2 + (if x.ended = true then 1 else 0)
theorem ix2_lt {n m : Nat} {x : St} (h : Vl n m x) : ix2 m x < n * m * 2 := by
  have := idx_lt h.1 h.2
  unfold ix2
  split <;> omega
theorem ix2_inj {n m : Nat} {x y : St} (hx : Vl n m x) (hy : Vl n m y) (h : ix2 m x = ix2 m y) : x = y := by
  obtain ⟨i, e, a⟩ := x
  obtain ⟨j, f, b⟩ := y
  unfold ix2 at h
  dsimp only at h
  have he : e = f := by cases e <;> cases f <;> simp at h <;> first | rfl | omega
  subst he
  obtain ⟨rfl, rfl⟩ := div_mod_eq hx.2 hy.2 (show i * m + a = j * m + b by split at h <;> omega)
  rfl
section
variable {l : List S42} {s : ByteArray} {up : List Int}
theorem moves_two (nd : Nat → Nd) (L : Nat) (b : Nat → Nat) (u : Nat → Int) (x : St) : (moves nd L b u x).length ≤ 2 := by
  unfold moves
  by_cases h1 : x.ended = true
  · rw [if_pos h1]
    by_cases h2 : u x.node < 0
    · rw [if_pos h2]; simp
    · rw [if_neg h2]
      dsimp only
      split
      · simp
      · split <;> simp
  · rw [if_neg h1]
    repeat' split
    all_goals simp
theorem ok_mv2 (T : Tree (ndOf l) l.length (fun j => up.getD j 0)) : Ok (moves (ndOf l) s.size (sb s) (fun j => up.getD j 0)) (ix2 (s.size + 1)) (l.length * (s.size + 1) * 2) (Vl l.length (s.size + 1)) :=
  ⟨fun x y hx hy h => ix2_inj hx hy h, fun x hx => ix2_lt hx, fun x y hx hy => moves_valid T x y hx hy⟩
theorem from1L_run (T : Tree (ndOf l) l.length (fun j => up.getD j 0)) (hK : KidsOk l) (hO : ∀ x, x ∈ l → Ok42 x) (hs : s.size ≤ 100000) (hl : l.length ≤ 100000) : ∀ (j : Nat) (out seen : List Bool) (wait : List St) (r : List Bool), (∀ x, x ∈ wait → Vl l.length (s.size + 1) x) → wait.length + 2 * j ≤ 1000000 →
    run2 (moves (ndOf l) s.size (sb s) (fun j => up.getD j 0)) (ix2 (s.size + 1)) (l.length - 1) j out seen wait = some r → from1L l s (j + (l.length + 10)) out seen (wait.map to78) = some r
  | 0, _, _, _, _, _, _, h => by cases h
  | j + 1, out, seen, wait, r, hv, hc, h => by
    rw [show j + 1 + (l.length + 10) = (j + (l.length + 10)) + 1 by omega]
    unfold run2 at h
    unfold from1L
    rw [getLast_map]
    cases hg : wait.getLast? with
    | none => rw [hg] at h; exact h
    | some x =>
      rw [hg] at h
      obtain ⟨init, rfl⟩ := List.getLast?_eq_some_iff.1 hg
      have hx := hv x (by simp)
      have hc' : init.length + 1 + 2 * (j + 1) ≤ 1000000 := by simpa using hc
      have hvi : ∀ y, y ∈ init → Vl l.length (s.size + 1) y := fun y hy => hv y (by simp [hy])
      rw [Option.map_some]
      dsimp only at h ⊢
      rw [List.dropLast_concat] at h
      rw [List.map_append, List.map_cons, List.map_nil, List.dropLast_concat]
      obtain ⟨i, e, a⟩ := x
      have h1 := hx.1
      have h2 := hx.2
      dsimp only at h1 h2 h
      rw [show (to78 ⟨i, e, a⟩).f0 = (i : Int) from rfl, show (to78 ⟨i, e, a⟩).f1 = e from rfl, show (to78 ⟨i, e, a⟩).f2 = (a : Int) from rfl]
      rw [if_pos ⟨by omega, by omega, by omega, by omega, by simp; omega⟩, Int.toNat_natCast, Int.toNat_natCast]
      rw [show (i * (s.size + 1) + a) * 2 + (if e = true then 1 else 0) = ix2 (s.size + 1) ⟨i, e, a⟩ from rfl]
      by_cases hsv : seen.getD (ix2 (s.size + 1) ⟨i, e, a⟩) false = true
      · rw [if_pos hsv] at h ⊢
        exact from1L_run T hK hO hs hl j out seen init r hvi (by omega) h
      rw [if_neg hsv] at h ⊢
      have hvm := fun y hy => moves_valid (s := s) T ⟨i, e, a⟩ y hx hy
      have hm2 := moves_two (ndOf l) s.size (sb s) (fun j => up.getD j 0) ⟨i, e, a⟩
      have hvn : ∀ y, y ∈ init ++ moves (ndOf l) s.size (sb s) (fun j => up.getD j 0) ⟨i, e, a⟩ → Vl l.length (s.size + 1) y := fun y hy => (List.mem_append.1 hy).elim (hvi y) (hvm y)
      cases e with
      | true =>
        rw [if_pos rfl]
        by_cases hr : i = l.length - 1
        · rw [if_pos ⟨rfl, hr⟩] at h
          rw [if_pos (by omega)]
          exact from1L_run T hK hO hs hl j _ _ init r hvi (by omega) h
        · rw [if_neg (fun z => hr z.2)] at h
          rw [if_neg (by omega), beyond_eq (s := s) T hK (by omega) i a (by omega) _ (by omega), Option.bind_some, if_pos (by rw [List.length_map]; omega), ← List.map_append]
          exact from1L_run T hK hO hs hl j _ _ _ r hvn (by rw [List.length_append]; omega) h
      | false =>
        rw [if_neg (fun z => by cases z.1)] at h
        rw [if_neg (show ¬ false = true by decide), within_eq T hK hO i a h1 (by omega) hs _ (by omega), Option.bind_some, if_pos (by rw [List.length_map]; omega), ← List.map_append]
        exact from1L_run T hK hO hs hl j _ _ _ r hvn (by rw [List.length_append]; omega) h
theorem from1_spec (T : Tree (ndOf l) l.length (fun j => up.getD j 0)) (hK : KidsOk l) (hO : ∀ x, x ∈ l → Ok42 x) (hb : l.length * (s.size + 1) ≤ 50000) (a : Nat) (ha : a ≤ s.size) (k : Nat) (hk : 6 * (l.length * (s.size + 1)) + l.length + 12 ≤ k) :
    ref06_from1.f k l s a = some (EL l s a) := by
  have hn := T.pos
  have hs : s.size ≤ 100000 := by
    have : 1 * (s.size + 1) ≤ l.length * (s.size + 1) := Nat.mul_le_mul_right _ (by omega)
    omega
  have hl : l.length ≤ 100000 := by
    have : l.length * 1 ≤ l.length * (s.size + 1) := Nat.mul_le_mul_left _ (by omega)
    omega
  have hst : Vl l.length (s.size + 1) ⟨l.length - 1, false, a⟩ := ⟨by show l.length - 1 < _; omega, by show a < _; omega⟩
  unfold ref06_from1.f
  rw [if_pos ⟨by omega, by omega, hs, hl, by omega⟩]
  have hI : Inv2 (moves (ndOf l) s.size (sb s) (fun j => up.getD j 0)) (ix2 (s.size + 1)) (l.length - 1) (l.length * (s.size + 1) * 2) (s.size + 1) (Vl l.length (s.size + 1)) ⟨l.length - 1, false, a⟩ (List.replicate (s.size + 1) false) (List.replicate (l.length * (s.size + 1) * 2) false) [⟨l.length - 1, false, a⟩] := by
    refine ⟨by simp, by simp, ?_, ?_, ?_, .inl (by simp), ?_, ?_⟩
    · intro x hx
      simp at hx; subst hx
      exact ⟨hst, .refl _⟩
    · intro x hx h
      rw [repl_get] at h; cases h
    · intro x hx h
      rw [repl_get] at h; cases h
    · intro q h
      rw [repl_get] at h; cases h
    · intro q hq h
      rw [repl_get] at h; cases h
  obtain ⟨out', h3, h4, h5⟩ := run2_spec (ok_mv2 (s := s) T) (moves_two _ _ _ _) (s.size + 1) ⟨l.length - 1, false, a⟩ (root := l.length - 1) (fun q hq => ⟨hq.2, by
      unfold moves
      rw [if_pos rfl, if_pos ((up_root T _ hq.1).2 rfl)]⟩) hst (6 * (l.length * (s.size + 1)) + 2) _ _ _ hI (by rw [fls_repl]; simp only [List.length_cons, List.length_nil]; omega)
  have h6 := from1L_run T hK hO hs hl (6 * (l.length * (s.size + 1)) + 2) _ _ _ _ (fun x hx => by simp at hx; subst hx; exact hst) (by simp only [List.length_cons, List.length_nil]; omega) h3
  have h7 : out' = EL l s a := by
    apply bools_ext (by rw [h4, EL_length])
    intro b hb2
    rw [h4] at hb2
    rw [h5 b ⟨by show l.length - 1 < _; omega, hb2⟩, EL_get l s a b (by omega)]
    exact Mt.steps_iff T
  rw [h7] at h6
  have h8 := at_rounds (fun k => from1L_mono l s k _ _ _) (show 6 * (l.length * (s.size + 1)) + 2 + (l.length + 10) ≤ k by omega) h6
  rw [List.map_cons, List.map_nil, show to78 ⟨l.length - 1, false, a⟩ = (⟨(l.length : Int) - 1, false, (a : Int)⟩ : S78) by unfold to78; simp; omega] at h8
  exact h8
end
end Go.Proofs.Ytmhkofgappbpjaa.P
end

/- A right tree: each node but the root is one's kid, and of one alone; match.parents tells whose. -/
section
set_option linter.unusedVariables false
set_option linter.unusedSimpArgs false
namespace Go.Proofs.Ytmhkofgappbpjaa.P
open Go.RowKit Go.Proofs.YtmhkofgappbpjaaW.PrintWords Go.Proofs.Ytmhkofgappbpjaa.QA Go.Proofs.Ytmhkofgappbpjaa.G Go.Proofs.Ytmhkofgappbpjaa.Mt
/-- p has j as a kid. -/
def KidI (l : List S42) (p j : Nat) : Prop := (2 ≤ (rd_T42 l p).f0 ∧ (rd_T42 l p).f0 ≤ 6 ∧ (rd_T42 l p).f2.f0 = (j : Int)) ∨ (((rd_T42 l p).f0 = 2 ∨ (rd_T42 l p).f0 = 3) ∧ (rd_T42 l p).f2.f1 = (j : Int))
/-- The nodes from b to i are one tree. -/
inductive SubT (l : List S42) : Nat → Nat → Prop
  | leaf {i : Nat} : ((rd_T42 l i).f0 = 0 ∨ (rd_T42 l i).f0 = 1 ∨ (rd_T42 l i).f0 = 7 ∨ (rd_T42 l i).f0 = 8) → SubT l i i
  | un {b i : Nat} : 1 ≤ i → 4 ≤ (rd_T42 l i).f0 → (rd_T42 l i).f0 ≤ 6 → (rd_T42 l i).f2.f0 = (i : Int) - 1 → SubT l b (i - 1) → SubT l b i
  | bin {b c i : Nat} : 1 ≤ i → ((rd_T42 l i).f0 = 2 ∨ (rd_T42 l i).f0 = 3) → SubT l c (i - 1) → 1 ≤ c → (rd_T42 l i).f2.f0 = (c : Int) - 1 → (rd_T42 l i).f2.f1 = (i : Int) - 1 → SubT l b (c - 1) → SubT l b i
structure SubP (l : List S42) (b i : Nat) : Prop where
  le : b ≤ i
  kinds : ∀ j, b ≤ j → j ≤ i → 0 ≤ (rd_T42 l j).f0 ∧ (rd_T42 l j).f0 ≤ 8
  k0 : ∀ j, b ≤ j → j ≤ i → 2 ≤ (rd_T42 l j).f0 → (rd_T42 l j).f0 ≤ 6 → (b : Int) ≤ (rd_T42 l j).f2.f0 ∧ (rd_T42 l j).f2.f0 < j
  k1 : ∀ j, b ≤ j → j ≤ i → ((rd_T42 l j).f0 = 2 ∨ (rd_T42 l j).f0 = 3) → (b : Int) ≤ (rd_T42 l j).f2.f1 ∧ (rd_T42 l j).f2.f1 < j ∧ (rd_T42 l j).f2.f0 ≠ (rd_T42 l j).f2.f1
  par : ∀ j, b ≤ j → j < i → ∃ p, b ≤ p ∧ p ≤ i ∧ KidI l p j
  uniq : ∀ p q j, b ≤ p → p ≤ i → b ≤ q → q ≤ i → KidI l p j → KidI l q j → p = q
theorem SubP.kid {l : List S42} {b i : Nat} (h : SubP l b i) {p j : Nat} (h1 : b ≤ p) (h2 : p ≤ i) (h3 : KidI l p j) : b ≤ j ∧ j < p := by
  rcases h3 with ⟨a, c, d⟩ | ⟨a, d⟩
  · have := h.k0 p h1 h2 a c; omega
  · have := h.k1 p h1 h2 a; omega
theorem SubT.prop {l : List S42} {b i : Nat} (h : SubT l b i) : SubP l b i := by
  induction h with
  | @leaf i hk =>
    refine ⟨Nat.le_refl _, fun j h1 h2 => ?_, fun j h1 h2 h3 h4 => ?_, fun j h1 h2 h3 => ?_, fun j h1 h2 => by omega, fun p q j h1 h2 h3 h4 _ _ => by omega⟩
    · obtain rfl : j = i := by omega
      omega
    · obtain rfl : j = i := by omega
      omega
    · obtain rfl : j = i := by omega
      omega
  | @un b i hi h4 h6 h0 _ ih =>
    have hle := ih.le
    have root : ∀ j, KidI l i j → j = i - 1 := fun j hj => by
      rcases hj with ⟨_, _, d⟩ | ⟨a, _⟩ <;> omega
    refine ⟨by omega, fun j h1 h2 => ?_, fun j h1 h2 h3 h5 => ?_, fun j h1 h2 h3 => ?_, fun j h1 h2 => ?_, fun p q j h1 h2 h3 h5 hp hq => ?_⟩
    · by_cases e : j = i
      · subst e; omega
      · exact ih.kinds j h1 (by omega)
    · by_cases e : j = i
      · subst e; omega
      · exact ih.k0 j h1 (by omega) h3 h5
    · by_cases e : j = i
      · subst e; omega
      · exact ih.k1 j h1 (by omega) h3
    · by_cases e : j = i - 1
      · exact ⟨i, by omega, Nat.le_refl _, .inl ⟨by omega, h6, by omega⟩⟩
      · obtain ⟨p, g1, g2, g3⟩ := ih.par j h1 (by omega)
        exact ⟨p, g1, by omega, g3⟩
    · by_cases e : p = i <;> by_cases f : q = i
      · omega
      · subst e
        have := root j hp
        have := (ih.kid h3 (by omega) hq).2
        omega
      · subst f
        have := root j hq
        have := (ih.kid h1 (by omega) hp).2
        omega
      · exact ih.uniq p q j h1 (by omega) h3 (by omega) hp hq
  | @bin b c i hi hk _ hc h0 h1' _ ihr ihl =>
    have hl1 := ihl.le
    have hr1 := ihr.le
    have root : ∀ j, KidI l i j → j = c - 1 ∨ j = i - 1 := fun j hj => by
      rcases hj with ⟨_, _, d⟩ | ⟨a, d⟩ <;> omega
    refine ⟨by omega, fun j h1 h2 => ?_, fun j h1 h2 h3 h5 => ?_, fun j h1 h2 h3 => ?_, fun j h1 h2 => ?_, fun p q j h1 h2 h3 h5 hp hq => ?_⟩
    · by_cases e : j = i
      · subst e; omega
      by_cases f : j < c
      · exact ihl.kinds j h1 (by omega)
      · exact ihr.kinds j (by omega) (by omega)
    · by_cases e : j = i
      · subst e; omega
      by_cases f : j < c
      · exact ihl.k0 j h1 (by omega) h3 h5
      · have := ihr.k0 j (by omega) (by omega) h3 h5; omega
    · by_cases e : j = i
      · subst e; omega
      by_cases f : j < c
      · exact ihl.k1 j h1 (by omega) h3
      · have := ihr.k1 j (by omega) (by omega) h3
        exact ⟨by omega, this.2.1, this.2.2⟩
    · by_cases e : j = i - 1
      · exact ⟨i, by omega, Nat.le_refl _, .inr ⟨hk, by omega⟩⟩
      by_cases e2 : j = c - 1
      · exact ⟨i, by omega, Nat.le_refl _, .inl ⟨by omega, by omega, by omega⟩⟩
      by_cases f : j < c
      · obtain ⟨p, g1, g2, g3⟩ := ihl.par j h1 (by omega)
        exact ⟨p, g1, by omega, g3⟩
      · obtain ⟨p, g1, g2, g3⟩ := ihr.par j (by omega) (by omega)
        exact ⟨p, by omega, by omega, g3⟩
    · have left : ∀ p, b ≤ p → p < c → KidI l p j → b ≤ j ∧ j < p := fun p a b k => ihl.kid a (by omega) k
      have right : ∀ p, c ≤ p → p < i → KidI l p j → c ≤ j ∧ j < p := fun p a b k => ihr.kid a (by omega) k
      by_cases e : p = i <;> by_cases f : q = i
      · omega
      · subst e
        have z := root j hp
        by_cases g : q < c
        · have := left q h3 g hq; omega
        · have := right q (by omega) (by omega) hq; omega
      · subst f
        have z := root j hq
        by_cases g : p < c
        · have := left p h1 g hp; omega
        · have := right p (by omega) (by omega) hp; omega
      · by_cases g : p < c <;> by_cases g2 : q < c
        · exact ihl.uniq p q j h1 (by omega) h3 (by omega) hp hq
        · have := left p h1 g hp; have := right q (by omega) (by omega) hq; omega
        · have := right p (by omega) (by omega) hp; have := left q h3 g2 hq; omega
        · exact ihr.uniq p q j (by omega) (by omega) (by omega) (by omega) hp hq
theorem kids_ok {l : List S42} (h : SubP l 0 (l.length - 1)) : KidsOk l := fun i hi => ⟨fun a b => by have := h.k0 i (by omega) (by omega) a b; omega, fun a => by have := h.k1 i (by omega) (by omega) a; omega⟩
theorem kidI_iff {l : List S42} (h : SubP l 0 (l.length - 1)) {p j : Nat} (hp : p < l.length) : KidI l p j ↔ HasKid (ndOf l) p j := kid_int (kids_ok h) hp
theorem tree_of {l : List S42} {up : List Int} (hn : 0 < l.length) (h : SubP l 0 (l.length - 1)) (hup : ∀ j, j < l.length → (∃ p, p < l.length ∧ KidI l p j ∧ up.getD j 0 = (p : Int)) ∨ ((∀ p, p < l.length → ¬ KidI l p j) ∧ up.getD j 0 = -1)) :
    Tree (ndOf l) l.length (fun j => up.getD j 0) := by
  have hk := kids_ok h
  have of_kid : ∀ p j, p < l.length → KidI l p j → j < p ∧ up.getD j 0 = (p : Int) := fun p j hp hj => by
    have h1 := h.kid (Nat.zero_le _) (by omega) hj
    rcases hup j (by omega) with ⟨q, hq, hqj, e⟩ | ⟨hno, _⟩
    · rw [h.uniq p q j (by omega) (by omega) (by omega) (by omega) hj hqj]
      rw [h.uniq p q j (by omega) (by omega) (by omega) (by omega) hj hqj] at h1
      exact ⟨h1.2, e⟩
    · exact absurd hj (hno p hp)
  refine ⟨hn, fun i hi => h.kinds i (by omega) (by omega), fun i hi h2 h6 => ?_, fun i hi h23 => ?_, ?_, fun i hi => ?_⟩
  · have hkid : KidI l i (ndOf l i).k0 := (kidI_iff h hi).2 (.inl ⟨h2, h6, rfl⟩)
    exact of_kid i _ hi hkid
  · have hkid : KidI l i (ndOf l i).k1 := (kidI_iff h hi).2 (.inr ⟨h23, rfl⟩)
    have a := of_kid i _ hi hkid
    have b := h.k1 i (by omega) (by omega) h23
    have c := h.k0 i (by omega) (by omega) (by have : (ndOf l i).kind = (rd_T42 l i).f0 := rfl; omega) (by have : (ndOf l i).kind = (rd_T42 l i).f0 := rfl; omega)
    refine ⟨a.1, a.2, ?_⟩
    show (rd_T42 l i).f2.f0.toNat ≠ (rd_T42 l i).f2.f1.toNat
    omega
  · rcases hup (l.length - 1) (by omega) with ⟨q, hq, hqj, e⟩ | ⟨_, e⟩
    · have := h.kid (Nat.zero_le q) (by omega) hqj
      omega
    · exact e
  · obtain ⟨p, _, g2, g3⟩ := h.par i (by omega) (by omega)
    have := of_kid p i (by omega) g3
    exact ⟨p, this.2, by omega, (kidI_iff h (by omega)).1 g3⟩
end Go.Proofs.Ytmhkofgappbpjaa.P
end

/- What is right is one tree; what match.parents tells. -/
section
set_option linter.unusedVariables false
set_option linter.unusedSimpArgs false
namespace Go.Proofs.Ytmhkofgappbpjaa.P
open Go.RowKit Go.Proofs.YtmhkofgappbpjaaW.PrintWords Go.Proofs.Ytmhkofgappbpjaa.QA Go.Proofs.Ytmhkofgappbpjaa.G Go.Proofs.Ytmhkofgappbpjaa.Mt
theorem par_fill (l : List S42) (hl : l.length ≤ 1000000) : ∀ (d i k : Nat) (x : List Int), i + d = l.length → x.length = l.length → d < k → (∀ j, j < i → x.getD j 0 = -1) →
    ∃ x', x'.length = l.length ∧ (∀ j, j < l.length → x'.getD j 0 = -1) ∧ match_parents.l0 k l x (l.length : Int) i = match_parents.l1 (k - d - 1) x' l (l.length : Int) 0 := by
  intro d
  induction d with
  | zero =>
    intro i k x hi hx hk hf
    obtain ⟨k, rfl⟩ : ∃ m, k = m + 1 := ⟨k - 1, by omega⟩
    refine ⟨x, hx, fun j hj => hf j (by omega), ?_⟩
    simp only [match_parents.l0]
    rw [if_neg (by omega)]
    rfl
  | succ d ih =>
    intro i k x hi hx hk hf
    obtain ⟨k, rfl⟩ : ∃ m, k = m + 1 := ⟨k - 1, by omega⟩
    obtain ⟨x', h1, h2, h3⟩ := ih (i + 1) k (x.set i (-1)) (by omega) (by rw [List.length_set, hx]) (by omega) (fun j hj => by
      rw [List.getD_eq_getElem?_getD, List.getElem?_set]
      by_cases e : i = j
      · rw [if_pos e, if_pos (by omega)]; rfl
      · rw [if_neg e, ← List.getD_eq_getElem?_getD]; exact hf j (by omega))
    refine ⟨x', h1, h2, ?_⟩
    simp only [match_parents.l0]
    rw [if_pos (by omega), if_pos (by omega), if_pos (by omega), Int.toNat_natCast, wrap_succ i (by omega), h3]
    congr 1
    omega
theorem getD_set_int (x : List Int) (i j : Nat) (v : Int) (h : i < x.length) : (x.set i v).getD j 0 = if i = j then v else x.getD j 0 := by
  simp only [List.getD_eq_getElem?_getD, List.getElem?_set]
  by_cases e : i = j
  · subst e; simp [h]
  · simp [e]
/-- What has been told of the first m nodes' kids. -/
def Told (l : List S42) (m : Nat) (x : List Int) : Prop := ∀ j, j < l.length → (∃ p, p < m ∧ KidI l p j ∧ x.getD j 0 = (p : Int)) ∨ ((∀ p, p < m → ¬ KidI l p j) ∧ x.getD j 0 = -1)
theorem told_step {l : List S42} (h : SubP l 0 (l.length - 1)) {m : Nat} {x x' : List Int} (hm : m < l.length) (ht : Told l m x) (hx : ∀ j, j < l.length → (KidI l m j ∧ x'.getD j 0 = (m : Int)) ∨ (¬ KidI l m j ∧ x'.getD j 0 = x.getD j 0)) : Told l (m + 1) x' := by
  intro j hj
  rcases hx j hj with ⟨a, b⟩ | ⟨a, b⟩
  · exact .inl ⟨m, by omega, a, b⟩
  · rcases ht j hj with ⟨p, h1, h2, h3⟩ | ⟨h1, h2⟩
    · exact .inl ⟨p, by omega, h2, by rw [b, h3]⟩
    · refine .inr ⟨fun p hp => ?_, by rw [b, h2]⟩
      by_cases e : p = m
      · rw [e]; exact a
      · exact h1 p (by omega)
theorem par_loop {l : List S42} (hl : l.length ≤ 1000000) (h : SubP l 0 (l.length - 1)) : ∀ (d m k : Nat) (x : List Int), m + d = l.length → x.length = l.length → 2 * d < k → Told l m x →
    ∃ x', x'.length = l.length ∧ Told l l.length x' ∧ match_parents.l1 k x l (l.length : Int) m = some x' := by
  intro d
  induction d with
  | zero =>
    intro m k x hm hx hk ht
    obtain ⟨k, rfl⟩ : ∃ j, k = j + 1 := ⟨k - 1, by omega⟩
    obtain rfl : m = l.length := by omega
    refine ⟨x, hx, ht, ?_⟩
    simp only [match_parents.l1]
    rw [if_neg (by omega)]
  | succ d ih =>
    intro m k x hm hx hk ht
    obtain ⟨k, rfl⟩ : ∃ j, k = j + 2 := ⟨k - 2, by omega⟩
    have kinds := h.kinds m (by omega) (by omega)
    have k0 := h.k0 m (by omega) (by omega)
    have k1 := h.k1 m (by omega) (by omega)
    have go : ∀ x' : List Int, x'.length = l.length → Told l (m + 1) x' → ∃ x'', x''.length = l.length ∧ Told l l.length x'' ∧ match_parents.l1 k x' l (l.length : Int) (wrap64 ((m : Int) + 1)) = some x'' := fun x' h1 h2 => by
      rw [wrap_succ m (by omega)]
      exact ih (m + 1) k x' (by omega) h1 (by omega) h2
    simp only [match_parents.l1]
    rw [if_pos (by omega), if_pos (by omega), if_pos (by omega)]
    by_cases h23 : (rd_T42 l m).f0 = 2 ∨ (rd_T42 l m).f0 = 3
    · have e1 := k1 h23
      have e0 := k0 (by omega) (by omega)
      obtain ⟨a, ha⟩ := Int.eq_ofNat_of_zero_le (show 0 ≤ (rd_T42 l m).f2.f0 by omega)
      obtain ⟨b, hb⟩ := Int.eq_ofNat_of_zero_le (show 0 ≤ (rd_T42 l m).f2.f1 by omega)
      have hT : Told l (m + 1) ((x.set b m).set a m) := told_step h (by omega) ht (fun j hj => by
        rw [getD_set_int _ _ _ _ (by rw [List.length_set]; omega)]
        by_cases ea : a = j
        · rw [if_pos ea]; exact .inl ⟨.inl ⟨by omega, by omega, by omega⟩, rfl⟩
        · rw [if_neg ea, getD_set_int _ _ _ _ (by omega)]
          by_cases eb : b = j
          · rw [if_pos eb]; exact .inl ⟨.inr ⟨h23, by omega⟩, rfl⟩
          · rw [if_neg eb]
            refine .inr ⟨?_, rfl⟩
            rintro (⟨_, _, z⟩ | ⟨_, z⟩) <;> omega)
      obtain ⟨x'', g1, g2, g3⟩ := go _ (by rw [List.length_set, List.length_set, hx]) hT
      refine ⟨x'', g1, g2, ?_⟩
      by_cases c2 : (rd_T42 l m).f0 = 2
      · rw [if_pos c2]
        simp only [match_parents.j2]
        rw [if_pos (beq_iff_eq.2 c2), if_pos (by omega), if_pos (by omega), if_pos (by omega), if_pos (by omega), ha, hb, Int.toNat_natCast, Int.toNat_natCast]
        exact g3
      · rw [if_neg c2]
        simp only [match_parents.j2]
        rw [if_pos (beq_iff_eq.2 (by omega)), if_pos (by omega), if_pos (by omega), if_pos (by omega), if_pos (by omega), ha, hb, Int.toNat_natCast, Int.toNat_natCast]
        exact g3
    · rw [if_neg (by omega)]
      simp only [match_parents.j2]
      rw [if_neg (show ¬ ((rd_T42 l m).f0 == 3) = true by rw [beq_iff_eq]; omega)]
      by_cases h456 : 4 ≤ (rd_T42 l m).f0 ∧ (rd_T42 l m).f0 ≤ 6
      · have e0 := k0 (by omega) (by omega)
        obtain ⟨a, ha⟩ := Int.eq_ofNat_of_zero_le (show 0 ≤ (rd_T42 l m).f2.f0 by omega)
        have hT : Told l (m + 1) (x.set a m) := told_step h (by omega) ht (fun j hj => by
          rw [getD_set_int _ _ _ _ (by omega)]
          by_cases ea : a = j
          · rw [if_pos ea]; exact .inl ⟨.inl ⟨by omega, by omega, by omega⟩, rfl⟩
          · rw [if_neg ea]
            refine .inr ⟨?_, rfl⟩
            rintro (⟨_, _, z⟩ | ⟨z, _⟩) <;> omega)
        obtain ⟨x'', g1, g2, g3⟩ := go _ (by rw [List.length_set, hx]) hT
        refine ⟨x'', g1, g2, ?_⟩
        by_cases c4 : (rd_T42 l m).f0 = 4
        · rw [if_pos c4, if_pos (by omega), if_pos (by omega), ha, Int.toNat_natCast]; exact g3
        rw [if_neg c4]
        by_cases c5 : (rd_T42 l m).f0 = 5
        · rw [if_pos c5, if_pos (by omega), if_pos (by omega), ha, Int.toNat_natCast]; exact g3
        rw [if_neg c5, if_pos (by omega), if_pos (by omega), if_pos (by omega), ha, Int.toNat_natCast]; exact g3
      · rw [if_neg (by omega), if_neg (by omega), if_neg (by omega)]
        have hT : Told l (m + 1) x := told_step h (by omega) ht (fun j hj => .inr ⟨by rintro (⟨_, _, z⟩ | ⟨z, _⟩) <;> omega, rfl⟩)
        obtain ⟨x'', g1, g2, g3⟩ := go _ hx hT
        exact ⟨x'', g1, g2, g3⟩
theorem parents_spec {l : List S42} (hl : l.length ≤ 1000000) (h : SubP l 0 (l.length - 1)) : ∃ up, up.length = l.length ∧ Told l l.length up ∧ ∀ k, 4 * l.length + 4 < k → match_parents.f k l = some up := by
  obtain ⟨x', h1, h2, h3⟩ := par_fill l hl l.length 0 (3 * l.length + 4) (List.replicate l.length 0) (by omega) (by simp) (by omega) (fun j hj => by omega)
  obtain ⟨up, g1, g2, g3⟩ := par_loop hl h l.length 0 (3 * l.length + 4 - l.length - 1) x' (by omega) h1 (by omega) (fun j hj => .inr ⟨fun p hp => by omega, h2 j hj⟩)
  refine ⟨up, g1, g2, fun k hk => ?_⟩
  have : match_parents.f (3 * l.length + 4) l = some up := by
    unfold match_parents.f
    rw [if_pos (by omega), if_pos (by omega), Option.bind_some, Int.toNat_natCast, List.length_replicate]
    exact h3.trans g3
  exact at_rounds (fun k => match_parents.mono l k) (by omega) this
end Go.Proofs.Ytmhkofgappbpjaa.P
end

/- What few says; where a right tree ends. -/
section
set_option linter.unusedVariables false
set_option linter.unusedSimpArgs false
namespace Go.Proofs.Ytmhkofgappbpjaa.P
open Go.RowKit Go.Proofs.YtmhkofgappbpjaaW.PrintWords Go.Proofs.Ytmhkofgappbpjaa.QA Go.Proofs.Ytmhkofgappbpjaa.G Go.Proofs.Ytmhkofgappbpjaa.Mt
theorem many_eq (k : Nat) (hk : 3 ≤ k) (a : Int) : dragomanref05_many.f k a = some (if a = 2 ∨ a = 3 then 2 else if 4 ≤ a ∧ a ≤ 6 then 1 else if a = 0 ∨ a = 1 ∨ a = 7 ∨ a = 8 then 0 else -1) := by
  obtain ⟨k, rfl⟩ : ∃ m, k = m + 2 := ⟨k - 2, by omega⟩
  unfold dragomanref05_many.f
  by_cases c2 : a = 2
  · rw [if_pos c2, if_pos (.inl c2)]; simp only [dragomanref05_many.j0, if_true]
  rw [if_neg c2]
  simp only [dragomanref05_many.j0]
  by_cases c3 : a = 3
  · rw [if_pos (beq_iff_eq.2 c3), if_pos (.inr c3)]
  rw [if_neg (fun z => c3 (beq_iff_eq.1 z)), if_neg (show ¬ (a = 2 ∨ a = 3) by omega)]
  by_cases c4 : a ≥ 4
  · rw [if_pos c4]
    simp only [dragomanref05_many.j1]
    by_cases c6 : a ≤ 6
    · rw [if_pos (decide_eq_true c6), if_pos ⟨c4, c6⟩]
    rw [if_neg (by simpa using c6), if_neg (show ¬ (4 ≤ a ∧ a ≤ 6) by omega), if_neg (by omega), if_neg (by omega)]
    by_cases c7 : a = 7
    · rw [if_pos c7, if_pos (by omega)]
    rw [if_neg c7]
    by_cases c8 : a = 8
    · rw [if_pos c8, if_pos (by omega)]
    rw [if_neg c8, if_neg (by omega)]
  · rw [if_neg c4]
    simp only [dragomanref05_many.j1]
    rw [if_neg (show ¬ false = true by decide), if_neg (show ¬ (4 ≤ a ∧ a ≤ 6) by omega)]
    by_cases c0 : a = 0
    · rw [if_pos c0, if_pos (by omega)]
    rw [if_neg c0]
    by_cases c1 : a = 1
    · rw [if_pos c1, if_pos (by omega)]
    rw [if_neg c1, if_neg (by omega), if_neg (by omega), if_neg (by omega)]
theorem begin_neg (l : List S42) (k : Nat) (hk : 1 ≤ k) (i : Int) (hi : i < 0) : dragomanref05_begin.f k l i = some (-1) := by
  obtain ⟨k, rfl⟩ : ∃ m, k = m + 1 := ⟨k - 1, by omega⟩
  simp only [dragomanref05_begin.f]
  rw [if_pos hi]
theorem bne_or {a b c d : Int} : ((!(a == b) || !(c == d)) = true) ↔ ¬ (a = b ∧ c = d) := by
  by_cases h : a = b <;> by_cases h2 : c = d <;> simp [h, h2]
theorem begin_spec (l : List S42) (hl : l.length ≤ 100000) : ∀ (d i k : Nat), i < d → i < l.length → 2 * d + 10 ≤ k → ∃ r, dragomanref05_begin.f k l i = some r ∧ (r = -1 ∨ ∃ b : Nat, r = (b : Int) ∧ SubT l b i) := by
  intro d
  induction d with
  | zero => intro i k h; omega
  | succ d ih =>
    intro i k hi hil hk
    obtain ⟨k, rfl⟩ : ∃ m, k = m + 2 := ⟨k - 2, by omega⟩
    have prev : ∀ q : Int, q < (i : Int) → q < l.length → ∃ r, dragomanref05_begin.f k l q = some r ∧ (r = -1 ∨ ∃ b j : Nat, q = (j : Int) ∧ r = (b : Int) ∧ SubT l b j) := fun q hq hq2 => by
      by_cases hn : q < 0
      · exact ⟨-1, begin_neg l k (by omega) q hn, .inl rfl⟩
      · obtain ⟨j, rfl⟩ := Int.eq_ofNat_of_zero_le (show 0 ≤ q by omega)
        obtain ⟨r, h1, h2⟩ := ih j k (by omega) (by omega) (by omega)
        exact ⟨r, h1, h2.imp id (fun ⟨b, e, h⟩ => ⟨b, j, rfl, e, h⟩)⟩
    have hw : ∃ q : Int, wrap64 ((i : Int) - 1) = q ∧ q = (i : Int) - 1 := ⟨_, rfl, by unfold wrap64; omega⟩
    obtain ⟨q, hw, hq⟩ := hw
    simp only [dragomanref05_begin.f]
    rw [if_neg (by omega), if_pos (by omega), if_pos (by omega), many_eq _ (by omega), Option.bind_some]
    by_cases b23 : (rd_T42 l i).f0 = 2 ∨ (rd_T42 l i).f0 = 3
    · rw [if_pos b23, if_neg (by omega), if_neg (by omega)]
      simp only [dragomanref05_begin.j0]
      split
      · exact ⟨-1, rfl, .inl rfl⟩
      rw [if_neg (show ¬ (2 : Int) = 0 by omega), if_neg (show ¬ (2 : Int) = 1 by omega), hw]
      obtain ⟨r, h1, h2⟩ := prev q (by omega) (by omega)
      rw [h1, Option.bind_some]
      split
      · exact ⟨-1, rfl, .inl rfl⟩
      rename_i hr1
      rcases h2 with rfl | ⟨c, j, hj, rfl, hs⟩
      · omega
      have hj' : j = i - 1 := by omega
      subst hj'
      have hw2 : wrap64 ((c : Int) - 1) = (c : Int) - 1 := by
        have := hs.prop.le
        unfold wrap64; omega
      rw [hw2]
      split
      · exact ⟨-1, rfl, .inl rfl⟩
      rename_i hkk
      rw [bne_or] at hkk
      have hkk := Decidable.not_not.1 hkk
      obtain ⟨r, h3, h4⟩ := prev ((c : Int) - 1) (by have := hs.prop.le; omega) (by have := hs.prop.le; omega)
      rw [h3, Option.bind_some]
      refine ⟨r, rfl, h4.imp id ?_⟩
      rintro ⟨b, j, hj, rfl, hs2⟩
      have hj' : j = c - 1 := by omega
      subst hj'
      exact ⟨b, rfl, .bin (by omega) b23 hs (by omega) hkk.1 (by rw [hkk.2, hq]) hs2⟩
    rw [if_neg b23]
    by_cases b46 : 4 ≤ (rd_T42 l i).f0 ∧ (rd_T42 l i).f0 ≤ 6
    · rw [if_pos b46, if_neg (by omega), if_neg (by omega)]
      simp only [dragomanref05_begin.j0]
      split
      · exact ⟨-1, rfl, .inl rfl⟩
      rw [if_neg (show ¬ (1 : Int) = 0 by omega), if_pos trivial, hw]
      split
      · exact ⟨-1, rfl, .inl rfl⟩
      rename_i hkk
      rw [bne_or] at hkk
      have hkk := Decidable.not_not.1 hkk
      obtain ⟨r, h3, h4⟩ := prev q (by omega) (by omega)
      rw [h3, Option.bind_some]
      refine ⟨r, rfl, h4.imp id ?_⟩
      rintro ⟨b, j, hj, rfl, hs2⟩
      have hj' : j = i - 1 := by omega
      subst hj'
      exact ⟨b, rfl, .un (by omega) b46.1 b46.2 (by rw [hkk.1, hq]) hs2⟩
    rw [if_neg b46]
    by_cases b0 : (rd_T42 l i).f0 = 0 ∨ (rd_T42 l i).f0 = 1 ∨ (rd_T42 l i).f0 = 7 ∨ (rd_T42 l i).f0 = 8
    · rw [if_pos b0, if_neg (by omega)]
      have fin : ∀ x29 a b c e f g h : _, ∃ r, dragomanref05_begin.j0 (k + 1) l i 0 x29 a b c e f g h = some r ∧ (r = -1 ∨ ∃ b : Nat, r = (b : Int) ∧ SubT l b i) := by
        intro x29 a b c e f g h
        simp only [dragomanref05_begin.j0, if_true]
        split
        · exact ⟨-1, rfl, .inl rfl⟩
        split
        · exact ⟨-1, rfl, .inl rfl⟩
        · exact ⟨_, rfl, .inr ⟨i, rfl, .leaf b0⟩⟩
      split
      · exact fin _ _ _ _ _ _ _ _
      · exact fin _ _ _ _ _ _ _ _
    · rw [if_neg b0, if_pos (by omega)]
      simp only [dragomanref05_begin.j0, if_true]
      exact ⟨-1, rfl, .inl rfl⟩
theorem few_spec (l : List S42) (s : ByteArray) : ∃ b, (∀ k, 200 ≤ k → dragomanlaw06_few.f k l s = some b) ∧ (b = true → l.length ≤ 60 ∧ s.size ≤ 30 ∧ 0 < l.length ∧ SubT l 0 (l.length - 1)) := by
  by_cases h1 : (l.length : Int) ≤ 60
  · by_cases h2 : (s.size : Int) ≤ 30
    · by_cases h3 : (l.length : Int) > 0
      · obtain ⟨r, h4, h5⟩ := begin_spec l (by omega) l.length (l.length - 1) 199 (by omega) (by omega) (by omega)
        have hw : wrap64 ((l.length : Int) - 1) = ((l.length - 1 : Nat) : Int) := by unfold wrap64; omega
        refine ⟨r == 0, fun k hk => ?_, fun hb => ?_⟩
        · have : dragomanlaw06_few.f 199 l s = some (r == 0) := by
            unfold dragomanlaw06_few.f dragomanref05_Right.f
            rw [if_pos h1, if_pos h2, if_pos (by omega), if_pos h3, hw, h4]
            rfl
          exact at_rounds (fun k => dragomanlaw06_few.mono l s k) (by omega) this
        · have h0 : r = 0 := beq_iff_eq.1 hb
          rcases h5 with h5 | ⟨b, e, hs⟩
          · omega
          · obtain rfl : b = 0 := by omega
            exact ⟨by omega, by omega, by omega, hs⟩
      · refine ⟨false, fun k hk => ?_, fun hb => by cases hb⟩
        unfold dragomanlaw06_few.f dragomanref05_Right.f
        rw [if_pos h1, if_pos h2, if_pos (by omega), if_neg h3]
        rfl
    · refine ⟨false, fun k hk => ?_, fun hb => by cases hb⟩
      unfold dragomanlaw06_few.f
      rw [if_pos h1, if_neg h2]
  · refine ⟨false, fun k hk => ?_, fun hb => by cases hb⟩
    unfold dragomanlaw06_few.f
    rw [if_neg h1]
/-- A right tree: all that is wanted of it. -/
structure Rt (l : List S42) (s : ByteArray) : Prop where
  pos : 0 < l.length
  sub : SubT l 0 (l.length - 1)
  ok : ∀ x, x ∈ l → Ok42 x
  big : l.length * (s.size + 1) ≤ 10000
theorem Rt.tree {l : List S42} {s : ByteArray} (h : Rt l s) : ∃ up, up.length = l.length ∧ Tree (ndOf l) l.length (fun j => up.getD j 0) ∧ ∀ k, 4 * l.length + 4 < k → match_parents.f k l = some up := by
  have hl : l.length ≤ 1000000 := by
    have : l.length * 1 ≤ l.length * (s.size + 1) := Nat.mul_le_mul_left _ (by omega)
    have := h.big
    omega
  obtain ⟨up, h1, h2, h3⟩ := parents_spec hl h.sub.prop
  exact ⟨up, h1, tree_of h.pos h.sub.prop h2, h3⟩
/-- Both come to all places. -/
theorem ends_both {l : List S42} {s : ByteArray} (h : Rt l s) (a : Nat) (ha : a ≤ s.size) : ∀ k, 100000 ≤ k → match_ends.f k l s a = some (EL l s a) ∧ ref06_from1.f k l s a = some (EL l s a) := by
  obtain ⟨up, h1, T, h3⟩ := h.tree
  have hK := kids_ok h.sub.prop
  have hb := h.big
  have hl : l.length * 1 ≤ l.length * (s.size + 1) := Nat.mul_le_mul_left _ (by omega)
  have hs : 1 * (s.size + 1) ≤ l.length * (s.size + 1) := Nat.mul_le_mul_right _ h.pos
  intro k hk
  refine ⟨?_, from1_spec T hK h.ok (by omega) a ha k (by omega)⟩
  unfold match_ends.f
  rw [if_pos ⟨h.pos, by omega, by omega, by omega, by omega⟩, h3 k (by omega), Option.bind_some, if_pos h1]
  exact ends_spec T hK (by omega) a ha k (by omega)
end Go.Proofs.Ytmhkofgappbpjaa.P
end

/- Ends, Span and Whole, in plain words. -/
section
set_option linter.unusedVariables false
set_option linter.unusedSimpArgs false
namespace Go.Proofs.Ytmhkofgappbpjaa.P
open Go.RowKit Go.Proofs.YtmhkofgappbpjaaW.PrintWords Go.Proofs.Ytmhkofgappbpjaa.QA Go.Proofs.Ytmhkofgappbpjaa.QB Go.Proofs.Ytmhkofgappbpjaa.QC Go.Proofs.Ytmhkofgappbpjaa.G Go.Proofs.Ytmhkofgappbpjaa.Mt
/-- The places that are meant, from one on. -/
def tr (x : List Bool) : Nat → Nat → List Int
  | 0, _ => []
  | d + 1, i => if x.getD i false = true then (i : Int) :: tr x d (i + 1) else tr x d (i + 1)
theorem tr_mem (x : List Bool) : ∀ (d i : Nat) (v : Int), v ∈ tr x d i ↔ ∃ j : Nat, i ≤ j ∧ j < i + d ∧ x.getD j false = true ∧ v = (j : Int)
  | 0, i, v => by
    simp only [tr, List.not_mem_nil, false_iff]
    rintro ⟨j, h1, h2, _⟩
    omega
  | d + 1, i, v => by
    have ih := tr_mem x d (i + 1) v
    unfold tr
    by_cases h : x.getD i false = true
    · rw [if_pos h, List.mem_cons, ih]
      constructor
      · rintro (rfl | ⟨j, h1, h2, h3, h4⟩)
        · exact ⟨i, by omega, by omega, h, rfl⟩
        · exact ⟨j, by omega, by omega, h3, h4⟩
      · rintro ⟨j, h1, h2, h3, h4⟩
        by_cases e : j = i
        · subst e; exact .inl h4
        · exact .inr ⟨j, by omega, by omega, h3, h4⟩
    · rw [if_neg h, ih]
      constructor
      · rintro ⟨j, h1, h2, h3, h4⟩
        exact ⟨j, by omega, by omega, h3, h4⟩
      · rintro ⟨j, h1, h2, h3, h4⟩
        by_cases e : j = i
        · subst e; exact absurd h3 h
        · exact ⟨j, by omega, by omega, h3, h4⟩
theorem tr_len (x : List Bool) : ∀ d i, (tr x d i).length ≤ d
  | 0, _ => by simp [tr]
  | d + 1, i => by
    have := tr_len x d (i + 1)
    unfold tr
    split <;> simp <;> omega
theorem tr_nil (x : List Bool) (d i : Nat) : (tr x d i).length = 0 ↔ ∀ j, i ≤ j → j < i + d → ¬ x.getD j false = true := by
  constructor
  · intro h j h1 h2 h3
    have := (tr_mem x d i j).2 ⟨j, h1, h2, h3, rfl⟩
    rw [List.length_eq_zero_iff.1 h] at this
    cases this
  · intro h
    rw [List.length_eq_zero_iff, List.eq_nil_iff_forall_not_mem]
    intro v hv
    obtain ⟨j, h1, h2, h3, _⟩ := (tr_mem x d i v).1 hv
    exact h j h1 h2 h3
theorem ends_loop_eq (x : List Bool) (hx : x.length ≤ 100000) : ∀ (d i k : Nat) (acc : List Int), i + d = x.length → d < k → acc.length + d ≤ 100000 → match_Ends.l0 k acc x (x.length : Int) i = some (acc ++ tr x d i) := by
  intro d
  induction d with
  | zero =>
    intro i k acc hi hk ha
    obtain ⟨k, rfl⟩ : ∃ m, k = m + 1 := ⟨k - 1, by omega⟩
    simp only [match_Ends.l0]
    rw [if_neg (by omega)]
    simp [tr]
  | succ d ih =>
    intro i k acc hi hk ha
    obtain ⟨k, rfl⟩ : ∃ m, k = m + 1 := ⟨k - 1, by omega⟩
    simp only [match_Ends.l0]
    rw [if_pos (by omega), if_pos (by omega), if_pos (by omega), wrap_succ i (by omega)]
    have hrd : rdOf false x (i : Int) = x.getD i false := by unfold rdOf; rw [Int.toNat_natCast]
    rw [hrd]
    unfold tr
    by_cases h : x.getD i false = true
    · rw [if_pos h, if_pos (by omega), if_pos h, ih (i + 1) k (acc ++ [(i : Int)]) (by omega) (by omega) (by simp; omega)]
      simp
    · rw [if_neg h, if_neg h]
      exact ih (i + 1) k acc (by omega) (by omega) (by omega)
section
variable {l : List S42} {s : ByteArray}
theorem Rt.size {l : List S42} {s : ByteArray} (h : Rt l s) : s.size ≤ 9999 ∧ l.length ≤ 10000 := by
  have hb := h.big
  have hl : l.length * 1 ≤ l.length * (s.size + 1) := Nat.mul_le_mul_left _ (by omega)
  have hs : 1 * (s.size + 1) ≤ l.length * (s.size + 1) := Nat.mul_le_mul_right _ h.pos
  omega
/-- Where it ends from a on. -/
noncomputable def ends (l : List S42) (s : ByteArray) (a : Nat) : List Int := tr (EL l s a) (s.size + 1) 0
theorem Ends_eq (h : Rt l s) (a : Nat) (ha : a ≤ s.size) (k : Nat) (hk : 100010 ≤ k) : match_Ends.f k l s a = some (ends l s a) := by
  have hz := h.size
  obtain ⟨k, rfl⟩ : ∃ m, k = m + 1 := ⟨k - 1, by omega⟩
  unfold match_Ends.f
  rw [if_neg (by omega)]
  simp only [match_Ends.j0]
  rw [if_neg (by simp; omega), (ends_both h a ha k (by omega)).1, Option.bind_some]
  have := ends_loop_eq (EL l s a) (by rw [EL_length]; omega) (s.size + 1) 0 k [] (by rw [EL_length]; omega) (by omega) (by simp; omega)
  exact this
theorem Ends_out (l : List S42) (s : ByteArray) (a : Int) (ha : a < 0 ∨ (s.size : Int) < a) (k : Nat) (hk : 1 ≤ k) : match_Ends.f k l s a = some [] := by
  obtain ⟨k, rfl⟩ : ∃ m, k = m + 1 := ⟨k - 1, by omega⟩
  unfold match_Ends.f
  by_cases h : a < 0
  · rw [if_pos h]; simp only [match_Ends.j0, if_true]
  · rw [if_neg h]
    simp only [match_Ends.j0]
    rw [if_pos (decide_eq_true (by omega))]
/-- Does it stand from a to b? -/
def Stands (l : List S42) (s : ByteArray) (a b : Nat) : Prop := M (ndOf l) s.size (sb s) (l.length - 1) a b
theorem ends_mem (a : Nat) (v : Int) : v ∈ ends l s a ↔ ∃ b : Nat, b ≤ s.size ∧ Stands l s a b ∧ v = (b : Int) := by
  unfold ends
  rw [tr_mem]
  constructor
  · rintro ⟨j, _, h2, h3, h4⟩
    exact ⟨j, by omega, (EL_get l s a j (by omega)).1 h3, h4⟩
  · rintro ⟨b, h1, h2, h3⟩
    exact ⟨b, by omega, by omega, (EL_get l s a b h1).2 h2, h3⟩
theorem Stands.bound {a b : Nat} (h : Stands l s a b) (ha : a ≤ s.size) : a ≤ b ∧ b ≤ s.size := ⟨M.le _ _ _ h, M.bound _ _ _ h ha⟩
/-- Where it stands first, from one place on. -/
def SpanR (l : List S42) (s : ByteArray) (i : Nat) (r : Int × Int × Bool) : Prop :=
  (∃ a b : Nat, r = ((a : Int), (b : Int), true) ∧ i ≤ a ∧ a ≤ s.size ∧ b ≤ s.size ∧ Stands l s a b ∧ (∀ j, b < j → j ≤ s.size → ¬ Stands l s a j) ∧ ∀ a', i ≤ a' → a' < a → ∀ j, j ≤ s.size → ¬ Stands l s a' j) ∨
  (r = (0, 0, false) ∧ ∀ a', i ≤ a' → a' ≤ s.size → ∀ j, j ≤ s.size → ¬ Stands l s a' j)
theorem SpanR.uniq {i : Nat} {r r' : Int × Int × Bool} (h : SpanR l s i r) (h' : SpanR l s i r') : r = r' := by
  rcases h with ⟨a, b, rfl, h1, h2, h3, h4, h5, h6⟩ | ⟨rfl, h1⟩
  · rcases h' with ⟨a', b', rfl, g1, g2, g3, g4, g5, g6⟩ | ⟨rfl, g1⟩
    · have ha : a = a' := by
        rcases Nat.lt_trichotomy a a' with z | z | z
        · exact absurd h4 (g6 a h1 z b h3)
        · exact z
        · exact absurd g4 (h6 a' g1 z b' g3)
      subst ha
      have hb : b = b' := by
        rcases Nat.lt_trichotomy b b' with z | z | z
        · exact absurd g4 (h5 b' z g3)
        · exact z
        · exact absurd h4 (g5 b z h3)
      subst hb
      rfl
    · exact absurd h4 (g1 a h1 h2 b h3)
  · rcases h' with ⟨a', b', rfl, g1, g2, g3, g4, g5, g6⟩ | ⟨rfl, g1⟩
    · exact absurd g4 (h1 a' g1 g2 b' g3)
    · rfl
end
end Go.Proofs.Ytmhkofgappbpjaa.P
end

/- The law of Spans, in plain words. -/
section
set_option linter.unusedVariables false
set_option linter.unusedSimpArgs false
namespace Go.Proofs.Ytmhkofgappbpjaa.P
open Go.RowKit Go.Proofs.YtmhkofgappbpjaaW.PrintWords Go.Proofs.Ytmhkofgappbpjaa.QA Go.Proofs.Ytmhkofgappbpjaa.QB Go.Proofs.Ytmhkofgappbpjaa.QC Go.Proofs.Ytmhkofgappbpjaa.G Go.Proofs.Ytmhkofgappbpjaa.Mt
set_option maxRecDepth 100000 in
theorem shown_at : dragomanlaw06_shown.f 300 = some true := by decide +kernel
theorem shown_ok (k : Nat) (hk : 300 ≤ k) : dragomanlaw06_shown.f k = some true := at_rounds (fun k => dragomanlaw06_shown.mono k) hk shown_at
section
variable {l : List S42} {s : ByteArray}
/-- What few asks for makes a right tree. -/
theorem Rt.of_few (hok : ∀ x, x ∈ l → Ok42 x) (h1 : l.length ≤ 60) (h2 : s.size ≤ 30) (h3 : 0 < l.length) (h4 : SubT l 0 (l.length - 1)) : Rt l s :=
  ⟨h3, h4, hok, by
    have : l.length * (s.size + 1) ≤ 60 * 31 := Nat.mul_le_mul h1 (by omega)
    omega⟩
end
end Go.Proofs.Ytmhkofgappbpjaa.P
end

/- A tree within a tree; the law of Stars, in plain words. -/
section
set_option linter.unusedVariables false
set_option linter.unusedSimpArgs false
namespace Go.Proofs.Ytmhkofgappbpjaa.P
open Go.RowKit Go.Proofs.YtmhkofgappbpjaaW.PrintWords Go.Proofs.Ytmhkofgappbpjaa.QA Go.Proofs.Ytmhkofgappbpjaa.QB Go.Proofs.Ytmhkofgappbpjaa.QC Go.Proofs.Ytmhkofgappbpjaa.G Go.Proofs.Ytmhkofgappbpjaa.Mt
/-- The nodes of one tree lie within another one, off places further. -/
structure Emb (nd nd' : Nat → Nd) (off n : Nat) : Prop where
  kind : ∀ i, i < n → (nd' (off + i)).kind = (nd i).kind
  mem : ∀ i, i < n → (nd' (off + i)).mem = (nd i).mem
  k0 : ∀ i, i < n → 2 ≤ (nd i).kind → (nd i).kind ≤ 6 → (nd' (off + i)).k0 = off + (nd i).k0 ∧ (nd i).k0 < n
  k1 : ∀ i, i < n → (nd i).kind = 2 ∨ (nd i).kind = 3 → (nd' (off + i)).k1 = off + (nd i).k1 ∧ (nd i).k1 < n
section
variable {nd nd' : Nat → Nd} {off n L : Nat} {sb : Nat → Nat}
theorem Emb.to (E : Emb nd nd' off n) {i a b : Nat} (h : M nd L sb i a b) : i < n → M nd' L sb (off + i) a b := by
  induction h with
  | none hk => intro hi; exact .none (by rw [E.kind _ hi]; exact hk)
  | set hk h1 h2 => intro hi; exact .set (by rw [E.kind _ hi]; exact hk) h1 (by rw [E.mem _ hi]; exact h2)
  | cat hk _ _ ih1 ih2 =>
    intro hi
    obtain ⟨e0, l0⟩ := E.k0 _ hi (by omega) (by omega)
    obtain ⟨e1, l1⟩ := E.k1 _ hi (by omega)
    exact .cat (by rw [E.kind _ hi]; exact hk) (by rw [e0]; exact ih1 l0) (by rw [e1]; exact ih2 l1)
  | alt0 hk _ ih =>
    intro hi
    obtain ⟨e0, l0⟩ := E.k0 _ hi (by omega) (by omega)
    exact .alt0 (by rw [E.kind _ hi]; exact hk) (by rw [e0]; exact ih l0)
  | alt1 hk _ ih =>
    intro hi
    obtain ⟨e1, l1⟩ := E.k1 _ hi (by omega)
    exact .alt1 (by rw [E.kind _ hi]; exact hk) (by rw [e1]; exact ih l1)
  | star0 hk => intro hi; exact .star0 (by rw [E.kind _ hi]; exact hk)
  | star1 hk _ _ ih1 ih2 =>
    intro hi
    obtain ⟨e0, l0⟩ := E.k0 _ hi (by omega) (by omega)
    exact .star1 (by rw [E.kind _ hi]; exact hk) (by rw [e0]; exact ih1 l0) (ih2 hi)
  | plus0 hk _ ih =>
    intro hi
    obtain ⟨e0, l0⟩ := E.k0 _ hi (by omega) (by omega)
    exact .plus0 (by rw [E.kind _ hi]; exact hk) (by rw [e0]; exact ih l0)
  | plus1 hk _ _ ih1 ih2 =>
    intro hi
    obtain ⟨e0, l0⟩ := E.k0 _ hi (by omega) (by omega)
    exact .plus1 (by rw [E.kind _ hi]; exact hk) (by rw [e0]; exact ih1 l0) (ih2 hi)
  | opt0 hk => intro hi; exact .opt0 (by rw [E.kind _ hi]; exact hk)
  | opt1 hk _ ih =>
    intro hi
    obtain ⟨e0, l0⟩ := E.k0 _ hi (by omega) (by omega)
    exact .opt1 (by rw [E.kind _ hi]; exact hk) (by rw [e0]; exact ih l0)
  | bgn hk => intro hi; exact .bgn (by rw [E.kind _ hi]; exact hk)
  | fin hk => intro hi; exact .fin (by rw [E.kind _ hi]; exact hk)
theorem Emb.from (E : Emb nd nd' off n) {j a b : Nat} (h : M nd' L sb j a b) : ∀ i, j = off + i → i < n → M nd L sb i a b := by
  induction h with
  | none hk => rintro i rfl hi; exact .none (by rw [← E.kind _ hi]; exact hk)
  | set hk h1 h2 => rintro i rfl hi; exact .set (by rw [← E.kind _ hi]; exact hk) h1 (by rw [← E.mem _ hi]; exact h2)
  | cat hk _ _ ih1 ih2 =>
    rintro i rfl hi
    rw [E.kind _ hi] at hk
    obtain ⟨e0, l0⟩ := E.k0 _ hi (by omega) (by omega)
    obtain ⟨e1, l1⟩ := E.k1 _ hi (by omega)
    exact .cat hk (ih1 _ e0 l0) (ih2 _ e1 l1)
  | alt0 hk _ ih =>
    rintro i rfl hi
    rw [E.kind _ hi] at hk
    obtain ⟨e0, l0⟩ := E.k0 _ hi (by omega) (by omega)
    exact .alt0 hk (ih _ e0 l0)
  | alt1 hk _ ih =>
    rintro i rfl hi
    rw [E.kind _ hi] at hk
    obtain ⟨e1, l1⟩ := E.k1 _ hi (by omega)
    exact .alt1 hk (ih _ e1 l1)
  | star0 hk => rintro i rfl hi; exact .star0 (by rw [← E.kind _ hi]; exact hk)
  | star1 hk _ _ ih1 ih2 =>
    rintro i rfl hi
    rw [E.kind _ hi] at hk
    obtain ⟨e0, l0⟩ := E.k0 _ hi (by omega) (by omega)
    exact .star1 hk (ih1 _ e0 l0) (ih2 _ rfl hi)
  | plus0 hk _ ih =>
    rintro i rfl hi
    rw [E.kind _ hi] at hk
    obtain ⟨e0, l0⟩ := E.k0 _ hi (by omega) (by omega)
    exact .plus0 hk (ih _ e0 l0)
  | plus1 hk _ _ ih1 ih2 =>
    rintro i rfl hi
    rw [E.kind _ hi] at hk
    obtain ⟨e0, l0⟩ := E.k0 _ hi (by omega) (by omega)
    exact .plus1 hk (ih1 _ e0 l0) (ih2 _ rfl hi)
  | opt0 hk => rintro i rfl hi; exact .opt0 (by rw [← E.kind _ hi]; exact hk)
  | opt1 hk _ ih =>
    rintro i rfl hi
    rw [E.kind _ hi] at hk
    obtain ⟨e0, l0⟩ := E.k0 _ hi (by omega) (by omega)
    exact .opt1 hk (ih _ e0 l0)
  | bgn hk => rintro i rfl hi; exact .bgn (by rw [← E.kind _ hi]; exact hk)
  | fin hk => rintro i rfl hi; exact .fin (by rw [← E.kind _ hi]; exact hk)
end
/-- The same of lists. -/
structure EmbL (l l' : List S42) (off : Nat) : Prop where
  f0 : ∀ j : Nat, j < l.length → (rd_T42 l' ((off + j : Nat) : Int)).f0 = (rd_T42 l (j : Int)).f0
  f1 : ∀ j : Nat, j < l.length → (rd_T42 l' ((off + j : Nat) : Int)).f1 = (rd_T42 l (j : Int)).f1
  k0 : ∀ j : Nat, j < l.length → 2 ≤ (rd_T42 l (j : Int)).f0 → (rd_T42 l (j : Int)).f0 ≤ 6 → (rd_T42 l' ((off + j : Nat) : Int)).f2.f0 = (rd_T42 l (j : Int)).f2.f0 + off
  k1 : ∀ j : Nat, j < l.length → (rd_T42 l (j : Int)).f0 = 2 ∨ (rd_T42 l (j : Int)).f0 = 3 → (rd_T42 l' ((off + j : Nat) : Int)).f2.f1 = (rd_T42 l (j : Int)).f2.f1 + off
theorem EmbL.emb {l l' : List S42} {off : Nat} (E : EmbL l l' off) (hp : 0 < l.length) (h : SubT l 0 (l.length - 1)) : Emb (ndOf l) (ndOf l') off l.length := by
  have P := h.prop
  refine ⟨fun i hi => E.f0 i hi, fun i hi => by unfold ndOf; dsimp only; rw [E.f1 i hi], fun i hi h1 h2 => ?_, fun i hi h1 => ?_⟩
  · have a := E.k0 i hi h1 h2
    have b := P.k0 i (Nat.zero_le _) (by omega) h1 h2
    unfold ndOf
    dsimp only
    rw [a]
    omega
  · have a := E.k1 i hi h1
    have b := P.k1 i (Nat.zero_le _) (by omega) h1
    unfold ndOf
    dsimp only
    rw [a]
    omega
theorem EmbL.sub {l l' : List S42} {off : Nat} (E : EmbL l l' off) {b i : Nat} (h : SubT l b i) : i < l.length → SubT l' (off + b) (off + i) := by
  induction h with
  | @leaf i h => intro hi; exact .leaf (by rw [E.f0 i hi]; exact h)
  | @un b i h1 h2 h3 h4 _ ih =>
    intro hi
    have z := ih (by omega)
    rw [show off + (i - 1) = off + i - 1 from by omega] at z
    exact .un (by omega) (by rw [E.f0 i hi]; exact h2) (by rw [E.f0 i hi]; exact h3) (by rw [E.k0 i hi (by omega) h3]; omega) z
  | @bin b c i h1 h2 h3 h4 h5 h6 h7 ih1 ih2 =>
    intro hi
    have le := h3.prop.le
    have z1 := ih1 (by omega)
    have z2 := ih2 (by omega)
    rw [show off + (i - 1) = off + i - 1 from by omega] at z1
    rw [show off + (c - 1) = off + c - 1 from by omega] at z2
    exact .bin (by omega) (by rw [E.f0 i hi]; exact h2) z1 (by omega) (by rw [E.k0 i hi (by omega) (by omega)]; omega) (by rw [E.k1 i hi h2]; omega) z2
theorem rd_left (l m : List S42) (i : Nat) (h : i < l.length) : rd_T42 (l ++ m) (i : Int) = rd_T42 l (i : Int) := by
  unfold rd_T42
  rw [Int.toNat_natCast, List.getD_eq_getElem?_getD, List.getD_eq_getElem?_getD, List.getElem?_append_left h]
theorem rd_right (l m : List S42) (i : Nat) : rd_T42 (l ++ m) ((l.length + i : Nat) : Int) = rd_T42 m (i : Int) := by
  unfold rd_T42
  rw [Int.toNat_natCast, Int.toNat_natCast, List.getD_eq_getElem?_getD, List.getD_eq_getElem?_getD, List.getElem?_append_right (by omega), Nat.add_sub_cancel_left]
theorem emb_left (l m : List S42) : EmbL l (l ++ m) 0 :=
  ⟨fun j h => by rw [Nat.zero_add, rd_left l m j h], fun j h => by rw [Nat.zero_add, rd_left l m j h], fun j h _ _ => by rw [Nat.zero_add, rd_left l m j h]; omega, fun j h _ => by rw [Nat.zero_add, rd_left l m j h]; omega⟩
theorem wf_i64 {n : Int} (h1 : -9223372036854775808 ≤ n) (h2 : n ≤ 9223372036854775807) : (Lit.int .i64 n).wf = true := by
  simp only [Lit.wf, IntKind.min, IntKind.max, IntKind.signed, IntKind.bits, Bool.and_eq_true, decide_eq_true_eq, if_true]
  omega
end Go.Proofs.Ytmhkofgappbpjaa.P
end

/- The law of Joins, in plain words. -/
section
set_option linter.unusedVariables false
set_option linter.unusedSimpArgs false
namespace Go.Proofs.Ytmhkofgappbpjaa.P
open Go.RowKit Go.Proofs.YtmhkofgappbpjaaW.PrintWords Go.Proofs.Ytmhkofgappbpjaa.QA Go.Proofs.Ytmhkofgappbpjaa.QB Go.Proofs.Ytmhkofgappbpjaa.QC Go.Proofs.Ytmhkofgappbpjaa.G Go.Proofs.Ytmhkofgappbpjaa.Mt
theorem many_is (v : Int) (h0 : 0 ≤ v) (h8 : v ≤ 8) (k : Nat) (hk : 2 ≤ k) : QB.dragomanref05_many.f k v = some (if v = 2 ∨ v = 3 then 2 else if 4 ≤ v ∧ v ≤ 6 then 1 else 0) := by
  obtain ⟨k, rfl⟩ : ∃ m, k = m + 2 := ⟨k - 2, by omega⟩
  have : v = 0 ∨ v = 1 ∨ v = 2 ∨ v = 3 ∨ v = 4 ∨ v = 5 ∨ v = 6 ∨ v = 7 ∨ v = 8 := by omega
  rcases this with rfl | rfl | rfl | rfl | rfl | rfl | rfl | rfl | rfl <;> rfl
/-- A node, its kids told off places further. -/
def shiftN (off : Nat) (x : S42) : S42 := ⟨x.f0, x.f1, ⟨if 2 ≤ x.f0 ∧ x.f0 ≤ 6 then x.f2.f0 + off else x.f2.f0, if x.f0 = 2 ∨ x.f0 = 3 then x.f2.f1 + off else x.f2.f1⟩⟩
/-- Two trees under one node. -/
def joinOf (t u : List S42) (kd : Int) : List S42 := t ++ (u.map (shiftN t.length) ++ [⟨kd, ⟨0, 0, 0, 0⟩, ⟨(t.length : Int) - 1, ((t.length + u.length : Nat) : Int) - 1⟩⟩])
theorem join_loop (u : List S42) (hu : SubT u 0 (u.length - 1)) (hp : 0 < u.length) (hul : u.length ≤ 60) (kd : Int) (off : Nat) (ho : 0 < off) (hol : off ≤ 60) : ∀ (d n k : Nat) (acc : List S42), n + d = u.length → d + 5 < k → acc.length + d ≤ 1000 →
    dragomanref05_Join.l0 k u kd (off : Int) acc (n : Int) = some (acc ++ ((u.drop n).map (shiftN off) ++ [⟨kd, ⟨0, 0, 0, 0⟩, ⟨(off : Int) - 1, ((off + u.length : Nat) : Int) - 1⟩⟩]), 0) := by
  have P := hu.prop
  intro d
  induction d with
  | zero =>
    intro n k acc hn hk ha
    obtain ⟨k, rfl⟩ : ∃ m, k = m + 1 := ⟨k - 1, by omega⟩
    have w1 : wrap64 ((off : Int) - 1) = (off : Int) - 1 := by unfold wrap64; omega
    have w2 : wrap64 ((off : Int) + (u.length : Int)) = ((off + u.length : Nat) : Int) := by unfold wrap64; omega
    have w3 : wrap64 (((off + u.length : Nat) : Int) - 1) = ((off + u.length : Nat) : Int) - 1 := by unfold wrap64; omega
    rw [List.drop_eq_nil_of_le (by omega), List.map_nil, List.nil_append]
    simp only [dragomanref05_Join.l0]
    rw [if_neg (by omega), if_pos (by omega), w1, w2, w3]
  | succ d ih =>
    intro n k acc hn hk ha
    obtain ⟨k, rfl⟩ : ∃ m, k = m + 1 := ⟨k - 1, by omega⟩
    have hlt : n < u.length := by omega
    have hx : rd_T42 u (n : Int) = u[n] := by unfold rd_T42; rw [Int.toNat_natCast, List.getD_eq_getElem?_getD, List.getElem?_eq_getElem hlt]; rfl
    have hkd := P.kinds n (Nat.zero_le _) (by omega)
    have hk0 := P.k0 n (Nat.zero_le _) (by omega)
    have hk1 := P.k1 n (Nat.zero_le _) (by omega)
    have hih := ih (n + 1) k (acc ++ [shiftN off u[n]]) (by omega) (by omega) (by simp; omega)
    rw [List.append_assoc, List.singleton_append] at hih
    rw [List.drop_eq_getElem_cons hlt, List.map_cons, List.cons_append, ← hih]
    rw [hx] at hkd hk0 hk1
    generalize hX : u[n] = X at *
    simp only [dragomanref05_Join.l0]
    rw [if_pos (by omega), if_pos (by omega), hx, many_is X.f0 hkd.1 hkd.2 k (by omega), Option.bind_some, wrap_succ n (by omega)]
    by_cases c1 : X.f0 = 2 ∨ X.f0 = 3
    · have w0 : wrap64 (X.f2.f0 + (off : Int)) = X.f2.f0 + off := by have := hk0 (by omega) (by omega); unfold wrap64; omega
      have w1 : wrap64 (X.f2.f1 + (off : Int)) = X.f2.f1 + off := by have := hk1 c1; unfold wrap64; omega
      rw [if_pos c1, if_pos (by decide), if_pos (by decide), if_pos (by omega), w0, w1]
      unfold shiftN
      rw [if_pos (by omega), if_pos c1]
    · rw [if_neg c1]
      by_cases c2 : 4 ≤ X.f0 ∧ X.f0 ≤ 6
      · have w0 : wrap64 (X.f2.f0 + (off : Int)) = X.f2.f0 + off := by have := hk0 (by omega) (by omega); unfold wrap64; omega
        rw [if_pos c2, if_pos (by decide), if_neg (by decide), if_pos (by omega), w0]
        unfold shiftN
        rw [if_pos (by omega), if_neg c1]
      · rw [if_neg c2, if_neg (by decide), if_neg (by decide), if_pos (by omega)]
        unfold shiftN
        rw [if_neg (by omega), if_neg c1]
theorem Join_is {t u : List S42} (hu : SubT u 0 (u.length - 1)) (hp : 0 < u.length) (hul : u.length ≤ 60) (hpt : 0 < t.length) (htl : t.length ≤ 60) (kd : Int) (hkd : kd = 2 ∨ kd = 3) (k : Nat) (hk : 200 ≤ k) : dragomanref05_Join.f k t u kd = some (joinOf t u kd, 0) := by
  obtain ⟨k, rfl⟩ : ∃ m, k = m + 1 := ⟨k - 1, by omega⟩
  have w2 : wrap64 ((t.length : Int) + (u.length : Int)) = ((t.length + u.length : Nat) : Int) := by unfold wrap64; omega
  have hj : dragomanref05_Join.j0 (k + 1) t u kd false = some (joinOf t u kd, 0) := by
    simp only [dragomanref05_Join.j0, Bool.false_eq_true, if_false, Option.bind_some, List.nil_append]
    rw [w2, if_neg (by omega), if_pos (by simp; omega)]
    have := join_loop u hu hp hul kd t.length hpt htl u.length 0 k t (by omega) (by omega) (by omega)
    exact this
  unfold dragomanref05_Join.f
  rcases hkd with rfl | rfl
  · rw [if_pos rfl]; exact hj
  · rw [if_neg (by decide)]; exact hj
section
variable {t u : List S42} {s : ByteArray} {kd : Int}
theorem join_len (t u : List S42) (kd : Int) : (joinOf t u kd).length = t.length + u.length + 1 := by unfold joinOf; simp; omega
theorem join_top (t u : List S42) (kd : Int) : rd_T42 (joinOf t u kd) ((t.length + u.length : Nat) : Int) = ⟨kd, ⟨0, 0, 0, 0⟩, ⟨(t.length : Int) - 1, ((t.length + u.length : Nat) : Int) - 1⟩⟩ := by
  unfold joinOf
  rw [rd_right]
  have := rd_right (u.map (shiftN t.length)) [⟨kd, ⟨0, 0, 0, 0⟩, ⟨(t.length : Int) - 1, ((t.length + u.length : Nat) : Int) - 1⟩⟩] 0
  rw [Nat.add_zero, List.length_map] at this
  exact this
theorem rd_map (u : List S42) (off j : Nat) (h : j < u.length) : rd_T42 (u.map (shiftN off)) (j : Int) = shiftN off (rd_T42 u (j : Int)) := by
  unfold rd_T42
  rw [Int.toNat_natCast, List.getD_eq_getElem?_getD, List.getD_eq_getElem?_getD, List.getElem?_map, List.getElem?_eq_getElem h]
  rfl
theorem join_right (t u : List S42) (kd : Int) : EmbL u (joinOf t u kd) t.length := by
  have key : ∀ j : Nat, j < u.length → rd_T42 (joinOf t u kd) ((t.length + j : Nat) : Int) = shiftN t.length (rd_T42 u (j : Int)) := by
    intro j hj
    unfold joinOf
    rw [rd_right, rd_left _ _ j (by rw [List.length_map]; exact hj), rd_map u _ j hj]
  refine ⟨fun j hj => by rw [key j hj]; rfl, fun j hj => by rw [key j hj]; rfl, fun j hj h1 h2 => ?_, fun j hj h1 => ?_⟩
  · rw [key j hj]; unfold shiftN; dsimp only; rw [if_pos ⟨h1, h2⟩]
  · rw [key j hj]; unfold shiftN; dsimp only; rw [if_pos h1]
theorem join_left (t u : List S42) (kd : Int) : EmbL t (joinOf t u kd) 0 := emb_left t _
theorem join_Rt (ht : Rt t s) (hu : Rt u s) (htl : t.length ≤ 60) (hul : u.length ≤ 60) (hs : s.size ≤ 30) (hkd : kd = 2 ∨ kd = 3) : Rt (joinOf t u kd) s := by
  have hp := ht.pos
  have hq := hu.pos
  have hlen := join_len t u kd
  have htop := join_top t u kd
  refine ⟨by omega, ?_, ?_, ?_⟩
  · rw [hlen, Nat.add_sub_cancel]
    have z1 := (join_left t u kd).sub ht.sub (by omega)
    have z2 := (join_right t u kd).sub hu.sub (by omega)
    rw [Nat.zero_add, Nat.zero_add] at z1
    rw [Nat.add_zero, show t.length + (u.length - 1) = t.length + u.length - 1 from by omega] at z2
    exact .bin (c := t.length) (by omega) (by rw [htop]; exact hkd) z2 hp (by rw [htop]) (by rw [htop]) z1
  · intro x hx
    unfold joinOf at hx
    rcases List.mem_append.1 hx with g | g
    · exact ht.ok x g
    rcases List.mem_append.1 g with g | g
    · obtain ⟨y, hy, rfl⟩ := List.mem_map.1 g
      obtain ⟨n, hn, rfl⟩ := List.mem_iff_getElem.1 hy
      obtain ⟨o1, o2, o3, o4⟩ := hu.ok _ hy
      have P := hu.sub.prop
      have hx : rd_T42 u (n : Int) = u[n] := by unfold rd_T42; rw [Int.toNat_natCast, List.getD_eq_getElem?_getD, List.getElem?_eq_getElem hn]; rfl
      have hk0 := P.k0 n (Nat.zero_le _) (by omega)
      have hk1 := P.k1 n (Nat.zero_le _) (by omega)
      rw [hx] at hk0 hk1
      refine ⟨o1, o2, ?_, ?_⟩
      · unfold shiftN
        dsimp only
        by_cases c : 2 ≤ u[n].f0 ∧ u[n].f0 ≤ 6
        · rw [if_pos c]; have := hk0 c.1 c.2; exact wf_i64 (by omega) (by omega)
        · rw [if_neg c]; exact o3
      · unfold shiftN
        dsimp only
        by_cases c : u[n].f0 = 2 ∨ u[n].f0 = 3
        · rw [if_pos c]; have := hk1 c; exact wf_i64 (by omega) (by omega)
        · rw [if_neg c]; exact o4
    · obtain rfl := List.mem_singleton.1 g
      exact ⟨by dsimp only; rcases hkd with rfl | rfl <;> decide, ⟨by dsimp only; decide, by dsimp only; decide, by dsimp only; decide, by dsimp only; decide⟩, wf_i64 (by dsimp only; omega) (by dsimp only; omega), wf_i64 (by dsimp only; omega) (by dsimp only; omega)⟩
  · rw [hlen]
    have : (t.length + u.length + 1) * (s.size + 1) ≤ 121 * 31 := Nat.mul_le_mul (by omega) (by omega)
    omega
theorem join_nd (t u : List S42) (kd : Int) (hp : 0 < t.length) (hq : 0 < u.length) : (ndOf (joinOf t u kd) (t.length + u.length)).kind = kd ∧ (ndOf (joinOf t u kd) (t.length + u.length)).k0 = 0 + (t.length - 1) ∧ (ndOf (joinOf t u kd) (t.length + u.length)).k1 = t.length + (u.length - 1) := by
  unfold ndOf
  dsimp only
  rw [join_top]
  dsimp only
  exact ⟨rfl, by omega, by omega⟩
theorem cat_stands (ht : Rt t s) (hu : Rt u s) (a b : Nat) : Stands (joinOf t u 2) s a b ↔ ∃ c, Stands t s a c ∧ Stands u s c b := by
  obtain ⟨e1, e2, e3⟩ := join_nd t u 2 ht.pos hu.pos
  have E1 := (join_left t u 2).emb ht.pos ht.sub
  have E2 := (join_right t u 2).emb hu.pos hu.sub
  have hp := ht.pos
  have hq := hu.pos
  unfold Stands
  rw [join_len, Nat.add_sub_cancel]
  constructor
  · intro h
    cases h with
    | cat hk h1 h2 =>
      rw [e2] at h1
      rw [e3] at h2
      exact ⟨_, E1.from h1 _ rfl (by omega), E2.from h2 _ rfl (by omega)⟩
    | none hk | set hk | alt0 hk | alt1 hk | star0 hk | star1 hk | plus0 hk | plus1 hk | opt0 hk | opt1 hk | bgn hk | fin hk => omega
  · rintro ⟨c, h1, h2⟩
    exact .cat e1 (by rw [e2]; exact E1.to h1 (by omega)) (by rw [e3]; exact E2.to h2 (by omega))
theorem alt_stands (ht : Rt t s) (hu : Rt u s) (a b : Nat) : Stands (joinOf t u 3) s a b ↔ Stands t s a b ∨ Stands u s a b := by
  obtain ⟨e1, e2, e3⟩ := join_nd t u 3 ht.pos hu.pos
  have E1 := (join_left t u 3).emb ht.pos ht.sub
  have E2 := (join_right t u 3).emb hu.pos hu.sub
  have hp := ht.pos
  have hq := hu.pos
  unfold Stands
  rw [join_len, Nat.add_sub_cancel]
  constructor
  · intro h
    cases h with
    | alt0 hk h1 => rw [e2] at h1; exact .inl (E1.from h1 _ rfl (by omega))
    | alt1 hk h1 => rw [e3] at h1; exact .inr (E2.from h1 _ rfl (by omega))
    | none hk | set hk | cat hk | star0 hk | star1 hk | plus0 hk | plus1 hk | opt0 hk | opt1 hk | bgn hk | fin hk => omega
  · rintro (h1 | h1)
    · exact .alt0 e1 (by rw [e2]; exact E1.to h1 (by omega))
    · exact .alt1 e1 (by rw [e3]; exact E2.to h1 (by omega))
end
/-- Where it ends, from any place. -/
noncomputable def endsZ (l : List S42) (s : ByteArray) (i : Int) : List Int := if 0 ≤ i ∧ i ≤ s.size then ends l s i.toNat else []
theorem Ends_Z {l : List S42} {s : ByteArray} (h : Rt l s) (i : Int) (k : Nat) (hk : 100010 ≤ k) : match_Ends.f k l s i = some (endsZ l s i) := by
  unfold endsZ
  by_cases c : 0 ≤ i ∧ i ≤ s.size
  · rw [if_pos c]
    have := Ends_eq h i.toNat (by omega) k hk
    rw [show ((i.toNat : Nat) : Int) = i from by omega] at this
    exact this
  · rw [if_neg c]
    exact Ends_out l s i (by omega) k (by omega)
theorem endsZ_mem {l : List S42} {s : ByteArray} (i v : Int) : v ∈ endsZ l s i ↔ ∃ a b : Nat, i = (a : Int) ∧ a ≤ s.size ∧ b ≤ s.size ∧ Stands l s a b ∧ v = (b : Int) := by
  unfold endsZ
  by_cases c : 0 ≤ i ∧ i ≤ s.size
  · rw [if_pos c, ends_mem]
    constructor
    · rintro ⟨b, h1, h2, h3⟩; exact ⟨i.toNat, b, by omega, by omega, h1, h2, h3⟩
    · rintro ⟨a, b, rfl, h1, h2, h3, h4⟩; exact ⟨b, h2, by rw [Int.toNat_natCast]; exact h3, h4⟩
  · rw [if_neg c]
    constructor
    · intro h; cases h
    · rintro ⟨a, b, rfl, h1, -⟩; omega
theorem endsZ_tr (l : List S42) (s : ByteArray) (i : Int) : ∃ B, endsZ l s i = tr B (s.size + 1) 0 := by
  unfold endsZ
  by_cases c : 0 ≤ i ∧ i ≤ s.size
  · rw [if_pos c]; exact ⟨_, rfl⟩
  · rw [if_neg c]; exact ⟨[], (List.length_eq_zero_iff.1 ((tr_nil [] _ _).2 (fun j _ _ => by simp))).symm⟩
theorem endsZ_len (l : List S42) (s : ByteArray) (i : Int) : (endsZ l s i).length ≤ s.size + 1 := by
  obtain ⟨B, hB⟩ := endsZ_tr l s i
  rw [hB]
  exact tr_len _ _ _
theorem tr_congr {x y : List Bool} : ∀ (d i : Nat), (∀ j, i ≤ j → j < i + d → (x.getD j false = true ↔ y.getD j false = true)) → tr x d i = tr y d i
  | 0, _, _ => rfl
  | d + 1, i, h => by
    have e := h i (Nat.le_refl _) (by omega)
    have ih := tr_congr (x := x) (y := y) d (i + 1) (fun j a b => h j (by omega) (by omega))
    unfold tr
    by_cases c : x.getD i false = true
    · rw [if_pos c, if_pos (e.1 c), ih]
    · rw [if_neg c, if_neg (fun g => c (e.2 g)), ih]
/-- A list of truths that tells the same places is the same list of places. -/
theorem tr_ends {l : List S42} {s : ByteArray} {i : Int} {T : List Bool} (h : ∀ j : Nat, j < s.size + 1 → (T.getD j false = true ↔ (j : Int) ∈ endsZ l s i)) : tr T (s.size + 1) 0 = endsZ l s i := by
  obtain ⟨B, hB⟩ := endsZ_tr l s i
  rw [hB]
  refine tr_congr _ _ fun j _ hj => ?_
  rw [h j (by omega), hB, tr_mem]
  constructor
  · rintro ⟨j', _, _, h3, h4⟩
    obtain rfl : j = j' := by omega
    exact h3
  · intro h3; exact ⟨j, by omega, by omega, h3, rfl⟩
/-- Marks laid one behind the other. -/
def mks (t : List Bool) (Y : List Int) : List Bool := Y.foldl (fun t v => t.set v.toNat true) t
theorem mks_len : ∀ (Y : List Int) (t : List Bool), (mks t Y).length = t.length
  | [], t => rfl
  | v :: Y, t => by
    have := mks_len Y (t.set v.toNat true)
    rw [List.length_set] at this
    exact this
theorem mks_get (j : Nat) : ∀ (Y : List Int) (t : List Bool), j < t.length → ((mks t Y).getD j false = true ↔ t.getD j false = true ∨ ∃ v, v ∈ Y ∧ v.toNat = j)
  | [], t, h => by simp [mks]
  | v :: Y, t, h => by
    have ih := mks_get j Y (t.set v.toNat true) (by rw [List.length_set]; exact h)
    show (mks (t.set v.toNat true) Y).getD j false = true ↔ _
    rw [ih]
    simp only [List.getD_eq_getElem?_getD, List.getElem?_set, List.mem_cons]
    by_cases e : v.toNat = j
    · subst e
      simp [h]
    · rw [if_neg e]
      constructor
      · rintro (h | ⟨w, h1, h2⟩)
        · exact .inl h
        · exact .inr ⟨w, .inr h1, h2⟩
      · rintro (h | ⟨w, rfl | h1, h2⟩)
        · exact .inl h
        · exact absurd h2 e
        · exact .inr ⟨w, h1, h2⟩
theorem mks_append (t : List Bool) (A B : List Int) : mks (mks t A) B = mks t (A ++ B) := by unfold mks; rw [List.foldl_append]
section
variable {x4 x9 x11 : List S42} {x5 : ByteArray} {x6 : Int} {L : Nat}
theorem rd_at {X : List Int} {n : Nat} (h : n < X.length) : rd X (n : Int) = X[n] := by unfold rd; rw [Int.toNat_natCast, List.getD_eq_getElem?_getD, List.getElem?_eq_getElem h]; rfl
theorem joins_l1 (Y X : List Int) (hY : ∀ v, v ∈ Y → 0 ≤ v ∧ v < (L : Int)) (hly : Y.length ≤ 100000) (x14 : List Bool) (x16 : Int) : ∀ (d n k : Nat) (x13 : List Bool), n + d = Y.length → d < k → x13.length = L →
    dragomanlaw06_MatchJoins.l1 k x4 x5 x6 true x9 x11 x13 x14 X x16 Y (n : Int) = dragomanlaw06_MatchJoins.l0 (k - d - 1) x4 x5 x6 true x9 x11 (mks x13 (Y.drop n)) x14 X (wrap64 (x16 + 1)) := by
  intro d
  induction d with
  | zero =>
    intro n k x13 hn hk hx
    obtain ⟨k, rfl⟩ : ∃ m, k = m + 1 := ⟨k - 1, by omega⟩
    rw [List.drop_eq_nil_of_le (by omega)]
    simp only [dragomanlaw06_MatchJoins.l1]
    rw [if_neg (by omega)]
    rfl
  | succ d ih =>
    intro n k x13 hn hk hx
    obtain ⟨k, rfl⟩ : ∃ m, k = m + 1 := ⟨k - 1, by omega⟩
    have hlt : n < Y.length := by omega
    have hv := hY Y[n] (List.getElem_mem hlt)
    rw [List.drop_eq_getElem_cons hlt]
    simp only [dragomanlaw06_MatchJoins.l1]
    rw [if_pos (by omega), if_pos (by omega), rd_at hlt, if_pos (by omega), if_pos (by omega), wrap_succ n (by omega), ih (n + 1) k _ (by omega) (by omega) (by rw [List.length_set]; exact hx)]
    rw [show k + 1 - (d + 1) - 1 = k - d - 1 from by omega]
    rfl
theorem joins_l0 (hu : Rt x4 x5) (hs : x5.size ≤ 30) (X : List Int) (hX : ∀ v, v ∈ X → 0 ≤ v ∧ v < ((x5.size + 1 : Nat) : Int)) (hlx : X.length ≤ 100000) : ∀ (d n k : Nat) (x13 x14 : List Bool), n + d = X.length → 150000 + d * 100 < k → x13.length = x5.size + 1 → x14.length = x5.size + 1 →
    ∃ k', 140000 ≤ k' ∧ dragomanlaw06_MatchJoins.l0 k x4 x5 x6 true x9 x11 x13 x14 X (n : Int) = (match_Ends.f k' x4 x5 x6).bind fun t171 => dragomanlaw06_MatchJoins.l2 k' x5 x6 true x9 x11 (mks x13 ((X.drop n).flatMap fun v => endsZ x4 x5 v)) (mks x14 (X.drop n)) t171 0 := by
  intro d
  induction d with
  | zero =>
    intro n k x13 x14 hn hk hx hy
    obtain ⟨k, rfl⟩ : ∃ m, k = m + 1 := ⟨k - 1, by omega⟩
    refine ⟨k, by omega, ?_⟩
    rw [List.drop_eq_nil_of_le (by omega)]
    simp only [dragomanlaw06_MatchJoins.l0]
    rw [if_neg (by omega)]
    rfl
  | succ d ih =>
    intro n k x13 x14 hn hk hx hy
    obtain ⟨k, rfl⟩ : ∃ m, k = m + 1 := ⟨k - 1, by omega⟩
    have hlt : n < X.length := by omega
    have hv := hX X[n] (List.getElem_mem hlt)
    have hel := endsZ_len x4 x5 X[n]
    have h1 := joins_l1 (L := x5.size + 1) (x4 := x4) (x5 := x5) (x6 := x6) (x9 := x9) (x11 := x11) (endsZ x4 x5 X[n]) X (fun v hv => by
      obtain ⟨a, b, _, _, hb, _, rfl⟩ := (endsZ_mem _ v).1 hv
      omega) (by omega) (x14.set X[n].toNat true) (n : Int) (endsZ x4 x5 X[n]).length 0 k x13 (by omega) (by omega) hx
    obtain ⟨k', h2, h3⟩ := ih (n + 1) (k - (endsZ x4 x5 X[n]).length - 1) (mks x13 (endsZ x4 x5 X[n])) (x14.set X[n].toNat true) (by omega) (by omega) (by rw [mks_len]; exact hx) (by rw [List.length_set]; exact hy)
    refine ⟨k', h2, ?_⟩
    rw [List.drop_eq_getElem_cons hlt, List.flatMap_cons, ← mks_append]
    simp only [dragomanlaw06_MatchJoins.l0]
    rw [if_pos (by omega), if_pos (by omega), rd_at hlt, if_pos (by omega), if_pos (by omega), Ends_Z hu X[n] k (by omega), Option.bind_some]
    have h1' : dragomanlaw06_MatchJoins.l1 k x4 x5 x6 true x9 x11 x13 (x14.set X[n].toNat true) X (n : Int) (endsZ x4 x5 X[n]) 0 = _ := h1
    rw [h1', wrap_succ n (by omega), List.drop_zero, h3]
    rfl
theorem joins_l2 (Y : List Int) (hY : ∀ v, v ∈ Y → 0 ≤ v ∧ v < (L : Int)) (hly : Y.length ≤ 100000) (x13 : List Bool) : ∀ (d n k : Nat) (x14 : List Bool), n + d = Y.length → d < k → x14.length = L →
    dragomanlaw06_MatchJoins.l2 k x5 x6 true x9 x11 x13 x14 Y (n : Int) = dragomanlaw06_MatchJoins.l3 (k - d - 1) x5 x6 true x9 x11 x13 (mks x14 (Y.drop n)) [] [] 0 := by
  intro d
  induction d with
  | zero =>
    intro n k x14 hn hk hx
    obtain ⟨k, rfl⟩ : ∃ m, k = m + 1 := ⟨k - 1, by omega⟩
    rw [List.drop_eq_nil_of_le (by omega)]
    simp only [dragomanlaw06_MatchJoins.l2]
    rw [if_neg (by omega)]
    rfl
  | succ d ih =>
    intro n k x14 hn hk hx
    obtain ⟨k, rfl⟩ : ∃ m, k = m + 1 := ⟨k - 1, by omega⟩
    have hlt : n < Y.length := by omega
    have hv := hY Y[n] (List.getElem_mem hlt)
    rw [List.drop_eq_getElem_cons hlt]
    simp only [dragomanlaw06_MatchJoins.l2]
    rw [if_pos (by omega), if_pos (by omega), rd_at hlt, if_pos (by omega), if_pos (by omega), wrap_succ n (by omega), ih (n + 1) k _ (by omega) (by omega) (by rw [List.length_set]; exact hx)]
    rw [show k + 1 - (d + 1) - 1 = k - d - 1 from by omega]
    rfl
theorem ints_refl (x : List Int) (hx : x.length ≤ 100000) : ∀ (d i k : Nat), i + d = x.length → d < k → dragomanref06_Ints.l0 k x x (i : Int) = some true := by
  intro d
  induction d with
  | zero =>
    intro i k hi hk
    obtain ⟨k, rfl⟩ : ∃ m, k = m + 1 := ⟨k - 1, by omega⟩
    simp only [dragomanref06_Ints.l0]
    rw [if_neg (by omega)]
  | succ d ih =>
    intro i k hi hk
    obtain ⟨k, rfl⟩ : ∃ m, k = m + 1 := ⟨k - 1, by omega⟩
    simp only [dragomanref06_Ints.l0]
    rw [if_pos (by omega), if_pos (by omega), if_pos (by omega), if_pos trivial, wrap_succ i (by omega)]
    exact ih (i + 1) k (by omega) (by omega)
theorem Ints_refl (x : List Int) (hx : x.length ≤ 100000) (k : Nat) (hk : 100000 < k) : dragomanref06_Ints.f k x x = some true := by
  unfold dragomanref06_Ints.f
  rw [if_pos rfl]
  exact ints_refl x hx x.length 0 k (by omega) (by omega)
theorem joins_l3 (hs : x5.size ≤ 30) (h9 : Rt x9 x5) (h11 : Rt x11 x5) (x13 x14 : List Bool) (h13 : x13.length = x5.size + 1) (h14 : x14.length = x5.size + 1) : ∀ (d i k : Nat) (a b : List Int), i + d = x5.size + 1 → 120000 + d < k → a.length + d ≤ 1000 → b.length + d ≤ 1000 →
    a ++ tr x13 d i = endsZ x9 x5 x6 → b ++ tr x14 d i = endsZ x11 x5 x6 → dragomanlaw06_MatchJoins.l3 k x5 x6 true x9 x11 x13 x14 a b (i : Int) = some true := by
  intro d
  induction d with
  | zero =>
    intro i k a b hi hk ha hb ea eb
    obtain ⟨k, rfl⟩ : ∃ m, k = m + 1 := ⟨k - 1, by omega⟩
    simp only [tr, List.append_nil] at ea eb
    subst ea
    subst eb
    have l1 := endsZ_len x9 x5 x6
    have l2 := endsZ_len x11 x5 x6
    simp only [dragomanlaw06_MatchJoins.l3]
    rw [if_neg (by omega), if_pos trivial, Ends_Z h9 x6 k (by omega), Option.bind_some, Ints_refl _ (by omega) k (by omega), Option.bind_some, if_pos rfl, Ends_Z h11 x6 k (by omega), Option.bind_some, Ints_refl _ (by omega) k (by omega), Option.bind_some]
  | succ d ih =>
    intro i k a b hi hk ha hb ea eb
    obtain ⟨k, rfl⟩ : ∃ m, k = m + 1 := ⟨k - 1, by omega⟩
    have e13 : rdOf false x13 (i : Int) = x13.getD i false := by unfold rdOf; rw [Int.toNat_natCast]
    have e14 : rdOf false x14 (i : Int) = x14.getD i false := by unfold rdOf; rw [Int.toNat_natCast]
    unfold tr at ea eb
    simp only [dragomanlaw06_MatchJoins.l3]
    rw [if_pos (by omega), if_pos (by omega), if_pos (by omega), e13, e14, wrap_succ i (by omega)]
    by_cases c1 : x13.getD i false = true
    · rw [if_pos c1] at ea
      rw [if_pos c1, if_pos (by omega), Option.bind_some, if_pos (by omega)]
      by_cases c2 : x14.getD i false = true
      · rw [if_pos c2] at eb
        rw [if_pos c2, if_pos (by omega)]
        exact ih (i + 1) k _ _ (by omega) (by omega) (by simp; omega) (by simp; omega) (by rw [List.append_assoc]; exact ea) (by rw [List.append_assoc]; exact eb)
      · rw [if_neg c2] at eb
        rw [if_neg c2]
        exact ih (i + 1) k _ _ (by omega) (by omega) (by simp; omega) (by omega) (by rw [List.append_assoc]; exact ea) eb
    · rw [if_neg c1] at ea
      rw [if_neg c1, if_pos (by omega)]
      by_cases c2 : x14.getD i false = true
      · rw [if_pos c2] at eb
        rw [if_pos c2, if_pos (by omega)]
        exact ih (i + 1) k _ _ (by omega) (by omega) (by omega) (by simp; omega) ea (by rw [List.append_assoc]; exact eb)
      · rw [if_neg c2] at eb
        rw [if_neg c2]
        exact ih (i + 1) k _ _ (by omega) (by omega) (by omega) (by omega) ea eb
end
theorem Pure.MatchJoins (l0 l1 : List S42) (a2 : ByteArray) (a3 : Int) (ok0 : ∀ x, x ∈ l0 → Ok42 x) (ok1 : ∀ x, x ∈ l1 → Ok42 x) : ∃ k, dragomanlaw06_MatchJoins.f k l0 l1 a2 a3 = some true := by
  obtain ⟨b, hb, hb'⟩ := few_spec l0 a2
  obtain ⟨c, hc, hc'⟩ := few_spec l1 a2
  have hj : ∀ k, 1 ≤ k → dragomanlaw06_MatchJoins.j0 k l0 l1 a2 a3 true false = some true := fun k hk => by
    obtain ⟨k, rfl⟩ : ∃ m, k = m + 1 := ⟨k - 1, by omega⟩
    simp only [dragomanlaw06_MatchJoins.j0, Bool.false_eq_true, if_false]
  refine ⟨300001, ?_⟩
  unfold dragomanlaw06_MatchJoins.f
  rw [shown_ok 300001 (by decide), Option.bind_some, hb 300001 (by decide), Option.bind_some]
  cases b with
  | false => rw [if_neg (by decide)]; exact hj _ (by decide)
  | true =>
    rw [if_pos rfl, hc 300001 (by decide), Option.bind_some]
    cases c with
    | false => exact hj _ (by decide)
    | true =>
      obtain ⟨h1, h2, h3, h4⟩ := hb' rfl
      obtain ⟨g1, g2, g3, g4⟩ := hc' rfl
      have ht := Rt.of_few ok0 h1 h2 h3 h4
      have hu := Rt.of_few ok1 g1 g2 g3 g4
      have hcat := join_Rt (kd := 2) ht hu h1 g1 h2 (.inl rfl)
      have halt := join_Rt (kd := 3) ht hu h1 g1 h2 (.inr rfl)
      have hw1 : wrap64 ((a2.size : Int) + 1) = ((a2.size + 1 : Nat) : Int) := wrap_succ a2.size (by omega)
      have lx := endsZ_len l0 a2 a3
      have ly := endsZ_len l1 a2 a3
      show dragomanlaw06_MatchJoins.j0 (300000 + 1) l0 l1 a2 a3 true true = some true
      generalize hK : 300000 = K
      simp only [dragomanlaw06_MatchJoins.j0, if_true]
      rw [Join_is g4 g3 g1 h3 h1 2 (.inl rfl) K (by omega), Option.bind_some, Join_is g4 g3 g1 h3 h1 3 (.inr rfl) K (by omega), Option.bind_some, hw1, if_pos (by omega), if_pos (by omega), Ends_Z ht a3 K (by omega), Option.bind_some, Int.toNat_natCast]
      obtain ⟨k', hk', he⟩ := joins_l0 (x6 := a3) (x9 := joinOf l0 l1 2) (x11 := joinOf l0 l1 3) hu h2 (endsZ l0 a2 a3) (fun v hv => by
        obtain ⟨a, b, _, _, hb, _, rfl⟩ := (endsZ_mem _ v).1 hv
        omega) (by omega) (endsZ l0 a2 a3).length 0 K (List.replicate (a2.size + 1) false) (List.replicate (a2.size + 1) false) (by omega) (by omega) (by rw [List.length_replicate]) (by rw [List.length_replicate])
      have he' : dragomanlaw06_MatchJoins.l0 K l1 a2 a3 true (joinOf l0 l1 2) (joinOf l0 l1 3) (List.replicate (a2.size + 1) false) (List.replicate (a2.size + 1) false) (endsZ l0 a2 a3) 0 = _ := he
      dsimp only
      rw [he', Ends_Z hu a3 k' (by omega), Option.bind_some, List.drop_zero]
      have h5 := joins_l2 (L := a2.size + 1) (x5 := a2) (x6 := a3) (x9 := joinOf l0 l1 2) (x11 := joinOf l0 l1 3) (endsZ l1 a2 a3) (fun v hv => by
        obtain ⟨a, b, _, _, hb, _, rfl⟩ := (endsZ_mem _ v).1 hv
        omega) (by omega) (mks (List.replicate (a2.size + 1) false) ((endsZ l0 a2 a3).flatMap fun v => endsZ l1 a2 v)) (endsZ l1 a2 a3).length 0 k' (mks (List.replicate (a2.size + 1) false) (endsZ l0 a2 a3)) (by omega) (by omega) (by rw [mks_len, List.length_replicate])
      have h5' : dragomanlaw06_MatchJoins.l2 k' a2 a3 true (joinOf l0 l1 2) (joinOf l0 l1 3) (mks (List.replicate (a2.size + 1) false) ((endsZ l0 a2 a3).flatMap fun v => endsZ l1 a2 v)) (mks (List.replicate (a2.size + 1) false) (endsZ l0 a2 a3)) (endsZ l1 a2 a3) 0 = _ := h5
      rw [h5', List.drop_zero, mks_append]
      have hrep : ∀ j, j < a2.size + 1 → ¬ (List.replicate (a2.size + 1) false).getD j false = true := fun j hj => by
        rw [List.getD_eq_getElem?_getD, List.getElem?_replicate, if_pos hj]; simp
      refine joins_l3 h2 hcat halt _ _ (by rw [mks_len, List.length_replicate]) (by rw [mks_len, List.length_replicate]) (a2.size + 1) 0 _ [] [] (by omega) (by omega) (by simp; omega) (by simp; omega) ?_ ?_
      · rw [List.nil_append]
        refine tr_ends fun j hj => ?_
        rw [mks_get j _ _ (by rw [List.length_replicate]; exact hj), endsZ_mem]
        constructor
        · rintro (h | ⟨v, hv, rfl⟩)
          · exact absurd h (hrep j hj)
          · obtain ⟨w, hw, hv⟩ := List.mem_flatMap.1 hv
            obtain ⟨a, b, rfl, ha, hb, hs1, rfl⟩ := (endsZ_mem _ _).1 hw
            obtain ⟨a', b', e, ha', hb', hs2, rfl⟩ := (endsZ_mem _ _).1 hv
            obtain rfl : b = a' := by omega
            exact ⟨a, b', rfl, ha, hb', (cat_stands ht hu a b').2 ⟨b, hs1, hs2⟩, by omega⟩
        · rintro ⟨a, b, rfl, ha, hb, hs, e⟩
          obtain rfl : j = b := by omega
          obtain ⟨c, hs1, hs2⟩ := (cat_stands ht hu a j).1 hs
          have hcb := (hs1.bound ha).2
          exact .inr ⟨(j : Int), List.mem_flatMap.2 ⟨(c : Int), (endsZ_mem _ _).2 ⟨a, c, rfl, ha, hcb, hs1, rfl⟩, (endsZ_mem _ _).2 ⟨c, j, rfl, hcb, hb, hs2, rfl⟩⟩, Int.toNat_natCast j⟩
      · rw [List.nil_append]
        refine tr_ends fun j hj => ?_
        rw [mks_get j _ _ (by rw [List.length_replicate]; exact hj), endsZ_mem]
        constructor
        · rintro (h | ⟨v, hv, rfl⟩)
          · exact absurd h (hrep j hj)
          · rcases List.mem_append.1 hv with hv | hv
            · obtain ⟨a, b, rfl, ha, hb, hs1, rfl⟩ := (endsZ_mem _ _).1 hv
              exact ⟨a, b, rfl, ha, hb, (alt_stands ht hu a b).2 (.inl hs1), by omega⟩
            · obtain ⟨a, b, rfl, ha, hb, hs1, rfl⟩ := (endsZ_mem _ _).1 hv
              exact ⟨a, b, rfl, ha, hb, (alt_stands ht hu a b).2 (.inr hs1), by omega⟩
        · rintro ⟨a, b, rfl, ha, hb, hs, e⟩
          obtain rfl : j = b := by omega
          refine .inr ⟨(j : Int), List.mem_append.2 ?_, Int.toNat_natCast j⟩
          rcases (alt_stands ht hu a j).1 hs with hs | hs
          · exact .inl ((endsZ_mem _ _).2 ⟨a, j, rfl, ha, hb, hs, rfl⟩)
          · exact .inr ((endsZ_mem _ _).2 ⟨a, j, rfl, ha, hb, hs, rfl⟩)
end Go.Proofs.Ytmhkofgappbpjaa.P
end
