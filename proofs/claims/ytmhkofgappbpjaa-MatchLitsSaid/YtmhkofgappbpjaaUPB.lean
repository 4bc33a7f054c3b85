/- Texts of this seat, put together: each part tells above it what it proves and on what conditions. -/
import Derived.Test.YtmhkofgappbpjaaUPA
import Derived.Test.YtmhkofgappbpjaaUOP
import Derived.Laws.BitsLemmas
import Derived.Test.YtmhkofgappbpjaaUQCx2
import Derived.Test.YtmhkofgappbpjaaUQCx5
import Derived.Test.YtmhkofgappbpjaaUQCx3
import Derived.Lib.Strings
import Derived.Test.YtmhkofgappbpjaaUQCx4
/- dragomanref06's moves are the same. -/
section
set_option linter.unusedVariables false
set_option linter.unusedSimpArgs false
namespace Go.Proofs.Ytmhkofgappbpjaa.P
open Go.RowKit Go.Proofs.YtmhkofgappbpjaaW.PrintWords Go.Proofs.Ytmhkofgappbpjaa.QA Go.Proofs.Ytmhkofgappbpjaa.QB Go.Proofs.Ytmhkofgappbpjaa.G Go.Proofs.Ytmhkofgappbpjaa.Mt
def to78 (x : St) : S78 := ⟨x.node, x.ended, x.at_⟩
theorem parent_step (k : Nat) (l : List S42) (i j : Int) (h0 : 0 ≤ j) (h1 : j < l.length) : dragomanref06_parent.l0 (k + 1) l i j =
    if ((rd_T42 l j).f0 ≥ 2 ∧ (rd_T42 l j).f0 ≤ 6 ∧ (rd_T42 l j).f2.f0 = i) ∨ (((rd_T42 l j).f0 = 2 ∨ (rd_T42 l j).f0 = 3) ∧ (rd_T42 l j).f2.f1 = i) then some j else dragomanref06_parent.l0 k l i (wrap64 (j + 1)) := by
  generalize hR : dragomanref06_parent.l0 k l i (wrap64 (j + 1)) = R
  unfold dragomanref06_parent.l0
  rw [if_pos h1, if_pos h0, hR]
  generalize (rd_T42 l j).f0 = A
  generalize (rd_T42 l j).f2.f0 = B
  generalize (rd_T42 l j).f2.f1 = C
  by_cases c1 : B = i <;> by_cases c2 : C = i <;> by_cases c3 : A = 2 <;> by_cases c4 : A = 3 <;> by_cases c5 : A ≥ 2 <;> by_cases c6 : A ≤ 6 <;> (first | (exfalso; omega) | (simp [c1, c2, c3, c4, c5, c6]; done))
section
variable {l : List S42} {s : ByteArray} {up : List Int}
theorem kid_up (T : Tree (ndOf l) l.length (fun j => up.getD j 0)) {p i : Nat} (hp : p < l.length) (h : HasKid (ndOf l) p i) : i < p ∧ up.getD i 0 = (p : Int) := by
  rcases h with ⟨h1, h2, h3⟩ | ⟨h1, h3⟩
  · obtain ⟨a, b⟩ := T.kid0 p hp h1 h2
    rw [h3] at a b
    exact ⟨a, b⟩
  · obtain ⟨a, b, _⟩ := T.kid1 p hp h1
    rw [h3] at a b
    exact ⟨a, b⟩
theorem kid_int (hK : KidsOk l) {p i : Nat} (hp : p < l.length) : (((rd_T42 l p).f0 ≥ 2 ∧ (rd_T42 l p).f0 ≤ 6 ∧ (rd_T42 l p).f2.f0 = (i : Int)) ∨ (((rd_T42 l p).f0 = 2 ∨ (rd_T42 l p).f0 = 3) ∧ (rd_T42 l p).f2.f1 = (i : Int))) ↔ HasKid (ndOf l) p i := by
  obtain ⟨k0, k1⟩ := hK p hp
  have hn : ndOf l p = ⟨(rd_T42 l p).f0, hasB (rd_T42 l p).f1, (rd_T42 l p).f2.f0.toNat, (rd_T42 l p).f2.f1.toNat⟩ := rfl
  unfold HasKid
  rw [hn]
  dsimp only
  constructor
  · rintro (⟨h1, h2, h3⟩ | ⟨h1, h3⟩)
    · exact .inl ⟨h1, h2, by omega⟩
    · exact .inr ⟨h1, by omega⟩
  · rintro (⟨h1, h2, h3⟩ | ⟨h1, h3⟩)
    · have := k0 h1 h2; exact .inl ⟨h1, h2, by omega⟩
    · have := k1 h1; exact .inr ⟨h1, by omega⟩
theorem parent_eq (T : Tree (ndOf l) l.length (fun j => up.getD j 0)) (hK : KidsOk l) (hl : l.length ≤ 1000000) (i p : Nat) (hp : p < l.length) (hk : HasKid (ndOf l) p i) : ∀ (d j k : Nat), j + d = p → d < k → dragomanref06_parent.l0 k l i j = some (p : Int) := by
  intro d
  induction d with
  | zero =>
    intro j k hj hd
    obtain ⟨k, rfl⟩ : ∃ m, k = m + 1 := ⟨k - 1, by omega⟩
    have : j = p := by omega
    subst this
    rw [parent_step k l i j (by omega) (by omega), if_pos ((kid_int hK hp).2 hk)]
  | succ d ih =>
    intro j k hj hd
    obtain ⟨k, rfl⟩ : ∃ m, k = m + 1 := ⟨k - 1, by omega⟩
    have hne : ¬ HasKid (ndOf l) j i := fun h => by
      have h1 := (kid_up T (by omega) h).2
      have h2 := (kid_up T hp hk).2
      omega
    rw [parent_step k l i j (by omega) (by omega), if_neg (fun z => hne ((kid_int hK (by omega)).1 z)), show wrap64 ((j : Int) + 1) = ((j + 1 : Nat) : Int) by unfold wrap64; omega]
    exact ih (j + 1) k (by omega) (by omega)
theorem beyond_eq (T : Tree (ndOf l) l.length (fun j => up.getD j 0)) (hK : KidsOk l) (hl : l.length ≤ 1000000) (i a : Nat) (hi : i < l.length - 1) (k : Nat) (hk : l.length + 2 < k) :
    dragomanref06_beyond.f k l i true a = some ((moves (ndOf l) s.size (sb s) (fun j => up.getD j 0) ⟨i, true, a⟩).map to78) := by
  obtain ⟨p, hp0, hpn, hkid⟩ := T.par i hi
  have hp : up.getD i 0 = (p : Nat) := hp0
  have hip := (kid_up T hpn hkid).1
  have h1 := parent_eq T hK hl i p hpn hkid (p - (i + 1)) (i + 1) k (by omega) (by omega)
  unfold dragomanref06_beyond.f dragomanref06_parent.f
  rw [show wrap64 ((i : Int) + 1) = ((i + 1 : Nat) : Int) by unfold wrap64; omega, h1, Option.bind_some, if_pos (by omega), if_pos (by omega)]
  have hmv : moves (ndOf l) s.size (sb s) (fun j => up.getD j 0) ⟨i, true, a⟩ = if (rd_T42 l p).f0 = 4 ∨ (rd_T42 l p).f0 = 5 then [⟨p, true, a⟩, ⟨i, false, a⟩] else if (rd_T42 l p).f0 = 2 ∧ (rd_T42 l p).f2.f0.toNat = i then [⟨(rd_T42 l p).f2.f1.toNat, false, a⟩] else [⟨p, true, a⟩] := by
    unfold moves
    rw [if_pos rfl]
    dsimp only
    rw [if_neg (by rw [hp]; omega), hp, Int.toNat_natCast]
    rfl
  rw [hmv]
  obtain ⟨k, rfl⟩ : ∃ m, k = m + 1 := ⟨k - 1, by omega⟩
  obtain ⟨k0, k1⟩ := hK p hpn
  by_cases c2 : (rd_T42 l p).f0 = 2
  · rw [if_pos c2]
    simp only [dragomanref06_beyond.j0]
    have z0 := k0 (by omega) (by omega)
    have z1 := k1 (.inl c2)
    rw [if_neg (show ¬ ((rd_T42 l p).f0 = 4 ∨ (rd_T42 l p).f0 = 5) by omega)]
    by_cases c0 : (rd_T42 l p).f2.f0 = (i : Int)
    · rw [if_pos (beq_iff_eq.2 c0), if_pos (by omega), if_pos (by omega), if_pos ⟨c2, by omega⟩]
      simp only [List.map_cons, List.map_nil, to78, Option.some.injEq, List.cons.injEq, S78.mk.injEq, and_true, true_and]
      omega
    · rw [if_neg (fun z => c0 (beq_iff_eq.1 z)), if_pos (by omega), if_pos (by omega), if_neg (by omega), if_neg (by omega), if_neg (by omega)]
      rfl
  · rw [if_neg c2]
    simp only [dragomanref06_beyond.j0]
    rw [if_neg (show ¬ false = true by decide), if_pos (by omega), if_pos (by omega), if_neg (show ¬ ((rd_T42 l p).f0 = 2 ∧ (rd_T42 l p).f2.f0.toNat = i) by omega)]
    by_cases c4 : (rd_T42 l p).f0 = 4
    · rw [if_pos c4, if_pos (.inl c4)]; rfl
    rw [if_neg c4]
    by_cases c5 : (rd_T42 l p).f0 = 5
    · rw [if_pos c5, if_pos (.inr c5)]; rfl
    rw [if_neg c5, if_neg (by omega)]; rfl
theorem wrap_u64 (n : Int) (h0 : 0 ≤ n) (h1 : n < 2 ^ 64) : IntKind.u64.wrap n = n := by
  simp only [IntKind.wrap, IntKind.bits, IntKind.signed]
  simp
  omega
theorem sel_ok (y : S39) (hy : Ok39 y) (i : Int) : 0 ≤ sel y.f0 y.f1 y.f2 y.f3 i ∧ sel y.f0 y.f1 y.f2 y.f3 i < 2 ^ 64 := by
  obtain ⟨h0, h1, h2, h3⟩ := hy
  have b0 := bounds_u64 h0
  have b1 := bounds_u64 h1
  have b2 := bounds_u64 h2
  have b3 := bounds_u64 h3
  unfold sel
  split
  · omega
  split
  · omega
  split <;> omega
theorem half_eq (v : Int) (n : Nat) (h0 : 0 ≤ v) (h1 : v < 2 ^ 64) (hn : n < 64) : ((IntKind.u64.wrap (Int.tdiv v (IntKind.u64.wrap (2 ^ n)))).tmod 2 == 1) = (bits .and .u64 (v / 2 ^ n) 1 == 1) := by
  have hp : (0 : Int) < 2 ^ n := by exact Int.pow_pos (by decide)
  have hp2 : (2 : Int) ^ n < 2 ^ 64 := Int.pow_lt_pow_of_lt (by decide) hn
  rw [wrap_u64 (2 ^ n) (Int.le_of_lt hp) hp2, Int.tdiv_eq_ediv_of_nonneg h0]
  have q0 : 0 ≤ v / 2 ^ n := Int.ediv_nonneg h0 (Int.le_of_lt hp)
  have q1 : v / 2 ^ n < 2 ^ 64 := Int.lt_of_le_of_lt (Int.ediv_le_self _ h0) h1
  rw [wrap_u64 _ q0 q1, Int.tmod_eq_emod_of_nonneg q0]
  have := bits_mask .u64 64 (by decide) wrap_u64 1 (by decide) (v / 2 ^ n) q0 q1
  rw [show (2 : Int) ^ 1 - 1 = 1 from rfl, show (2 : Int) ^ 1 = 2 from rfl] at this
  rw [this]
theorem ref_has (y : S39) (hy : Ok39 y) (c : Nat) (h : c ≤ 255) : ref04_Has.f y.f0 y.f1 y.f2 y.f3 (c : Int) = some (hasB y c) := by
  unfold ref04_Has.f hasB
  rw [if_pos ⟨by omega, by omega⟩]
  obtain ⟨h0, h1⟩ := sel_ok y hy ((c : Int) / 64)
  rw [half_eq _ _ h0 h1 (by omega)]
theorem ok_at (hO : ∀ x, x ∈ l → Ok42 x) (i : Nat) (hi : i < l.length) : Ok42 (rd_T42 l i) := by
  unfold rd_T42
  rw [Int.toNat_natCast, List.getD_eq_getElem?_getD, List.getElem?_eq_getElem hi]
  exact hO _ (List.getElem_mem hi)
theorem wrap_succ (a : Nat) (h : a ≤ 1000000) : wrap64 ((a : Int) + 1) = ((a + 1 : Nat) : Int) := by unfold wrap64; omega
set_option maxHeartbeats 4000000 in
theorem within_eq (T : Tree (ndOf l) l.length (fun j => up.getD j 0)) (hK : KidsOk l) (hO : ∀ x, x ∈ l → Ok42 x) (i a : Nat) (hi : i < l.length) (ha : a ≤ s.size) (hs : s.size ≤ 100000) (k : Nat) (hk : 5 < k) :
    dragomanref06_within.f k l s i false a = some ((moves (ndOf l) s.size (sb s) (fun j => up.getD j 0) ⟨i, false, a⟩).map to78) := by
  have kinds : 0 ≤ (rd_T42 l i).f0 ∧ (rd_T42 l i).f0 ≤ 8 := T.kinds i hi
  obtain ⟨k0, k1⟩ := hK i hi
  have hok := ok_at hO i hi
  have hmv : moves (ndOf l) s.size (sb s) (fun j => up.getD j 0) ⟨i, false, a⟩ = if (rd_T42 l i).f0 = 0 ∨ ((rd_T42 l i).f0 = 7 ∧ a = 0) ∨ ((rd_T42 l i).f0 = 8 ∧ a = s.size) then [⟨i, true, a⟩]
    else if (rd_T42 l i).f0 = 1 then (if a < s.size ∧ hasB (rd_T42 l i).f1 (sb s a) = true then [⟨i, true, a + 1⟩] else [])
    else if (rd_T42 l i).f0 = 2 ∨ (rd_T42 l i).f0 = 5 then [⟨(rd_T42 l i).f2.f0.toNat, false, a⟩]
    else if (rd_T42 l i).f0 = 3 then [⟨(rd_T42 l i).f2.f0.toNat, false, a⟩, ⟨(rd_T42 l i).f2.f1.toNat, false, a⟩]
    else if (rd_T42 l i).f0 = 4 ∨ (rd_T42 l i).f0 = 6 then [⟨i, true, a⟩, ⟨(rd_T42 l i).f2.f0.toNat, false, a⟩]
    else [] := by
    unfold moves
    rw [if_neg (show ¬ false = true by decide)]
    rfl
  rw [hmv]
  obtain ⟨k, rfl⟩ : ∃ m, k = m + 5 := ⟨k - 5, by omega⟩
  unfold dragomanref06_within.f
  rw [if_pos (by omega), if_pos (by omega), bt_sb, ref_has _ hok.2.1 _ (sb_le s a), Option.bind_some]
  simp only [dragomanref06_within.j0, dragomanref06_within.j1, dragomanref06_within.j2]
  generalize (rd_T42 l i).f0 = A at *
  generalize hB : (rd_T42 l i).f2.f0 = B at *
  generalize hC : (rd_T42 l i).f2.f1 = C at *
  generalize hasB (rd_T42 l i).f1 (sb s a) = R at *
  have e7 : ((a : Int) = 0) = (a = 0) := by apply propext; omega
  have e8 : ((a : Int) = (s.size : Int)) = (a = s.size) := by apply propext; omega
  have e1 : ((a : Int) < (s.size : Int)) = (a < s.size) := by apply propext; omega
  have hA : A = 0 ∨ A = 1 ∨ A = 2 ∨ A = 3 ∨ A = 4 ∨ A = 5 ∨ A = 6 ∨ A = 7 ∨ A = 8 := by omega
  have hc2 : A = 2 ∨ A = 3 ∨ A = 4 ∨ A = 5 ∨ A = 6 → ((B.toNat : Nat) : Int) = B := fun h => by have := k0 (by omega) (by omega); omega
  have hc3 : A = 3 → ((C.toNat : Nat) : Int) = C := fun h => by have := k1 (.inr h); omega
  have hw := wrap_succ a (by omega)
  simp only [hw, e7, e8, e1]
  clear hw
  rcases hA with h | h | h | h | h | h | h | h | h
  · simp [h, to78]
  · by_cases q : a < s.size <;> cases R <;> simp [h, q, to78]
  · have := hc2 (by omega); simp [h, to78, this]
  · have := hc2 (by omega); have := hc3 h; simp [h, to78, *]
  · have := hc2 (by omega); simp [h, to78, this]
  · have := hc2 (by omega); simp [h, to78, this]
  · have := hc2 (by omega); simp [h, to78, this]
  · by_cases q : a = 0 <;> simp [h, q, to78]
  · by_cases q : a = s.size <;> simp [h, q, to78]
end
end Go.Proofs.Ytmhkofgappbpjaa.P
end

/- dragomanref06.from1 comes to all places to which the tree stands, as match.ends does. -/
section
set_option linter.unusedVariables false
set_option linter.unusedSimpArgs false
namespace Go.Proofs.Ytmhkofgappbpjaa.P
open Go.RowKit Go.Proofs.YtmhkofgappbpjaaW.PrintWords Go.Proofs.Ytmhkofgappbpjaa.QA Go.Proofs.Ytmhkofgappbpjaa.QB Go.Proofs.Ytmhkofgappbpjaa.G Go.Proofs.Ytmhkofgappbpjaa.Mt
def ix2 (m : Nat) (x : St) : Nat := (x.node * m + x.at_) * 2 + (if x.ended = true then 1 else 0)
theorem ix2_lt {n m : Nat} {x : St} (h : Vl n m x) : ix2 m x < n * m * 2 := by
  have := idx_lt h.1 h.2
  unfold ix2
  split <;> omega
theorem ix2_inj {n m : Nat} {x y : St} (hx : Vl n m x) (hy : Vl n m y) (h : ix2 m x = ix2 m y) : x = y := by
  obtain ⟨i, e, a⟩ := x
  obtain ⟨j, f, b⟩ := y
  unfold ix2 at h
  dsimp only at h
  have he : e = f := by cases e <;> cases f <;> simp at h <;> first | rfl | omega
  subst he
  obtain ⟨rfl, rfl⟩ := div_mod_eq hx.2 hy.2 (show i * m + a = j * m + b by split at h <;> omega)
  rfl
section
variable {l : List S42} {s : ByteArray} {up : List Int}
theorem moves_two (nd : Nat → Nd) (L : Nat) (b : Nat → Nat) (u : Nat → Int) (x : St) : (moves nd L b u x).length ≤ 2 := by
  unfold moves
  by_cases h1 : x.ended = true
  · rw [if_pos h1]
    by_cases h2 : u x.node < 0
    · rw [if_pos h2]; simp
    · rw [if_neg h2]
      dsimp only
      split
      · simp
      · split <;> simp
  · rw [if_neg h1]
    repeat' split
    all_goals simp
theorem ok_mv2 (T : Tree (ndOf l) l.length (fun j => up.getD j 0)) : Ok (moves (ndOf l) s.size (sb s) (fun j => up.getD j 0)) (ix2 (s.size + 1)) (l.length * (s.size + 1) * 2) (Vl l.length (s.size + 1)) :=
  ⟨fun x y hx hy h => ix2_inj hx hy h, fun x hx => ix2_lt hx, fun x y hx hy => moves_valid T x y hx hy⟩
theorem from1L_run (T : Tree (ndOf l) l.length (fun j => up.getD j 0)) (hK : KidsOk l) (hO : ∀ x, x ∈ l → Ok42 x) (hs : s.size ≤ 100000) (hl : l.length ≤ 100000) : ∀ (j : Nat) (out seen : List Bool) (wait : List St) (r : List Bool), (∀ x, x ∈ wait → Vl l.length (s.size + 1) x) → wait.length + 2 * j ≤ 1000000 →
    run2 (moves (ndOf l) s.size (sb s) (fun j => up.getD j 0)) (ix2 (s.size + 1)) (l.length - 1) j out seen wait = some r → from1L l s (j + (l.length + 10)) out seen (wait.map to78) = some r
  | 0, _, _, _, _, _, _, h => by cases h
  | j + 1, out, seen, wait, r, hv, hc, h => by
    rw [show j + 1 + (l.length + 10) = (j + (l.length + 10)) + 1 by omega]
    unfold run2 at h
    unfold from1L
    rw [getLast_map]
    cases hg : wait.getLast? with
    | none => rw [hg] at h; exact h
    | some x =>
      rw [hg] at h
      obtain ⟨init, rfl⟩ := List.getLast?_eq_some_iff.1 hg
      have hx := hv x (by simp)
      have hc' : init.length + 1 + 2 * (j + 1) ≤ 1000000 := by simpa using hc
      have hvi : ∀ y, y ∈ init → Vl l.length (s.size + 1) y := fun y hy => hv y (by simp [hy])
      rw [Option.map_some]
      dsimp only at h ⊢
      rw [List.dropLast_concat] at h
      rw [List.map_append, List.map_cons, List.map_nil, List.dropLast_concat]
      obtain ⟨i, e, a⟩ := x
      have h1 := hx.1
      have h2 := hx.2
      dsimp only at h1 h2 h
      rw [show (to78 ⟨i, e, a⟩).f0 = (i : Int) from rfl, show (to78 ⟨i, e, a⟩).f1 = e from rfl, show (to78 ⟨i, e, a⟩).f2 = (a : Int) from rfl]
      rw [if_pos ⟨by omega, by omega, by omega, by omega, by simp; omega⟩, Int.toNat_natCast, Int.toNat_natCast]
      rw [show (i * (s.size + 1) + a) * 2 + (if e = true then 1 else 0) = ix2 (s.size + 1) ⟨i, e, a⟩ from rfl]
      by_cases hsv : seen.getD (ix2 (s.size + 1) ⟨i, e, a⟩) false = true
      · rw [if_pos hsv] at h ⊢
        exact from1L_run T hK hO hs hl j out seen init r hvi (by omega) h
      rw [if_neg hsv] at h ⊢
      have hvm := fun y hy => moves_valid (s := s) T ⟨i, e, a⟩ y hx hy
      have hm2 := moves_two (ndOf l) s.size (sb s) (fun j => up.getD j 0) ⟨i, e, a⟩
      have hvn : ∀ y, y ∈ init ++ moves (ndOf l) s.size (sb s) (fun j => up.getD j 0) ⟨i, e, a⟩ → Vl l.length (s.size + 1) y := fun y hy => (List.mem_append.1 hy).elim (hvi y) (hvm y)
      cases e with
      | true =>
        rw [if_pos rfl]
        by_cases hr : i = l.length - 1
        · rw [if_pos ⟨rfl, hr⟩] at h
          rw [if_pos (by omega)]
          exact from1L_run T hK hO hs hl j _ _ init r hvi (by omega) h
        · rw [if_neg (fun z => hr z.2)] at h
          rw [if_neg (by omega), beyond_eq (s := s) T hK (by omega) i a (by omega) _ (by omega), Option.bind_some, if_pos (by rw [List.length_map]; omega), ← List.map_append]
          exact from1L_run T hK hO hs hl j _ _ _ r hvn (by rw [List.length_append]; omega) h
      | false =>
        rw [if_neg (fun z => by cases z.1)] at h
        rw [if_neg (show ¬ false = true by decide), within_eq T hK hO i a h1 (by omega) hs _ (by omega), Option.bind_some, if_pos (by rw [List.length_map]; omega), ← List.map_append]
        exact from1L_run T hK hO hs hl j _ _ _ r hvn (by rw [List.length_append]; omega) h
theorem from1_spec (T : Tree (ndOf l) l.length (fun j => up.getD j 0)) (hK : KidsOk l) (hO : ∀ x, x ∈ l → Ok42 x) (hb : l.length * (s.size + 1) ≤ 50000) (a : Nat) (ha : a ≤ s.size) (k : Nat) (hk : 6 * (l.length * (s.size + 1)) + l.length + 12 ≤ k) :
    ref06_from1.f k l s a = some (EL l s a) := by
  have hn := T.pos
  have hs : s.size ≤ 100000 := by
    have : 1 * (s.size + 1) ≤ l.length * (s.size + 1) := Nat.mul_le_mul_right _ (by omega)
    omega
  have hl : l.length ≤ 100000 := by
    have : l.length * 1 ≤ l.length * (s.size + 1) := Nat.mul_le_mul_left _ (by omega)
    omega
  have hst : Vl l.length (s.size + 1) ⟨l.length - 1, false, a⟩ := ⟨by show l.length - 1 < _; omega, by show a < _; omega⟩
  unfold ref06_from1.f
  rw [if_pos ⟨by omega, by omega, hs, hl, by omega⟩]
  have hI : Inv2 (moves (ndOf l) s.size (sb s) (fun j => up.getD j 0)) (ix2 (s.size + 1)) (l.length - 1) (l.length * (s.size + 1) * 2) (s.size + 1) (Vl l.length (s.size + 1)) ⟨l.length - 1, false, a⟩ (List.replicate (s.size + 1) false) (List.replicate (l.length * (s.size + 1) * 2) false) [⟨l.length - 1, false, a⟩] := by
    refine ⟨by simp, by simp, ?_, ?_, ?_, .inl (by simp), ?_, ?_⟩
    · intro x hx
      simp at hx; subst hx
      exact ⟨hst, .refl _⟩
    · intro x hx h
      rw [repl_get] at h; cases h
    · intro x hx h
      rw [repl_get] at h; cases h
    · intro q h
      rw [repl_get] at h; cases h
    · intro q hq h
      rw [repl_get] at h; cases h
  obtain ⟨out', h3, h4, h5⟩ := run2_spec (ok_mv2 (s := s) T) (moves_two _ _ _ _) (s.size + 1) ⟨l.length - 1, false, a⟩ (root := l.length - 1) (fun q hq => ⟨hq.2, by
      unfold moves
      rw [if_pos rfl, if_pos ((up_root T _ hq.1).2 rfl)]⟩) hst (6 * (l.length * (s.size + 1)) + 2) _ _ _ hI (by rw [fls_repl]; simp only [List.length_cons, List.length_nil]; omega)
  have h6 := from1L_run T hK hO hs hl (6 * (l.length * (s.size + 1)) + 2) _ _ _ _ (fun x hx => by simp at hx; subst hx; exact hst) (by simp only [List.length_cons, List.length_nil]; omega) h3
  have h7 : out' = EL l s a := by
    apply bools_ext (by rw [h4, EL_length])
    intro b hb2
    rw [h4] at hb2
    rw [h5 b ⟨by show l.length - 1 < _; omega, hb2⟩, EL_get l s a b (by omega)]
    exact Mt.steps_iff T
  rw [h7] at h6
  have h8 := at_rounds (fun k => from1L_mono l s k _ _ _) (show 6 * (l.length * (s.size + 1)) + 2 + (l.length + 10) ≤ k by omega) h6
  rw [List.map_cons, List.map_nil, show to78 ⟨l.length - 1, false, a⟩ = (⟨(l.length : Int) - 1, false, (a : Int)⟩ : S78) by unfold to78; simp; omega] at h8
  exact h8
end
end Go.Proofs.Ytmhkofgappbpjaa.P
end

/- A right tree: each node but the root is one's kid, and of one alone; match.parents tells whose. -/
section
set_option linter.unusedVariables false
set_option linter.unusedSimpArgs false
namespace Go.Proofs.Ytmhkofgappbpjaa.P
open Go.RowKit Go.Proofs.YtmhkofgappbpjaaW.PrintWords Go.Proofs.Ytmhkofgappbpjaa.QA Go.Proofs.Ytmhkofgappbpjaa.G Go.Proofs.Ytmhkofgappbpjaa.Mt
/-- p has j as a kid. -/
def KidI (l : List S42) (p j : Nat) : Prop := (2 ≤ (rd_T42 l p).f0 ∧ (rd_T42 l p).f0 ≤ 6 ∧ (rd_T42 l p).f2.f0 = (j : Int)) ∨ (((rd_T42 l p).f0 = 2 ∨ (rd_T42 l p).f0 = 3) ∧ (rd_T42 l p).f2.f1 = (j : Int))
/-- The nodes from b to i are one tree. -/
inductive SubT (l : List S42) : Nat → Nat → Prop
  | leaf {i : Nat} : ((rd_T42 l i).f0 = 0 ∨ (rd_T42 l i).f0 = 1 ∨ (rd_T42 l i).f0 = 7 ∨ (rd_T42 l i).f0 = 8) → SubT l i i
  | un {b i : Nat} : 1 ≤ i → 4 ≤ (rd_T42 l i).f0 → (rd_T42 l i).f0 ≤ 6 → (rd_T42 l i).f2.f0 = (i : Int) - 1 → SubT l b (i - 1) → SubT l b i
  | bin {b c i : Nat} : 1 ≤ i → ((rd_T42 l i).f0 = 2 ∨ (rd_T42 l i).f0 = 3) → SubT l c (i - 1) → 1 ≤ c → (rd_T42 l i).f2.f0 = (c : Int) - 1 → (rd_T42 l i).f2.f1 = (i : Int) - 1 → SubT l b (c - 1) → SubT l b i
structure SubP (l : List S42) (b i : Nat) : Prop where
  le : b ≤ i
  kinds : ∀ j, b ≤ j → j ≤ i → 0 ≤ (rd_T42 l j).f0 ∧ (rd_T42 l j).f0 ≤ 8
  k0 : ∀ j, b ≤ j → j ≤ i → 2 ≤ (rd_T42 l j).f0 → (rd_T42 l j).f0 ≤ 6 → (b : Int) ≤ (rd_T42 l j).f2.f0 ∧ (rd_T42 l j).f2.f0 < j
  k1 : ∀ j, b ≤ j → j ≤ i → ((rd_T42 l j).f0 = 2 ∨ (rd_T42 l j).f0 = 3) → (b : Int) ≤ (rd_T42 l j).f2.f1 ∧ (rd_T42 l j).f2.f1 < j ∧ (rd_T42 l j).f2.f0 ≠ (rd_T42 l j).f2.f1
  par : ∀ j, b ≤ j → j < i → ∃ p, b ≤ p ∧ p ≤ i ∧ KidI l p j
  uniq : ∀ p q j, b ≤ p → p ≤ i → b ≤ q → q ≤ i → KidI l p j → KidI l q j → p = q
theorem SubP.kid {l : List S42} {b i : Nat} (h : SubP l b i) {p j : Nat} (h1 : b ≤ p) (h2 : p ≤ i) (h3 : KidI l p j) : b ≤ j ∧ j < p := by
  rcases h3 with ⟨a, c, d⟩ | ⟨a, d⟩
  · have := h.k0 p h1 h2 a c; omega
  · have := h.k1 p h1 h2 a; omega
theorem SubT.prop {l : List S42} {b i : Nat} (h : SubT l b i) : SubP l b i := by
  induction h with
  | @leaf i hk =>
    refine ⟨Nat.le_refl _, fun j h1 h2 => ?_, fun j h1 h2 h3 h4 => ?_, fun j h1 h2 h3 => ?_, fun j h1 h2 => by omega, fun p q j h1 h2 h3 h4 _ _ => by omega⟩
    · obtain rfl : j = i := by omega
      omega
    · obtain rfl : j = i := by omega
      omega
    · obtain rfl : j = i := by omega
      omega
  | @un b i hi h4 h6 h0 _ ih =>
    have hle := ih.le
    have root : ∀ j, KidI l i j → j = i - 1 := fun j hj => by
      rcases hj with ⟨_, _, d⟩ | ⟨a, _⟩ <;> omega
    refine ⟨by omega, fun j h1 h2 => ?_, fun j h1 h2 h3 h5 => ?_, fun j h1 h2 h3 => ?_, fun j h1 h2 => ?_, fun p q j h1 h2 h3 h5 hp hq => ?_⟩
    · by_cases e : j = i
      · subst e; omega
      · exact ih.kinds j h1 (by omega)
    · by_cases e : j = i
      · subst e; omega
      · exact ih.k0 j h1 (by omega) h3 h5
    · by_cases e : j = i
      · subst e; omega
      · exact ih.k1 j h1 (by omega) h3
    · by_cases e : j = i - 1
      · exact ⟨i, by omega, Nat.le_refl _, .inl ⟨by omega, h6, by omega⟩⟩
      · obtain ⟨p, g1, g2, g3⟩ := ih.par j h1 (by omega)
        exact ⟨p, g1, by omega, g3⟩
    · by_cases e : p = i <;> by_cases f : q = i
      · omega
      · subst e
        have := root j hp
        have := (ih.kid h3 (by omega) hq).2
        omega
      · subst f
        have := root j hq
        have := (ih.kid h1 (by omega) hp).2
        omega
      · exact ih.uniq p q j h1 (by omega) h3 (by omega) hp hq
  | @bin b c i hi hk _ hc h0 h1' _ ihr ihl =>
    have hl1 := ihl.le
    have hr1 := ihr.le
    have root : ∀ j, KidI l i j → j = c - 1 ∨ j = i - 1 := fun j hj => by
      rcases hj with ⟨_, _, d⟩ | ⟨a, d⟩ <;> omega
    refine ⟨by omega, fun j h1 h2 => ?_, fun j h1 h2 h3 h5 => ?_, fun j h1 h2 h3 => ?_, fun j h1 h2 => ?_, fun p q j h1 h2 h3 h5 hp hq => ?_⟩
    · by_cases e : j = i
      · subst e; omega
      by_cases f : j < c
      · exact ihl.kinds j h1 (by omega)
      · exact ihr.kinds j (by omega) (by omega)
    · by_cases e : j = i
      · subst e; omega
      by_cases f : j < c
      · exact ihl.k0 j h1 (by omega) h3 h5
      · have := ihr.k0 j (by omega) (by omega) h3 h5; omega
    · by_cases e : j = i
      · subst e; omega
      by_cases f : j < c
      · exact ihl.k1 j h1 (by omega) h3
      · have := ihr.k1 j (by omega) (by omega) h3
        exact ⟨by omega, this.2.1, this.2.2⟩
    · by_cases e : j = i - 1
      · exact ⟨i, by omega, Nat.le_refl _, .inr ⟨hk, by omega⟩⟩
      by_cases e2 : j = c - 1
      · exact ⟨i, by omega, Nat.le_refl _, .inl ⟨by omega, by omega, by omega⟩⟩
      by_cases f : j < c
      · obtain ⟨p, g1, g2, g3⟩ := ihl.par j h1 (by omega)
        exact ⟨p, g1, by omega, g3⟩
      · obtain ⟨p, g1, g2, g3⟩ := ihr.par j (by omega) (by omega)
        exact ⟨p, by omega, by omega, g3⟩
    · have left : ∀ p, b ≤ p → p < c → KidI l p j → b ≤ j ∧ j < p := fun p a b k => ihl.kid a (by omega) k
      have right : ∀ p, c ≤ p → p < i → KidI l p j → c ≤ j ∧ j < p := fun p a b k => ihr.kid a (by omega) k
      by_cases e : p = i <;> by_cases f : q = i
      · omega
      · subst e
        have z := root j hp
        by_cases g : q < c
        · have := left q h3 g hq; omega
        · have := right q (by omega) (by omega) hq; omega
      · subst f
        have z := root j hq
        by_cases g : p < c
        · have := left p h1 g hp; omega
        · have := right p (by omega) (by omega) hp; omega
      · by_cases g : p < c <;> by_cases g2 : q < c
        · exact ihl.uniq p q j h1 (by omega) h3 (by omega) hp hq
        · have := left p h1 g hp; have := right q (by omega) (by omega) hq; omega
        · have := right p (by omega) (by omega) hp; have := left q h3 g2 hq; omega
        · exact ihr.uniq p q j (by omega) (by omega) (by omega) (by omega) hp hq
theorem kids_ok {l : List S42} (h : SubP l 0 (l.length - 1)) : KidsOk l := fun i hi => ⟨fun a b => by have := h.k0 i (by omega) (by omega) a b; omega, fun a => by have := h.k1 i (by omega) (by omega) a; omega⟩
theorem kidI_iff {l : List S42} (h : SubP l 0 (l.length - 1)) {p j : Nat} (hp : p < l.length) : KidI l p j ↔ HasKid (ndOf l) p j := kid_int (kids_ok h) hp
theorem tree_of {l : List S42} {up : List Int} (hn : 0 < l.length) (h : SubP l 0 (l.length - 1)) (hup : ∀ j, j < l.length → (∃ p, p < l.length ∧ KidI l p j ∧ up.getD j 0 = (p : Int)) ∨ ((∀ p, p < l.length → ¬ KidI l p j) ∧ up.getD j 0 = -1)) :
    Tree (ndOf l) l.length (fun j => up.getD j 0) := by
  have hk := kids_ok h
  have of_kid : ∀ p j, p < l.length → KidI l p j → j < p ∧ up.getD j 0 = (p : Int) := fun p j hp hj => by
    have h1 := h.kid (Nat.zero_le _) (by omega) hj
    rcases hup j (by omega) with ⟨q, hq, hqj, e⟩ | ⟨hno, _⟩
    · rw [h.uniq p q j (by omega) (by omega) (by omega) (by omega) hj hqj]
      rw [h.uniq p q j (by omega) (by omega) (by omega) (by omega) hj hqj] at h1
      exact ⟨h1.2, e⟩
    · exact absurd hj (hno p hp)
  refine ⟨hn, fun i hi => h.kinds i (by omega) (by omega), fun i hi h2 h6 => ?_, fun i hi h23 => ?_, ?_, fun i hi => ?_⟩
  · have hkid : KidI l i (ndOf l i).k0 := (kidI_iff h hi).2 (.inl ⟨h2, h6, rfl⟩)
    exact of_kid i _ hi hkid
  · have hkid : KidI l i (ndOf l i).k1 := (kidI_iff h hi).2 (.inr ⟨h23, rfl⟩)
    have a := of_kid i _ hi hkid
    have b := h.k1 i (by omega) (by omega) h23
    have c := h.k0 i (by omega) (by omega) (by have : (ndOf l i).kind = (rd_T42 l i).f0 := rfl; omega) (by have : (ndOf l i).kind = (rd_T42 l i).f0 := rfl; omega)
    refine ⟨a.1, a.2, ?_⟩
    show (rd_T42 l i).f2.f0.toNat ≠ (rd_T42 l i).f2.f1.toNat
    omega
  · rcases hup (l.length - 1) (by omega) with ⟨q, hq, hqj, e⟩ | ⟨_, e⟩
    · have := h.kid (Nat.zero_le q) (by omega) hqj
      omega
    · exact e
  · obtain ⟨p, _, g2, g3⟩ := h.par i (by omega) (by omega)
    have := of_kid p i (by omega) g3
    exact ⟨p, this.2, by omega, (kidI_iff h (by omega)).1 g3⟩
end Go.Proofs.Ytmhkofgappbpjaa.P
end

/- What is right is one tree; what match.parents tells. -/
section
set_option linter.unusedVariables false
set_option linter.unusedSimpArgs false
namespace Go.Proofs.Ytmhkofgappbpjaa.P
open Go.RowKit Go.Proofs.YtmhkofgappbpjaaW.PrintWords Go.Proofs.Ytmhkofgappbpjaa.QA Go.Proofs.Ytmhkofgappbpjaa.G Go.Proofs.Ytmhkofgappbpjaa.Mt
theorem wrap_pred (a : Nat) (h : a ≤ 1000000) (h1 : 1 ≤ a) : wrap64 ((a : Int) - 1) = ((a - 1 : Nat) : Int) := by unfold wrap64; omega
theorem par_fill (l : List S42) (hl : l.length ≤ 1000000) : ∀ (d i k : Nat) (x : List Int), i + d = l.length → x.length = l.length → d < k → (∀ j, j < i → x.getD j 0 = -1) →
    ∃ x', x'.length = l.length ∧ (∀ j, j < l.length → x'.getD j 0 = -1) ∧ match_parents.l0 k l x (l.length : Int) i = match_parents.l1 (k - d - 1) x' l (l.length : Int) 0 := by
  intro d
  induction d with
  | zero =>
    intro i k x hi hx hk hf
    obtain ⟨k, rfl⟩ : ∃ m, k = m + 1 := ⟨k - 1, by omega⟩
    refine ⟨x, hx, fun j hj => hf j (by omega), ?_⟩
    simp only [match_parents.l0]
    rw [if_neg (by omega)]
    rfl
  | succ d ih =>
    intro i k x hi hx hk hf
    obtain ⟨k, rfl⟩ : ∃ m, k = m + 1 := ⟨k - 1, by omega⟩
    obtain ⟨x', h1, h2, h3⟩ := ih (i + 1) k (x.set i (-1)) (by omega) (by rw [List.length_set, hx]) (by omega) (fun j hj => by
      rw [List.getD_eq_getElem?_getD, List.getElem?_set]
      by_cases e : i = j
      · rw [if_pos e, if_pos (by omega)]; rfl
      · rw [if_neg e, ← List.getD_eq_getElem?_getD]; exact hf j (by omega))
    refine ⟨x', h1, h2, ?_⟩
    simp only [match_parents.l0]
    rw [if_pos (by omega), if_pos (by omega), if_pos (by omega), Int.toNat_natCast, wrap_succ i (by omega), h3]
    congr 1
    omega
theorem getD_set_int (x : List Int) (i j : Nat) (v : Int) (h : i < x.length) : (x.set i v).getD j 0 = if i = j then v else x.getD j 0 := by
  simp only [List.getD_eq_getElem?_getD, List.getElem?_set]
  by_cases e : i = j
  · subst e; simp [h]
  · simp [e]
/-- What has been told of the first m nodes' kids. -/
def Told (l : List S42) (m : Nat) (x : List Int) : Prop := ∀ j, j < l.length → (∃ p, p < m ∧ KidI l p j ∧ x.getD j 0 = (p : Int)) ∨ ((∀ p, p < m → ¬ KidI l p j) ∧ x.getD j 0 = -1)
theorem told_step {l : List S42} (h : SubP l 0 (l.length - 1)) {m : Nat} {x x' : List Int} (hm : m < l.length) (ht : Told l m x) (hx : ∀ j, j < l.length → (KidI l m j ∧ x'.getD j 0 = (m : Int)) ∨ (¬ KidI l m j ∧ x'.getD j 0 = x.getD j 0)) : Told l (m + 1) x' := by
  intro j hj
  rcases hx j hj with ⟨a, b⟩ | ⟨a, b⟩
  · exact .inl ⟨m, by omega, a, b⟩
  · rcases ht j hj with ⟨p, h1, h2, h3⟩ | ⟨h1, h2⟩
    · exact .inl ⟨p, by omega, h2, by rw [b, h3]⟩
    · refine .inr ⟨fun p hp => ?_, by rw [b, h2]⟩
      by_cases e : p = m
      · rw [e]; exact a
      · exact h1 p (by omega)
theorem par_loop {l : List S42} (hl : l.length ≤ 1000000) (h : SubP l 0 (l.length - 1)) : ∀ (d m k : Nat) (x : List Int), m + d = l.length → x.length = l.length → 2 * d < k → Told l m x →
    ∃ x', x'.length = l.length ∧ Told l l.length x' ∧ match_parents.l1 k x l (l.length : Int) m = some x' := by
  intro d
  induction d with
  | zero =>
    intro m k x hm hx hk ht
    obtain ⟨k, rfl⟩ : ∃ j, k = j + 1 := ⟨k - 1, by omega⟩
    obtain rfl : m = l.length := by omega
    refine ⟨x, hx, ht, ?_⟩
    simp only [match_parents.l1]
    rw [if_neg (by omega)]
  | succ d ih =>
    intro m k x hm hx hk ht
    obtain ⟨k, rfl⟩ : ∃ j, k = j + 2 := ⟨k - 2, by omega⟩
    have kinds := h.kinds m (by omega) (by omega)
    have k0 := h.k0 m (by omega) (by omega)
    have k1 := h.k1 m (by omega) (by omega)
    have go : ∀ x' : List Int, x'.length = l.length → Told l (m + 1) x' → ∃ x'', x''.length = l.length ∧ Told l l.length x'' ∧ match_parents.l1 k x' l (l.length : Int) (wrap64 ((m : Int) + 1)) = some x'' := fun x' h1 h2 => by
      rw [wrap_succ m (by omega)]
      exact ih (m + 1) k x' (by omega) h1 (by omega) h2
    simp only [match_parents.l1]
    rw [if_pos (by omega), if_pos (by omega), if_pos (by omega)]
    by_cases h23 : (rd_T42 l m).f0 = 2 ∨ (rd_T42 l m).f0 = 3
    · have e1 := k1 h23
      have e0 := k0 (by omega) (by omega)
      obtain ⟨a, ha⟩ := Int.eq_ofNat_of_zero_le (show 0 ≤ (rd_T42 l m).f2.f0 by omega)
      obtain ⟨b, hb⟩ := Int.eq_ofNat_of_zero_le (show 0 ≤ (rd_T42 l m).f2.f1 by omega)
      have hT : Told l (m + 1) ((x.set b m).set a m) := told_step h (by omega) ht (fun j hj => by
        rw [getD_set_int _ _ _ _ (by rw [List.length_set]; omega)]
        by_cases ea : a = j
        · rw [if_pos ea]; exact .inl ⟨.inl ⟨by omega, by omega, by omega⟩, rfl⟩
        · rw [if_neg ea, getD_set_int _ _ _ _ (by omega)]
          by_cases eb : b = j
          · rw [if_pos eb]; exact .inl ⟨.inr ⟨h23, by omega⟩, rfl⟩
          · rw [if_neg eb]
            refine .inr ⟨?_, rfl⟩
            rintro (⟨_, _, z⟩ | ⟨_, z⟩) <;> omega)
      obtain ⟨x'', g1, g2, g3⟩ := go _ (by rw [List.length_set, List.length_set, hx]) hT
      refine ⟨x'', g1, g2, ?_⟩
      by_cases c2 : (rd_T42 l m).f0 = 2
      · rw [if_pos c2]
        simp only [match_parents.j2]
        rw [if_pos (beq_iff_eq.2 c2), if_pos (by omega), if_pos (by omega), if_pos (by omega), if_pos (by omega), ha, hb, Int.toNat_natCast, Int.toNat_natCast]
        exact g3
      · rw [if_neg c2]
        simp only [match_parents.j2]
        rw [if_pos (beq_iff_eq.2 (by omega)), if_pos (by omega), if_pos (by omega), if_pos (by omega), if_pos (by omega), ha, hb, Int.toNat_natCast, Int.toNat_natCast]
        exact g3
    · rw [if_neg (by omega)]
      simp only [match_parents.j2]
      rw [if_neg (show ¬ ((rd_T42 l m).f0 == 3) = true by rw [beq_iff_eq]; omega)]
      by_cases h456 : 4 ≤ (rd_T42 l m).f0 ∧ (rd_T42 l m).f0 ≤ 6
      · have e0 := k0 (by omega) (by omega)
        obtain ⟨a, ha⟩ := Int.eq_ofNat_of_zero_le (show 0 ≤ (rd_T42 l m).f2.f0 by omega)
        have hT : Told l (m + 1) (x.set a m) := told_step h (by omega) ht (fun j hj => by
          rw [getD_set_int _ _ _ _ (by omega)]
          by_cases ea : a = j
          · rw [if_pos ea]; exact .inl ⟨.inl ⟨by omega, by omega, by omega⟩, rfl⟩
          · rw [if_neg ea]
            refine .inr ⟨?_, rfl⟩
            rintro (⟨_, _, z⟩ | ⟨z, _⟩) <;> omega)
        obtain ⟨x'', g1, g2, g3⟩ := go _ (by rw [List.length_set, hx]) hT
        refine ⟨x'', g1, g2, ?_⟩
        by_cases c4 : (rd_T42 l m).f0 = 4
        · rw [if_pos c4, if_pos (by omega), if_pos (by omega), ha, Int.toNat_natCast]; exact g3
        rw [if_neg c4]
        by_cases c5 : (rd_T42 l m).f0 = 5
        · rw [if_pos c5, if_pos (by omega), if_pos (by omega), ha, Int.toNat_natCast]; exact g3
        rw [if_neg c5, if_pos (by omega), if_pos (by omega), if_pos (by omega), ha, Int.toNat_natCast]; exact g3
      · rw [if_neg (by omega), if_neg (by omega), if_neg (by omega)]
        have hT : Told l (m + 1) x := told_step h (by omega) ht (fun j hj => .inr ⟨by rintro (⟨_, _, z⟩ | ⟨z, _⟩) <;> omega, rfl⟩)
        obtain ⟨x'', g1, g2, g3⟩ := go _ hx hT
        exact ⟨x'', g1, g2, g3⟩
theorem parents_spec {l : List S42} (hl : l.length ≤ 1000000) (h : SubP l 0 (l.length - 1)) : ∃ up, up.length = l.length ∧ Told l l.length up ∧ ∀ k, 4 * l.length + 4 < k → match_parents.f k l = some up := by
  obtain ⟨x', h1, h2, h3⟩ := par_fill l hl l.length 0 (3 * l.length + 4) (List.replicate l.length 0) (by omega) (by simp) (by omega) (fun j hj => by omega)
  obtain ⟨up, g1, g2, g3⟩ := par_loop hl h l.length 0 (3 * l.length + 4 - l.length - 1) x' (by omega) h1 (by omega) (fun j hj => .inr ⟨fun p hp => by omega, h2 j hj⟩)
  refine ⟨up, g1, g2, fun k hk => ?_⟩
  have : match_parents.f (3 * l.length + 4) l = some up := by
    unfold match_parents.f
    rw [if_pos (by omega), if_pos (by omega), Option.bind_some, Int.toNat_natCast, List.length_replicate]
    exact h3.trans g3
  exact at_rounds (fun k => match_parents.mono l k) (by omega) this
end Go.Proofs.Ytmhkofgappbpjaa.P
end

/- What few says; where a right tree ends. -/
section
set_option linter.unusedVariables false
set_option linter.unusedSimpArgs false
namespace Go.Proofs.Ytmhkofgappbpjaa.P
open Go.RowKit Go.Proofs.YtmhkofgappbpjaaW.PrintWords Go.Proofs.Ytmhkofgappbpjaa.QA Go.Proofs.Ytmhkofgappbpjaa.G Go.Proofs.Ytmhkofgappbpjaa.Mt
/-- A right tree: all that is wanted of it. -/
structure Rt (l : List S42) (s : ByteArray) : Prop where
  pos : 0 < l.length
  sub : SubT l 0 (l.length - 1)
  ok : ∀ x, x ∈ l → Ok42 x
  big : l.length * (s.size + 1) ≤ 10000
theorem Rt.tree {l : List S42} {s : ByteArray} (h : Rt l s) : ∃ up, up.length = l.length ∧ Tree (ndOf l) l.length (fun j => up.getD j 0) ∧ ∀ k, 4 * l.length + 4 < k → match_parents.f k l = some up := by
  have hl : l.length ≤ 1000000 := by
    have : l.length * 1 ≤ l.length * (s.size + 1) := Nat.mul_le_mul_left _ (by omega)
    have := h.big
    omega
  obtain ⟨up, h1, h2, h3⟩ := parents_spec hl h.sub.prop
  exact ⟨up, h1, tree_of h.pos h.sub.prop h2, h3⟩
/-- Both come to all places. -/
theorem ends_both {l : List S42} {s : ByteArray} (h : Rt l s) (a : Nat) (ha : a ≤ s.size) : ∀ k, 100000 ≤ k → match_ends.f k l s a = some (EL l s a) ∧ ref06_from1.f k l s a = some (EL l s a) := by
  obtain ⟨up, h1, T, h3⟩ := h.tree
  have hK := kids_ok h.sub.prop
  have hb := h.big
  have hl : l.length * 1 ≤ l.length * (s.size + 1) := Nat.mul_le_mul_left _ (by omega)
  have hs : 1 * (s.size + 1) ≤ l.length * (s.size + 1) := Nat.mul_le_mul_right _ h.pos
  intro k hk
  refine ⟨?_, from1_spec T hK h.ok (by omega) a ha k (by omega)⟩
  unfold match_ends.f
  rw [if_pos ⟨h.pos, by omega, by omega, by omega, by omega⟩, h3 k (by omega), Option.bind_some, if_pos h1]
  exact ends_spec T hK (by omega) a ha k (by omega)
end Go.Proofs.Ytmhkofgappbpjaa.P
end

/- Ends, Span and Whole, in plain words. -/
section
set_option linter.unusedVariables false
set_option linter.unusedSimpArgs false
namespace Go.Proofs.Ytmhkofgappbpjaa.P
open Go.RowKit Go.Proofs.YtmhkofgappbpjaaW.PrintWords Go.Proofs.Ytmhkofgappbpjaa.QA Go.Proofs.Ytmhkofgappbpjaa.QB Go.Proofs.Ytmhkofgappbpjaa.QC Go.Proofs.Ytmhkofgappbpjaa.G Go.Proofs.Ytmhkofgappbpjaa.Mt
/-- The places that are meant, from one on. -/
def tr (x : List Bool) : Nat → Nat → List Int
  | 0, _ => []
  | d + 1, i => if x.getD i false = true then (i : Int) :: tr x d (i + 1) else tr x d (i + 1)
theorem tr_mem (x : List Bool) : ∀ (d i : Nat) (v : Int), v ∈ tr x d i ↔ ∃ j : Nat, i ≤ j ∧ j < i + d ∧ x.getD j false = true ∧ v = (j : Int)
  | 0, i, v => by
    simp only [tr, List.not_mem_nil, false_iff]
    rintro ⟨j, h1, h2, _⟩
    omega
  | d + 1, i, v => by
    have ih := tr_mem x d (i + 1) v
    unfold tr
    by_cases h : x.getD i false = true
    · rw [if_pos h, List.mem_cons, ih]
      constructor
      · rintro (rfl | ⟨j, h1, h2, h3, h4⟩)
        · exact ⟨i, by omega, by omega, h, rfl⟩
        · exact ⟨j, by omega, by omega, h3, h4⟩
      · rintro ⟨j, h1, h2, h3, h4⟩
        by_cases e : j = i
        · subst e; exact .inl h4
        · exact .inr ⟨j, by omega, by omega, h3, h4⟩
    · rw [if_neg h, ih]
      constructor
      · rintro ⟨j, h1, h2, h3, h4⟩
        exact ⟨j, by omega, by omega, h3, h4⟩
      · rintro ⟨j, h1, h2, h3, h4⟩
        by_cases e : j = i
        · subst e; exact absurd h3 h
        · exact ⟨j, by omega, by omega, h3, h4⟩
theorem tr_len (x : List Bool) : ∀ d i, (tr x d i).length ≤ d
  | 0, _ => by simp [tr]
  | d + 1, i => by
    have := tr_len x d (i + 1)
    unfold tr
    split <;> simp <;> omega
theorem tr_nil (x : List Bool) (d i : Nat) : (tr x d i).length = 0 ↔ ∀ j, i ≤ j → j < i + d → ¬ x.getD j false = true := by
  constructor
  · intro h j h1 h2 h3
    have := (tr_mem x d i j).2 ⟨j, h1, h2, h3, rfl⟩
    rw [List.length_eq_zero_iff.1 h] at this
    cases this
  · intro h
    rw [List.length_eq_zero_iff, List.eq_nil_iff_forall_not_mem]
    intro v hv
    obtain ⟨j, h1, h2, h3, _⟩ := (tr_mem x d i v).1 hv
    exact h j h1 h2 h3
/-- The last one. -/
theorem tr_last (x : List Bool) : ∀ (d i : Nat), 0 < (tr x d i).length → ∃ m : Nat, (tr x d i).getD ((tr x d i).length - 1) 0 = (m : Int) ∧ i ≤ m ∧ m < i + d ∧ x.getD m false = true ∧ ∀ j, m < j → j < i + d → ¬ x.getD j false = true
  | 0, _, h => by simp [tr] at h
  | d + 1, i, h => by
    by_cases hr : (tr x d (i + 1)).length = 0
    · have hn := (tr_nil x d (i + 1)).1 hr
      unfold tr at h ⊢
      by_cases hi : x.getD i false = true
      · rw [if_pos hi] at h ⊢
        rw [List.length_eq_zero_iff] at hr
        rw [hr]
        exact ⟨i, rfl, by omega, by omega, hi, fun j h1 h2 => hn j (by omega) (by omega)⟩
      · rw [if_neg hi] at h; omega
    · obtain ⟨m, h1, h2, h3, h4, h5⟩ := tr_last x d (i + 1) (by omega)
      refine ⟨m, ?_, by omega, by omega, h4, fun j a b => h5 j a (by omega)⟩
      unfold tr
      by_cases hi : x.getD i false = true
      · rw [if_pos hi, List.length_cons, Nat.add_sub_cancel]
        obtain ⟨n, hn⟩ : ∃ n, (tr x d (i + 1)).length = n + 1 := ⟨(tr x d (i + 1)).length - 1, by omega⟩
        rw [hn] at h1 ⊢
        simpa using h1
      · rw [if_neg hi]; exact h1
theorem ends_loop_eq (x : List Bool) (hx : x.length ≤ 100000) : ∀ (d i k : Nat) (acc : List Int), i + d = x.length → d < k → acc.length + d ≤ 100000 → match_Ends.l0 k acc x (x.length : Int) i = some (acc ++ tr x d i) := by
  intro d
  induction d with
  | zero =>
    intro i k acc hi hk ha
    obtain ⟨k, rfl⟩ : ∃ m, k = m + 1 := ⟨k - 1, by omega⟩
    simp only [match_Ends.l0]
    rw [if_neg (by omega)]
    simp [tr]
  | succ d ih =>
    intro i k acc hi hk ha
    obtain ⟨k, rfl⟩ : ∃ m, k = m + 1 := ⟨k - 1, by omega⟩
    simp only [match_Ends.l0]
    rw [if_pos (by omega), if_pos (by omega), if_pos (by omega), wrap_succ i (by omega)]
    have hrd : rdOf false x (i : Int) = x.getD i false := by unfold rdOf; rw [Int.toNat_natCast]
    rw [hrd]
    unfold tr
    by_cases h : x.getD i false = true
    · rw [if_pos h, if_pos (by omega), if_pos h, ih (i + 1) k (acc ++ [(i : Int)]) (by omega) (by omega) (by simp; omega)]
      simp
    · rw [if_neg h, if_neg h]
      exact ih (i + 1) k acc (by omega) (by omega) (by omega)
section
variable {l : List S42} {s : ByteArray}
theorem Rt.size {l : List S42} {s : ByteArray} (h : Rt l s) : s.size ≤ 9999 ∧ l.length ≤ 10000 := by
  have hb := h.big
  have hl : l.length * 1 ≤ l.length * (s.size + 1) := Nat.mul_le_mul_left _ (by omega)
  have hs : 1 * (s.size + 1) ≤ l.length * (s.size + 1) := Nat.mul_le_mul_right _ h.pos
  omega
/-- Where it ends from a on. -/
noncomputable def ends (l : List S42) (s : ByteArray) (a : Nat) : List Int := tr (EL l s a) (s.size + 1) 0
theorem Ends_eq (h : Rt l s) (a : Nat) (ha : a ≤ s.size) (k : Nat) (hk : 100010 ≤ k) : match_Ends.f k l s a = some (ends l s a) := by
  have hz := h.size
  obtain ⟨k, rfl⟩ : ∃ m, k = m + 1 := ⟨k - 1, by omega⟩
  unfold match_Ends.f
  rw [if_neg (by omega)]
  simp only [match_Ends.j0]
  rw [if_neg (by simp; omega), (ends_both h a ha k (by omega)).1, Option.bind_some]
  have := ends_loop_eq (EL l s a) (by rw [EL_length]; omega) (s.size + 1) 0 k [] (by rw [EL_length]; omega) (by omega) (by simp; omega)
  exact this
/-- Does it stand from a to b? -/
def Stands (l : List S42) (s : ByteArray) (a b : Nat) : Prop := M (ndOf l) s.size (sb s) (l.length - 1) a b
theorem Stands.bound {a b : Nat} (h : Stands l s a b) (ha : a ≤ s.size) : a ≤ b ∧ b ≤ s.size := ⟨M.le _ _ _ h, M.bound _ _ _ h ha⟩
/-- Where it stands first, from one place on. -/
def SpanR (l : List S42) (s : ByteArray) (i : Nat) (r : Int × Int × Bool) : Prop :=
  (∃ a b : Nat, r = ((a : Int), (b : Int), true) ∧ i ≤ a ∧ a ≤ s.size ∧ b ≤ s.size ∧ Stands l s a b ∧ (∀ j, b < j → j ≤ s.size → ¬ Stands l s a j) ∧ ∀ a', i ≤ a' → a' < a → ∀ j, j ≤ s.size → ¬ Stands l s a' j) ∨
  (r = (0, 0, false) ∧ ∀ a', i ≤ a' → a' ≤ s.size → ∀ j, j ≤ s.size → ¬ Stands l s a' j)
theorem SpanR.uniq {i : Nat} {r r' : Int × Int × Bool} (h : SpanR l s i r) (h' : SpanR l s i r') : r = r' := by
  rcases h with ⟨a, b, rfl, h1, h2, h3, h4, h5, h6⟩ | ⟨rfl, h1⟩
  · rcases h' with ⟨a', b', rfl, g1, g2, g3, g4, g5, g6⟩ | ⟨rfl, g1⟩
    · have ha : a = a' := by
        rcases Nat.lt_trichotomy a a' with z | z | z
        · exact absurd h4 (g6 a h1 z b h3)
        · exact z
        · exact absurd g4 (h6 a' g1 z b' g3)
      subst ha
      have hb : b = b' := by
        rcases Nat.lt_trichotomy b b' with z | z | z
        · exact absurd g4 (h5 b' z g3)
        · exact z
        · exact absurd h4 (g5 b z h3)
      subst hb
      rfl
    · exact absurd h4 (g1 a h1 h2 b h3)
  · rcases h' with ⟨a', b', rfl, g1, g2, g3, g4, g5, g6⟩ | ⟨rfl, g1⟩
    · exact absurd g4 (h1 a' g1 g2 b' g3)
    · rfl
theorem rd_last (x : List Int) (h : 0 < x.length) (hl : x.length ≤ 100000) : wrap64 ((x.length : Int) - 1) = ((x.length - 1 : Nat) : Int) ∧ rd x (wrap64 ((x.length : Int) - 1)) = x.getD (x.length - 1) 0 := by
  have := wrap_pred x.length (by omega) h
  refine ⟨this, ?_⟩
  rw [this]
  unfold rd
  rw [Int.toNat_natCast]
theorem Span_loop (h : Rt l s) : ∀ (d i k : Nat), i + d = s.size + 1 → 100010 + d < k → ∃ r, match_Span.l0 k l s i = some r ∧ SpanR l s i r := by
  have hz := h.size
  intro d
  induction d with
  | zero =>
    intro i k hi hk
    obtain ⟨k, rfl⟩ : ∃ m, k = m + 1 := ⟨k - 1, by omega⟩
    refine ⟨(0, 0, false), ?_, .inr ⟨rfl, fun a' h1 h2 => by omega⟩⟩
    simp only [match_Span.l0]
    rw [if_neg (by omega)]
  | succ d ih =>
    intro i k hi hk
    obtain ⟨k, rfl⟩ : ∃ m, k = m + 1 := ⟨k - 1, by omega⟩
    simp only [match_Span.l0]
    rw [if_pos (by omega), Ends_eq h i (by omega) k (by omega), Option.bind_some]
    have hlen := tr_len (EL l s i) (s.size + 1) 0
    by_cases hp : (ends l s i).length = 0
    · rw [if_neg (by omega), wrap_succ i (by omega)]
      obtain ⟨r, h1, h2⟩ := ih (i + 1) k (by omega) (by omega)
      refine ⟨r, h1, ?_⟩
      have hn := (tr_nil (EL l s i) (s.size + 1) 0).1 hp
      have hno : ∀ j, j ≤ s.size → ¬ Stands l s i j := fun j hj hs => hn j (by omega) (by omega) ((EL_get l s i j hj).2 hs)
      rcases h2 with ⟨a, b, rfl, g1, g2, g3, g4, g5, g6⟩ | ⟨rfl, g1⟩
      · refine .inl ⟨a, b, rfl, by omega, g2, g3, g4, g5, fun a' z1 z2 => ?_⟩
        by_cases e : a' = i
        · subst e; exact hno
        · exact g6 a' (by omega) z2
      · refine .inr ⟨rfl, fun a' z1 z2 => ?_⟩
        by_cases e : a' = i
        · subst e; exact hno
        · exact g1 a' (by omega) z2
    · rw [if_pos (by omega)]
      have hpos : 0 < (ends l s i).length := by omega
      obtain ⟨e1, e2⟩ := rd_last (ends l s i) hpos (by unfold ends at *; omega)
      obtain ⟨m, m1, m2, m3, m4, m5⟩ := tr_last (EL l s i) (s.size + 1) 0 hpos
      rw [e1, if_pos (by omega), if_pos (by omega), ← e1, e2]
      refine ⟨_, rfl, .inl ⟨i, m, ?_, Nat.le_refl _, by omega, by omega, (EL_get l s i m (by omega)).1 m4, fun j h1 h2 hs => m5 j h1 (by omega) ((EL_get l s i j h2).2 hs), fun a' h1 h2 => by omega⟩⟩
      show ((i : Int), (ends l s i).getD ((ends l s i).length - 1) 0, true) = _
      unfold ends
      rw [m1]
theorem Span_eq (h : Rt l s) (i : Nat) : ∃ r, (∀ k, 120020 ≤ k → match_Span.f k l s i = some r) ∧ SpanR l s i r := by
  have hz := h.size
  have hmx : mx (i : Int) 0 = (i : Int) := by unfold mx; omega
  by_cases hi : i ≤ s.size + 1
  · obtain ⟨r, h1, h2⟩ := Span_loop h (s.size + 1 - i) i 120020 (by omega) (by omega)
    refine ⟨r, fun k hk => ?_, h2⟩
    have : match_Span.f 120020 l s i = some r := by unfold match_Span.f; rw [hmx]; exact h1
    exact at_rounds (fun k => match_Span.mono l s i k) hk this
  · refine ⟨(0, 0, false), fun k hk => ?_, .inr ⟨rfl, fun a' h1 h2 => by omega⟩⟩
    obtain ⟨k, rfl⟩ : ∃ m, k = m + 1 := ⟨k - 1, by omega⟩
    unfold match_Span.f
    rw [hmx]
    simp only [match_Span.l0]
    rw [if_neg (by omega)]
theorem Whole_eq (h : Rt l s) (k : Nat) (hk : 100000 ≤ k) : match_Whole.f k l s = some ((EL l s 0).getD s.size false) := by
  unfold match_Whole.f
  rw [show (0 : Int) = ((0 : Nat) : Int) from rfl, (ends_both h 0 (Nat.zero_le _) k hk).1, Option.bind_some, EL_length, if_pos (by omega), if_pos (by omega)]
  unfold rdOf
  rw [Int.toNat_natCast]
theorem Whole_iff (h : Rt l s) : ((EL l s 0).getD s.size false = true) ↔ Stands l s 0 s.size := EL_get l s 0 s.size (Nat.le_refl _)
/-- The document's Span. -/
theorem RSpan_in (h : Rt l s) (i : Nat) (hi : i ≤ s.size) : ∀ (t k : Nat), i + t ≤ s.size + 1 → t < k → (∀ j, i + t ≤ j → j ≤ s.size → ¬ Stands l s i j) →
    (∃ b : Nat, b ≤ s.size ∧ Stands l s i b ∧ (∀ j, b < j → j ≤ s.size → ¬ Stands l s i j) ∧ dragomanref06_Span.l1 k l s i (EL l s i) (((i + t : Nat) : Int) - 1) = some ((i : Int), (b : Int), true)) ∨
    ((∀ j, j ≤ s.size → ¬ Stands l s i j) ∧ dragomanref06_Span.l1 k l s i (EL l s i) (((i + t : Nat) : Int) - 1) = dragomanref06_Span.l0 (k - t - 1) l s (wrap64 ((i : Int) + 1))) := by
  intro t
  induction t with
  | zero =>
    intro k ht hk hno
    obtain ⟨k, rfl⟩ : ∃ m, k = m + 1 := ⟨k - 1, by omega⟩
    refine .inr ⟨fun j hj hs => ?_, ?_⟩
    · have := (hs.bound hi).1
      exact hno j (by omega) hj hs
    · simp only [dragomanref06_Span.l1]
      rw [if_neg (by omega)]
      rfl
  | succ t ih =>
    intro k ht hk hno
    obtain ⟨k, rfl⟩ : ∃ m, k = m + 1 := ⟨k - 1, by omega⟩
    have hx : ((i + (t + 1) : Nat) : Int) - 1 = ((i + t : Nat) : Int) := by omega
    have hr : rdOf false (EL l s i) ((i + t : Nat) : Int) = (EL l s i).getD (i + t) false := by unfold rdOf; rw [Int.toNat_natCast]
    rw [hx]
    simp only [dragomanref06_Span.l1]
    rw [if_pos (by omega), if_pos (by omega), EL_length, if_pos (by omega), hr]
    by_cases hb : (EL l s i).getD (i + t) false = true
    · rw [if_pos hb]
      exact .inl ⟨i + t, by omega, (EL_get l s i (i + t) (by omega)).1 hb, fun j h1 h2 => hno j (by omega) h2, rfl⟩
    · rw [if_neg hb]
      have hw : wrap64 (((i + t : Nat) : Int) - 1) = ((i + t : Nat) : Int) - 1 := by
        have := h.size
        unfold wrap64; omega
      rw [hw]
      rcases ih k (by omega) (by omega) (fun j h1 h2 hs => by
        by_cases e : j = i + t
        · subst e; exact hb ((EL_get l s i (i + t) h2).2 hs)
        · exact hno j (by omega) h2 hs) with g | ⟨g1, g2⟩
      · exact .inl g
      · exact .inr ⟨g1, by rw [g2]; congr 1; omega⟩
theorem RSpan_loop (h : Rt l s) : ∀ (d i k : Nat), i + d = s.size + 1 → 100010 + d * (s.size + 4) < k → ∃ r, dragomanref06_Span.l0 k l s i = some r ∧ SpanR l s i r := by
  have hz := h.size
  intro d
  induction d with
  | zero =>
    intro i k hi hk
    obtain ⟨k, rfl⟩ : ∃ m, k = m + 1 := ⟨k - 1, by omega⟩
    refine ⟨(0, 0, false), ?_, .inr ⟨rfl, fun a' h1 h2 => by omega⟩⟩
    simp only [dragomanref06_Span.l0]
    rw [if_neg (by omega)]
  | succ d ih =>
    intro i k hi hk
    rw [Nat.add_mul, Nat.one_mul] at hk
    generalize d * (s.size + 4) = D at *
    obtain ⟨k, rfl⟩ : ∃ m, k = m + 1 := ⟨k - 1, by omega⟩
    simp only [dragomanref06_Span.l0]
    rw [if_pos (by omega), (ends_both h i (by omega) k (by omega)).2, Option.bind_some]
    have hsz : (s.size : Int) = ((i + (s.size + 1 - i) : Nat) : Int) - 1 := by omega
    rw [hsz]
    rcases RSpan_in h i (by omega) (s.size + 1 - i) k (by omega) (by omega) (fun j h1 h2 => by omega) with ⟨b, h1, h2, h3, h4⟩ | ⟨h1, h2⟩
    · exact ⟨_, h4, .inl ⟨i, b, rfl, Nat.le_refl _, by omega, h1, h2, h3, fun a' z1 z2 => by omega⟩⟩
    · rw [h2, wrap_succ i (by omega)]
      obtain ⟨r, g1, g2⟩ := ih (i + 1) (k - (s.size + 1 - i) - 1) (by omega) (by omega)
      refine ⟨r, g1, ?_⟩
      rcases g2 with ⟨a, b, rfl, q1, q2, q3, q4, q5, q6⟩ | ⟨rfl, q1⟩
      · refine .inl ⟨a, b, rfl, by omega, q2, q3, q4, q5, fun a' z1 z2 => ?_⟩
        by_cases e : a' = i
        · subst e; exact h1
        · exact q6 a' (by omega) z2
      · refine .inr ⟨rfl, fun a' z1 z2 => ?_⟩
        by_cases e : a' = i
        · subst e; exact h1
        · exact q1 a' (by omega) z2
/-- So many rounds are enough for both. -/
def KS (s : ByteArray) : Nat := 200000 + (s.size + 1) * (s.size + 4)
theorem RSpan_eq (h : Rt l s) (i : Nat) : ∃ r, (∀ k, KS s ≤ k → dragomanref06_Span.f k l s i = some r) ∧ SpanR l s i r := by
  have hz := h.size
  have key : ∃ r, dragomanref06_Span.f (KS s) l s i = some r ∧ SpanR l s i r := by
    obtain ⟨K, hK⟩ : ∃ K, KS s = K + 1 := ⟨KS s - 1, by unfold KS; omega⟩
    unfold dragomanref06_Span.f
    rw [if_neg (by omega), hK]
    simp only [dragomanref06_Span.j0]
    by_cases hi : i ≤ s.size + 1
    · refine RSpan_loop h (s.size + 1 - i) i K (by omega) ?_
      have : (s.size + 1 - i) * (s.size + 4) ≤ (s.size + 1) * (s.size + 4) := Nat.mul_le_mul_right _ (by omega)
      unfold KS at hK
      omega
    · obtain ⟨k, rfl⟩ : ∃ m, K = m + 1 := ⟨K - 1, by unfold KS at hK; omega⟩
      refine ⟨(0, 0, false), ?_, .inr ⟨rfl, fun a' h1 h2 => by omega⟩⟩
      simp only [dragomanref06_Span.l0]
      rw [if_neg (by omega)]
  obtain ⟨r, h1, h2⟩ := key
  exact ⟨r, fun k hk => at_rounds (fun k => dragomanref06_Span.mono l s i k) hk h1, h2⟩
/-- The program's Span and the document's come to the same. -/
theorem Span_both (h : Rt l s) (i : Nat) : ∃ r, (∀ k, KS s ≤ k → match_Span.f k l s i = some r ∧ dragomanref06_Span.f k l s i = some r) ∧ SpanR l s i r := by
  obtain ⟨r, h1, h2⟩ := Span_eq h i
  obtain ⟨r', h3, h4⟩ := RSpan_eq h i
  obtain rfl := h2.uniq h4
  exact ⟨r, fun k hk => ⟨h1 k (by unfold KS at hk; omega), h3 k hk⟩, h2⟩
end
end Go.Proofs.Ytmhkofgappbpjaa.P
end

/- The law of Spans, in plain words. -/
section
set_option linter.unusedVariables false
set_option linter.unusedSimpArgs false
namespace Go.Proofs.Ytmhkofgappbpjaa.P
open Go.RowKit Go.Proofs.YtmhkofgappbpjaaW.PrintWords Go.Proofs.Ytmhkofgappbpjaa.QA Go.Proofs.Ytmhkofgappbpjaa.QB Go.Proofs.Ytmhkofgappbpjaa.QC Go.Proofs.Ytmhkofgappbpjaa.G Go.Proofs.Ytmhkofgappbpjaa.Mt
set_option maxRecDepth 100000 in
theorem shown_at : dragomanlaw06_shown.f 300 = some true := by decide +kernel
theorem shown_ok (k : Nat) (hk : 300 ≤ k) : dragomanlaw06_shown.f k = some true := at_rounds (fun k => dragomanlaw06_shown.mono k) hk shown_at
section
end
end Go.Proofs.Ytmhkofgappbpjaa.P
end

/- A tree within a tree; the law of Stars, in plain words. -/
section
set_option linter.unusedVariables false
set_option linter.unusedSimpArgs false
namespace Go.Proofs.Ytmhkofgappbpjaa.P
open Go.RowKit Go.Proofs.YtmhkofgappbpjaaW.PrintWords Go.Proofs.Ytmhkofgappbpjaa.QA Go.Proofs.Ytmhkofgappbpjaa.QB Go.Proofs.Ytmhkofgappbpjaa.QC Go.Proofs.Ytmhkofgappbpjaa.G Go.Proofs.Ytmhkofgappbpjaa.Mt
/-- The nodes of one tree lie within another one, off places further. -/
structure Emb (nd nd' : Nat → Nd) (off n : Nat) : Prop where
  kind : ∀ i, i < n → (nd' (off + i)).kind = (nd i).kind
  mem : ∀ i, i < n → (nd' (off + i)).mem = (nd i).mem
  k0 : ∀ i, i < n → 2 ≤ (nd i).kind → (nd i).kind ≤ 6 → (nd' (off + i)).k0 = off + (nd i).k0 ∧ (nd i).k0 < n
  k1 : ∀ i, i < n → (nd i).kind = 2 ∨ (nd i).kind = 3 → (nd' (off + i)).k1 = off + (nd i).k1 ∧ (nd i).k1 < n
section
variable {nd nd' : Nat → Nd} {off n L : Nat} {sb : Nat → Nat}
theorem Emb.to (E : Emb nd nd' off n) {i a b : Nat} (h : M nd L sb i a b) : i < n → M nd' L sb (off + i) a b := by
  induction h with
  | none hk => intro hi; exact .none (by rw [E.kind _ hi]; exact hk)
  | set hk h1 h2 => intro hi; exact .set (by rw [E.kind _ hi]; exact hk) h1 (by rw [E.mem _ hi]; exact h2)
  | cat hk _ _ ih1 ih2 =>
    intro hi
    obtain ⟨e0, l0⟩ := E.k0 _ hi (by omega) (by omega)
    obtain ⟨e1, l1⟩ := E.k1 _ hi (by omega)
    exact .cat (by rw [E.kind _ hi]; exact hk) (by rw [e0]; exact ih1 l0) (by rw [e1]; exact ih2 l1)
  | alt0 hk _ ih =>
    intro hi
    obtain ⟨e0, l0⟩ := E.k0 _ hi (by omega) (by omega)
    exact .alt0 (by rw [E.kind _ hi]; exact hk) (by rw [e0]; exact ih l0)
  | alt1 hk _ ih =>
    intro hi
    obtain ⟨e1, l1⟩ := E.k1 _ hi (by omega)
    exact .alt1 (by rw [E.kind _ hi]; exact hk) (by rw [e1]; exact ih l1)
  | star0 hk => intro hi; exact .star0 (by rw [E.kind _ hi]; exact hk)
  | star1 hk _ _ ih1 ih2 =>
    intro hi
    obtain ⟨e0, l0⟩ := E.k0 _ hi (by omega) (by omega)
    exact .star1 (by rw [E.kind _ hi]; exact hk) (by rw [e0]; exact ih1 l0) (ih2 hi)
  | plus0 hk _ ih =>
    intro hi
    obtain ⟨e0, l0⟩ := E.k0 _ hi (by omega) (by omega)
    exact .plus0 (by rw [E.kind _ hi]; exact hk) (by rw [e0]; exact ih l0)
  | plus1 hk _ _ ih1 ih2 =>
    intro hi
    obtain ⟨e0, l0⟩ := E.k0 _ hi (by omega) (by omega)
    exact .plus1 (by rw [E.kind _ hi]; exact hk) (by rw [e0]; exact ih1 l0) (ih2 hi)
  | opt0 hk => intro hi; exact .opt0 (by rw [E.kind _ hi]; exact hk)
  | opt1 hk _ ih =>
    intro hi
    obtain ⟨e0, l0⟩ := E.k0 _ hi (by omega) (by omega)
    exact .opt1 (by rw [E.kind _ hi]; exact hk) (by rw [e0]; exact ih l0)
  | bgn hk => intro hi; exact .bgn (by rw [E.kind _ hi]; exact hk)
  | fin hk => intro hi; exact .fin (by rw [E.kind _ hi]; exact hk)
theorem Emb.from (E : Emb nd nd' off n) {j a b : Nat} (h : M nd' L sb j a b) : ∀ i, j = off + i → i < n → M nd L sb i a b := by
  induction h with
  | none hk => rintro i rfl hi; exact .none (by rw [← E.kind _ hi]; exact hk)
  | set hk h1 h2 => rintro i rfl hi; exact .set (by rw [← E.kind _ hi]; exact hk) h1 (by rw [← E.mem _ hi]; exact h2)
  | cat hk _ _ ih1 ih2 =>
    rintro i rfl hi
    rw [E.kind _ hi] at hk
    obtain ⟨e0, l0⟩ := E.k0 _ hi (by omega) (by omega)
    obtain ⟨e1, l1⟩ := E.k1 _ hi (by omega)
    exact .cat hk (ih1 _ e0 l0) (ih2 _ e1 l1)
  | alt0 hk _ ih =>
    rintro i rfl hi
    rw [E.kind _ hi] at hk
    obtain ⟨e0, l0⟩ := E.k0 _ hi (by omega) (by omega)
    exact .alt0 hk (ih _ e0 l0)
  | alt1 hk _ ih =>
    rintro i rfl hi
    rw [E.kind _ hi] at hk
    obtain ⟨e1, l1⟩ := E.k1 _ hi (by omega)
    exact .alt1 hk (ih _ e1 l1)
  | star0 hk => rintro i rfl hi; exact .star0 (by rw [← E.kind _ hi]; exact hk)
  | star1 hk _ _ ih1 ih2 =>
    rintro i rfl hi
    rw [E.kind _ hi] at hk
    obtain ⟨e0, l0⟩ := E.k0 _ hi (by omega) (by omega)
    exact .star1 hk (ih1 _ e0 l0) (ih2 _ rfl hi)
  | plus0 hk _ ih =>
    rintro i rfl hi
    rw [E.kind _ hi] at hk
    obtain ⟨e0, l0⟩ := E.k0 _ hi (by omega) (by omega)
    exact .plus0 hk (ih _ e0 l0)
  | plus1 hk _ _ ih1 ih2 =>
    rintro i rfl hi
    rw [E.kind _ hi] at hk
    obtain ⟨e0, l0⟩ := E.k0 _ hi (by omega) (by omega)
    exact .plus1 hk (ih1 _ e0 l0) (ih2 _ rfl hi)
  | opt0 hk => rintro i rfl hi; exact .opt0 (by rw [← E.kind _ hi]; exact hk)
  | opt1 hk _ ih =>
    rintro i rfl hi
    rw [E.kind _ hi] at hk
    obtain ⟨e0, l0⟩ := E.k0 _ hi (by omega) (by omega)
    exact .opt1 hk (ih _ e0 l0)
  | bgn hk => rintro i rfl hi; exact .bgn (by rw [← E.kind _ hi]; exact hk)
  | fin hk => rintro i rfl hi; exact .fin (by rw [← E.kind _ hi]; exact hk)
end
/-- The same of lists. -/
structure EmbL (l l' : List S42) (off : Nat) : Prop where
  f0 : ∀ j : Nat, j < l.length → (rd_T42 l' ((off + j : Nat) : Int)).f0 = (rd_T42 l (j : Int)).f0
  f1 : ∀ j : Nat, j < l.length → (rd_T42 l' ((off + j : Nat) : Int)).f1 = (rd_T42 l (j : Int)).f1
  k0 : ∀ j : Nat, j < l.length → 2 ≤ (rd_T42 l (j : Int)).f0 → (rd_T42 l (j : Int)).f0 ≤ 6 → (rd_T42 l' ((off + j : Nat) : Int)).f2.f0 = (rd_T42 l (j : Int)).f2.f0 + off
  k1 : ∀ j : Nat, j < l.length → (rd_T42 l (j : Int)).f0 = 2 ∨ (rd_T42 l (j : Int)).f0 = 3 → (rd_T42 l' ((off + j : Nat) : Int)).f2.f1 = (rd_T42 l (j : Int)).f2.f1 + off
theorem EmbL.emb {l l' : List S42} {off : Nat} (E : EmbL l l' off) (hp : 0 < l.length) (h : SubT l 0 (l.length - 1)) : Emb (ndOf l) (ndOf l') off l.length := by
  have P := h.prop
  refine ⟨fun i hi => E.f0 i hi, fun i hi => by unfold ndOf; dsimp only; rw [E.f1 i hi], fun i hi h1 h2 => ?_, fun i hi h1 => ?_⟩
  · have a := E.k0 i hi h1 h2
    have b := P.k0 i (Nat.zero_le _) (by omega) h1 h2
    unfold ndOf
    dsimp only
    rw [a]
    omega
  · have a := E.k1 i hi h1
    have b := P.k1 i (Nat.zero_le _) (by omega) h1
    unfold ndOf
    dsimp only
    rw [a]
    omega
theorem EmbL.sub {l l' : List S42} {off : Nat} (E : EmbL l l' off) {b i : Nat} (h : SubT l b i) : i < l.length → SubT l' (off + b) (off + i) := by
  induction h with
  | @leaf i h => intro hi; exact .leaf (by rw [E.f0 i hi]; exact h)
  | @un b i h1 h2 h3 h4 _ ih =>
    intro hi
    have z := ih (by omega)
    rw [show off + (i - 1) = off + i - 1 from by omega] at z
    exact .un (by omega) (by rw [E.f0 i hi]; exact h2) (by rw [E.f0 i hi]; exact h3) (by rw [E.k0 i hi (by omega) h3]; omega) z
  | @bin b c i h1 h2 h3 h4 h5 h6 h7 ih1 ih2 =>
    intro hi
    have le := h3.prop.le
    have z1 := ih1 (by omega)
    have z2 := ih2 (by omega)
    rw [show off + (i - 1) = off + i - 1 from by omega] at z1
    rw [show off + (c - 1) = off + c - 1 from by omega] at z2
    exact .bin (by omega) (by rw [E.f0 i hi]; exact h2) z1 (by omega) (by rw [E.k0 i hi (by omega) (by omega)]; omega) (by rw [E.k1 i hi h2]; omega) z2
theorem rd_left (l m : List S42) (i : Nat) (h : i < l.length) : rd_T42 (l ++ m) (i : Int) = rd_T42 l (i : Int) := by
  unfold rd_T42
  rw [Int.toNat_natCast, List.getD_eq_getElem?_getD, List.getD_eq_getElem?_getD, List.getElem?_append_left h]
theorem rd_right (l m : List S42) (i : Nat) : rd_T42 (l ++ m) ((l.length + i : Nat) : Int) = rd_T42 m (i : Int) := by
  unfold rd_T42
  rw [Int.toNat_natCast, Int.toNat_natCast, List.getD_eq_getElem?_getD, List.getD_eq_getElem?_getD, List.getElem?_append_right (by omega), Nat.add_sub_cancel_left]
theorem emb_left (l m : List S42) : EmbL l (l ++ m) 0 :=
  ⟨fun j h => by rw [Nat.zero_add, rd_left l m j h], fun j h => by rw [Nat.zero_add, rd_left l m j h], fun j h _ _ => by rw [Nat.zero_add, rd_left l m j h]; omega, fun j h _ => by rw [Nat.zero_add, rd_left l m j h]; omega⟩
theorem wf_i64 {n : Int} (h1 : -9223372036854775808 ≤ n) (h2 : n ≤ 9223372036854775807) : (Lit.int .i64 n).wf = true := by
  simp only [Lit.wf, IntKind.min, IntKind.max, IntKind.signed, IntKind.bits, Bool.and_eq_true, decide_eq_true_eq, if_true]
  omega
theorem sb_lt (s : ByteArray) (i : Nat) : sb s i < 256 := by
  have := bt_range s (i : Int)
  unfold sb
  omega
end Go.Proofs.Ytmhkofgappbpjaa.P
end

/- The law of Joins, in plain words. -/
section
set_option linter.unusedVariables false
set_option linter.unusedSimpArgs false
namespace Go.Proofs.Ytmhkofgappbpjaa.P
open Go.RowKit Go.Proofs.YtmhkofgappbpjaaW.PrintWords Go.Proofs.Ytmhkofgappbpjaa.QA Go.Proofs.Ytmhkofgappbpjaa.QB Go.Proofs.Ytmhkofgappbpjaa.QC Go.Proofs.Ytmhkofgappbpjaa.G Go.Proofs.Ytmhkofgappbpjaa.Mt
theorem many_is (v : Int) (h0 : 0 ≤ v) (h8 : v ≤ 8) (k : Nat) (hk : 2 ≤ k) : QB.dragomanref05_many.f k v = some (if v = 2 ∨ v = 3 then 2 else if 4 ≤ v ∧ v ≤ 6 then 1 else 0) := by
  obtain ⟨k, rfl⟩ : ∃ m, k = m + 2 := ⟨k - 2, by omega⟩
  have : v = 0 ∨ v = 1 ∨ v = 2 ∨ v = 3 ∨ v = 4 ∨ v = 5 ∨ v = 6 ∨ v = 7 ∨ v = 8 := by omega
  rcases this with rfl | rfl | rfl | rfl | rfl | rfl | rfl | rfl | rfl <;> rfl
/-- A node, its kids told off places further. -/
def shiftN (off : Nat) (x : S42) : S42 := ⟨x.f0, x.f1, ⟨if 2 ≤ x.f0 ∧ x.f0 ≤ 6 then x.f2.f0 + off else x.f2.f0, if x.f0 = 2 ∨ x.f0 = 3 then x.f2.f1 + off else x.f2.f1⟩⟩
/-- Two trees under one node. -/
def joinOf (t u : List S42) (kd : Int) : List S42 := t ++ (u.map (shiftN t.length) ++ [⟨kd, ⟨0, 0, 0, 0⟩, ⟨(t.length : Int) - 1, ((t.length + u.length : Nat) : Int) - 1⟩⟩])
theorem join_loop (u : List S42) (hu : SubT u 0 (u.length - 1)) (hp : 0 < u.length) (hul : u.length ≤ 60) (kd : Int) (off : Nat) (ho : 0 < off) (hol : off ≤ 60) : ∀ (d n k : Nat) (acc : List S42), n + d = u.length → d + 5 < k → acc.length + d ≤ 1000 →
    dragomanref05_Join.l0 k u kd (off : Int) acc (n : Int) = some (acc ++ ((u.drop n).map (shiftN off) ++ [⟨kd, ⟨0, 0, 0, 0⟩, ⟨(off : Int) - 1, ((off + u.length : Nat) : Int) - 1⟩⟩]), 0) := by
  have P := hu.prop
  intro d
  induction d with
  | zero =>
    intro n k acc hn hk ha
    obtain ⟨k, rfl⟩ : ∃ m, k = m + 1 := ⟨k - 1, by omega⟩
    have w1 : wrap64 ((off : Int) - 1) = (off : Int) - 1 := by unfold wrap64; omega
    have w2 : wrap64 ((off : Int) + (u.length : Int)) = ((off + u.length : Nat) : Int) := by unfold wrap64; omega
    have w3 : wrap64 (((off + u.length : Nat) : Int) - 1) = ((off + u.length : Nat) : Int) - 1 := by unfold wrap64; omega
    rw [List.drop_eq_nil_of_le (by omega), List.map_nil, List.nil_append]
    simp only [dragomanref05_Join.l0]
    rw [if_neg (by omega), if_pos (by omega), w1, w2, w3]
  | succ d ih =>
    intro n k acc hn hk ha
    obtain ⟨k, rfl⟩ : ∃ m, k = m + 1 := ⟨k - 1, by omega⟩
    have hlt : n < u.length := by omega
    have hx : rd_T42 u (n : Int) = u[n] := by unfold rd_T42; rw [Int.toNat_natCast, List.getD_eq_getElem?_getD, List.getElem?_eq_getElem hlt]; rfl
    have hkd := P.kinds n (Nat.zero_le _) (by omega)
    have hk0 := P.k0 n (Nat.zero_le _) (by omega)
    have hk1 := P.k1 n (Nat.zero_le _) (by omega)
    have hih := ih (n + 1) k (acc ++ [shiftN off u[n]]) (by omega) (by omega) (by simp; omega)
    rw [List.append_assoc, List.singleton_append] at hih
    rw [List.drop_eq_getElem_cons hlt, List.map_cons, List.cons_append, ← hih]
    rw [hx] at hkd hk0 hk1
    generalize hX : u[n] = X at *
    simp only [dragomanref05_Join.l0]
    rw [if_pos (by omega), if_pos (by omega), hx, many_is X.f0 hkd.1 hkd.2 k (by omega), Option.bind_some, wrap_succ n (by omega)]
    by_cases c1 : X.f0 = 2 ∨ X.f0 = 3
    · have w0 : wrap64 (X.f2.f0 + (off : Int)) = X.f2.f0 + off := by have := hk0 (by omega) (by omega); unfold wrap64; omega
      have w1 : wrap64 (X.f2.f1 + (off : Int)) = X.f2.f1 + off := by have := hk1 c1; unfold wrap64; omega
      rw [if_pos c1, if_pos (by decide), if_pos (by decide), if_pos (by omega), w0, w1]
      unfold shiftN
      rw [if_pos (by omega), if_pos c1]
    · rw [if_neg c1]
      by_cases c2 : 4 ≤ X.f0 ∧ X.f0 ≤ 6
      · have w0 : wrap64 (X.f2.f0 + (off : Int)) = X.f2.f0 + off := by have := hk0 (by omega) (by omega); unfold wrap64; omega
        rw [if_pos c2, if_pos (by decide), if_neg (by decide), if_pos (by omega), w0]
        unfold shiftN
        rw [if_pos (by omega), if_neg c1]
      · rw [if_neg c2, if_neg (by decide), if_neg (by decide), if_pos (by omega)]
        unfold shiftN
        rw [if_neg (by omega), if_neg c1]
theorem Join_is {t u : List S42} (hu : SubT u 0 (u.length - 1)) (hp : 0 < u.length) (hul : u.length ≤ 60) (hpt : 0 < t.length) (htl : t.length ≤ 60) (kd : Int) (hkd : kd = 2 ∨ kd = 3) (k : Nat) (hk : 200 ≤ k) : dragomanref05_Join.f k t u kd = some (joinOf t u kd, 0) := by
  obtain ⟨k, rfl⟩ : ∃ m, k = m + 1 := ⟨k - 1, by omega⟩
  have w2 : wrap64 ((t.length : Int) + (u.length : Int)) = ((t.length + u.length : Nat) : Int) := by unfold wrap64; omega
  have hj : dragomanref05_Join.j0 (k + 1) t u kd false = some (joinOf t u kd, 0) := by
    simp only [dragomanref05_Join.j0, Bool.false_eq_true, if_false, Option.bind_some, List.nil_append]
    rw [w2, if_neg (by omega), if_pos (by simp; omega)]
    have := join_loop u hu hp hul kd t.length hpt htl u.length 0 k t (by omega) (by omega) (by omega)
    exact this
  unfold dragomanref05_Join.f
  rcases hkd with rfl | rfl
  · rw [if_pos rfl]; exact hj
  · rw [if_neg (by decide)]; exact hj
section
variable {t u : List S42} {s : ByteArray} {kd : Int}
theorem join_len (t u : List S42) (kd : Int) : (joinOf t u kd).length = t.length + u.length + 1 := by unfold joinOf; simp; omega
theorem join_top (t u : List S42) (kd : Int) : rd_T42 (joinOf t u kd) ((t.length + u.length : Nat) : Int) = ⟨kd, ⟨0, 0, 0, 0⟩, ⟨(t.length : Int) - 1, ((t.length + u.length : Nat) : Int) - 1⟩⟩ := by
  unfold joinOf
  rw [rd_right]
  have := rd_right (u.map (shiftN t.length)) [⟨kd, ⟨0, 0, 0, 0⟩, ⟨(t.length : Int) - 1, ((t.length + u.length : Nat) : Int) - 1⟩⟩] 0
  rw [Nat.add_zero, List.length_map] at this
  exact this
theorem rd_map (u : List S42) (off j : Nat) (h : j < u.length) : rd_T42 (u.map (shiftN off)) (j : Int) = shiftN off (rd_T42 u (j : Int)) := by
  unfold rd_T42
  rw [Int.toNat_natCast, List.getD_eq_getElem?_getD, List.getD_eq_getElem?_getD, List.getElem?_map, List.getElem?_eq_getElem h]
  rfl
theorem join_right (t u : List S42) (kd : Int) : EmbL u (joinOf t u kd) t.length := by
  have key : ∀ j : Nat, j < u.length → rd_T42 (joinOf t u kd) ((t.length + j : Nat) : Int) = shiftN t.length (rd_T42 u (j : Int)) := by
    intro j hj
    unfold joinOf
    rw [rd_right, rd_left _ _ j (by rw [List.length_map]; exact hj), rd_map u _ j hj]
  refine ⟨fun j hj => by rw [key j hj]; rfl, fun j hj => by rw [key j hj]; rfl, fun j hj h1 h2 => ?_, fun j hj h1 => ?_⟩
  · rw [key j hj]; unfold shiftN; dsimp only; rw [if_pos ⟨h1, h2⟩]
  · rw [key j hj]; unfold shiftN; dsimp only; rw [if_pos h1]
theorem join_left (t u : List S42) (kd : Int) : EmbL t (joinOf t u kd) 0 := emb_left t _
theorem join_Rt (ht : Rt t s) (hu : Rt u s) (htl : t.length ≤ 60) (hul : u.length ≤ 60) (hs : s.size ≤ 30) (hkd : kd = 2 ∨ kd = 3) : Rt (joinOf t u kd) s := by
  have hp := ht.pos
  have hq := hu.pos
  have hlen := join_len t u kd
  have htop := join_top t u kd
  refine ⟨by omega, ?_, ?_, ?_⟩
  · rw [hlen, Nat.add_sub_cancel]
    have z1 := (join_left t u kd).sub ht.sub (by omega)
    have z2 := (join_right t u kd).sub hu.sub (by omega)
    rw [Nat.zero_add, Nat.zero_add] at z1
    rw [Nat.add_zero, show t.length + (u.length - 1) = t.length + u.length - 1 from by omega] at z2
    exact .bin (c := t.length) (by omega) (by rw [htop]; exact hkd) z2 hp (by rw [htop]) (by rw [htop]) z1
  · intro x hx
    unfold joinOf at hx
    rcases List.mem_append.1 hx with g | g
    · exact ht.ok x g
    rcases List.mem_append.1 g with g | g
    · obtain ⟨y, hy, rfl⟩ := List.mem_map.1 g
      obtain ⟨n, hn, rfl⟩ := List.mem_iff_getElem.1 hy
      obtain ⟨o1, o2, o3, o4⟩ := hu.ok _ hy
      have P := hu.sub.prop
      have hx : rd_T42 u (n : Int) = u[n] := by unfold rd_T42; rw [Int.toNat_natCast, List.getD_eq_getElem?_getD, List.getElem?_eq_getElem hn]; rfl
      have hk0 := P.k0 n (Nat.zero_le _) (by omega)
      have hk1 := P.k1 n (Nat.zero_le _) (by omega)
      rw [hx] at hk0 hk1
      refine ⟨o1, o2, ?_, ?_⟩
      · unfold shiftN
        dsimp only
        by_cases c : 2 ≤ u[n].f0 ∧ u[n].f0 ≤ 6
        · rw [if_pos c]; have := hk0 c.1 c.2; exact wf_i64 (by omega) (by omega)
        · rw [if_neg c]; exact o3
      · unfold shiftN
        dsimp only
        by_cases c : u[n].f0 = 2 ∨ u[n].f0 = 3
        · rw [if_pos c]; have := hk1 c; exact wf_i64 (by omega) (by omega)
        · rw [if_neg c]; exact o4
    · obtain rfl := List.mem_singleton.1 g
      exact ⟨by dsimp only; rcases hkd with rfl | rfl <;> decide, ⟨by dsimp only; decide, by dsimp only; decide, by dsimp only; decide, by dsimp only; decide⟩, wf_i64 (by dsimp only; omega) (by dsimp only; omega), wf_i64 (by dsimp only; omega) (by dsimp only; omega)⟩
  · rw [hlen]
    have : (t.length + u.length + 1) * (s.size + 1) ≤ 121 * 31 := Nat.mul_le_mul (by omega) (by omega)
    omega
theorem join_nd (t u : List S42) (kd : Int) (hp : 0 < t.length) (hq : 0 < u.length) : (ndOf (joinOf t u kd) (t.length + u.length)).kind = kd ∧ (ndOf (joinOf t u kd) (t.length + u.length)).k0 = 0 + (t.length - 1) ∧ (ndOf (joinOf t u kd) (t.length + u.length)).k1 = t.length + (u.length - 1) := by
  unfold ndOf
  dsimp only
  rw [join_top]
  dsimp only
  exact ⟨rfl, by omega, by omega⟩
theorem cat_stands (ht : Rt t s) (hu : Rt u s) (a b : Nat) : Stands (joinOf t u 2) s a b ↔ ∃ c, Stands t s a c ∧ Stands u s c b := by
  obtain ⟨e1, e2, e3⟩ := join_nd t u 2 ht.pos hu.pos
  have E1 := (join_left t u 2).emb ht.pos ht.sub
  have E2 := (join_right t u 2).emb hu.pos hu.sub
  have hp := ht.pos
  have hq := hu.pos
  unfold Stands
  rw [join_len, Nat.add_sub_cancel]
  constructor
  · intro h
    cases h with
    | cat hk h1 h2 =>
      rw [e2] at h1
      rw [e3] at h2
      exact ⟨_, E1.from h1 _ rfl (by omega), E2.from h2 _ rfl (by omega)⟩
    | none hk | set hk | alt0 hk | alt1 hk | star0 hk | star1 hk | plus0 hk | plus1 hk | opt0 hk | opt1 hk | bgn hk | fin hk => omega
  · rintro ⟨c, h1, h2⟩
    exact .cat e1 (by rw [e2]; exact E1.to h1 (by omega)) (by rw [e3]; exact E2.to h2 (by omega))
end
section
end
end Go.Proofs.Ytmhkofgappbpjaa.P
end

/- A text's own tree, in plain words. -/
section
set_option linter.unusedVariables false
set_option linter.unusedSimpArgs false
namespace Go.Proofs.Ytmhkofgappbpjaa.P
open Go.RowKit Go.Proofs.YtmhkofgappbpjaaW.PrintWords Go.Proofs.Ytmhkofgappbpjaa.QA Go.Proofs.Ytmhkofgappbpjaa.QB Go.Proofs.Ytmhkofgappbpjaa.QC Go.Proofs.Ytmhkofgappbpjaa.G Go.Proofs.Ytmhkofgappbpjaa.Mt
theorem sb_get (s : ByteArray) (i : Nat) (h : i < s.data.toList.length) : sb s i = (s.data.toList[i]).toNat := by
  have h' : ((i : Int)).toNat < s.size := by rw [data_length] at h; rw [Int.toNat_natCast]; exact h
  unfold sb
  rw [← bt_at s (i : Int) h']
  rfl
/-- The same bytes at a place. -/
theorem occ_iff (x s : ByteArray) (a n : Nat) (hx : a + n ≤ x.size) (hs : n ≤ s.size) : (∀ i, i < n → sb x (a + i) = sb s i) ↔ (x.data.toList.drop a).take n = s.data.toList.take n := by
  have lx := data_length x
  have ls := data_length s
  constructor
  · intro h
    refine List.ext_getElem (by simp only [List.length_take, List.length_drop]; omega) fun i h1 h2 => ?_
    have hi : i < n := by simp only [List.length_take] at h2; omega
    simp only [List.getElem_take, List.getElem_drop]
    have := h i hi
    rw [sb_get x (a + i) (by omega), sb_get s i (by omega)] at this
    exact UInt8.toNat_inj.1 this
  · intro h i hi
    rw [sb_get x (a + i) (by omega), sb_get s i (by omega)]
    have e : ((x.data.toList.drop a).take n)[i]? = (s.data.toList.take n)[i]? := by rw [h]
    rw [List.getElem?_take_of_lt hi, List.getElem?_take_of_lt hi, List.getElem?_drop, List.getElem?_eq_getElem (by omega), List.getElem?_eq_getElem (by omega)] at e
    rw [Option.some.inj e]
/-- A class of one byte. -/
def oneC (c : Nat) : S39 := match dragomanref04_One.f (c : Int) with
  | some (a, b, d, e) => ⟨a, b, d, e⟩
  | none => ⟨0, 0, 0, 0⟩
def okOne (c : Nat) : Bool := match dragomanref04_One.f (c : Int) with
  | some (a, b, d, e) => (Lit.int .u64 a).wf && (Lit.int .u64 b).wf && (Lit.int .u64 d).wf && (Lit.int .u64 e).wf && (List.range 256).all fun z => hasB ⟨a, b, d, e⟩ z == (z == c)
  | none => false
set_option maxRecDepth 100000 in
theorem all_ones : (List.range 256).all okOne = true := by decide +kernel
theorem one_spec (c : Nat) (hc : c < 256) : dragomanref04_One.f (c : Int) = some ((oneC c).f0, (oneC c).f1, (oneC c).f2, (oneC c).f3) ∧ Ok39 (oneC c) ∧ ∀ z, z < 256 → hasB (oneC c) z = (z == c) := by
  have h := List.all_eq_true.1 all_ones c (List.mem_range.2 hc)
  unfold okOne at h
  unfold oneC
  cases ho : dragomanref04_One.f (c : Int) with
  | none => rw [ho] at h; cases h
  | some r =>
    obtain ⟨a, b, d, e⟩ := r
    rw [ho] at h
    simp only [Bool.and_eq_true] at h
    obtain ⟨⟨⟨⟨h1, h2⟩, h3⟩, h4⟩, h5⟩ := h
    refine ⟨rfl, ⟨h1, h2, h3, h4⟩, fun z hz => ?_⟩
    have := List.all_eq_true.1 h5 z (List.mem_range.2 hz)
    exact beq_iff_eq.1 this
def oneL (c : Nat) : List S42 := [⟨1, oneC c, ⟨0, 0⟩⟩]
theorem one_Rt (c : Nat) (hc : c < 256) (x : ByteArray) (hx : x.size ≤ 9000) : Rt (oneL c) x :=
  ⟨by unfold oneL; simp, .leaf (.inr (.inl rfl)), by
    intro y hy
    obtain rfl := List.mem_singleton.1 hy
    exact ⟨by dsimp only; decide, (one_spec c hc).2.1, by dsimp only; decide, by dsimp only; decide⟩, by
    show 1 * (x.size + 1) ≤ 10000
    omega⟩
theorem one_stands (c : Nat) (hc : c < 256) (x : ByteArray) (a b : Nat) : Stands (oneL c) x a b ↔ b = a + 1 ∧ b ≤ x.size ∧ sb x a = c := by
  have hs := (one_spec c hc).2.2 (sb x a) (sb_lt x a)
  have hk : (ndOf (oneL c) 0).kind = 1 := rfl
  have hm : (ndOf (oneL c) 0).mem = hasB (oneC c) := rfl
  unfold Stands
  show M (ndOf (oneL c)) x.size (sb x) 0 a b ↔ _
  constructor
  · intro h
    cases h with
    | set _ h1 h2 =>
      rw [hm, hs] at h2
      exact ⟨rfl, h1, beq_iff_eq.1 h2⟩
    | none k | cat k | alt0 k | alt1 k | star0 k | star1 k | plus0 k | plus1 k | opt0 k | opt1 k | bgn k | fin k => omega
  · rintro ⟨rfl, h1, h2⟩
    exact .set hk (by omega) (by rw [hm, hs]; exact beq_iff_eq.2 h2)
/-- The tree of a text's first n bytes. -/
def litT (s : ByteArray) : Nat → List S42
  | 0 => [⟨0, ⟨0, 0, 0, 0⟩, ⟨0, 0⟩⟩]
  | n + 1 => if n = 0 then oneL (sb s 0) else joinOf (litT s n) (oneL (sb s n)) 2
theorem lit_len (s : ByteArray) : ∀ n, (litT s n).length ≤ 2 * n + 1
  | 0 => by simp [litT]
  | n + 1 => by
    have ih := lit_len s n
    unfold litT
    by_cases h : n = 0
    · rw [if_pos h]; simp [oneL]
    · rw [if_neg h, join_len]
      have : (oneL (sb s n)).length = 1 := rfl
      omega
theorem lit_Rt0 (s : ByteArray) : ∀ n, n ≤ 25 → Rt (litT s n) ByteArray.empty
  | 0, _ => ⟨by simp [litT], .leaf (.inl rfl), by
      intro y hy
      obtain rfl := List.mem_singleton.1 hy
      exact ⟨by decide, ⟨by decide, by decide, by decide, by decide⟩, by decide, by decide⟩, by show 1 * (ByteArray.empty.size + 1) ≤ 10000; decide⟩
  | n + 1, hn => by
    have ih := lit_Rt0 s n (by omega)
    have hl := lit_len s n
    unfold litT
    by_cases h : n = 0
    · rw [if_pos h]; exact one_Rt _ (sb_lt s 0) _ (by decide)
    · rw [if_neg h]
      exact join_Rt ih (one_Rt _ (sb_lt s n) _ (by decide)) (by omega) (by show 1 ≤ 60; omega) (by decide) (.inl rfl)
theorem lit_Rt (s x : ByteArray) (n : Nat) (hn : n ≤ 25) (hx : x.size ≤ 80) : Rt (litT s n) x := by
  have h := lit_Rt0 s n hn
  have hl := lit_len s n
  exact ⟨h.pos, h.sub, h.ok, by
    have : (litT s n).length * (x.size + 1) ≤ 51 * 81 := Nat.mul_le_mul (by omega) (by omega)
    omega⟩
theorem lit_stands (s x : ByteArray) (hx : x.size ≤ 80) : ∀ (n : Nat), n ≤ 25 → ∀ a b, a ≤ x.size → (Stands (litT s n) x a b ↔ b = a + n ∧ b ≤ x.size ∧ ∀ i, i < n → sb x (a + i) = sb s i)
  | 0, _ => fun a b ha => by
    have hk : (ndOf (litT s 0) 0).kind = 0 := rfl
    unfold Stands
    show M (ndOf (litT s 0)) x.size (sb x) 0 a b ↔ _
    constructor
    · intro h
      cases h with
      | none _ => exact ⟨rfl, ha, fun i hi => by omega⟩
      | set k | cat k | alt0 k | alt1 k | star0 k | star1 k | plus0 k | plus1 k | opt0 k | opt1 k | bgn k | fin k => omega
    · rintro ⟨rfl, -⟩
      exact .none hk
  | n + 1, hn => fun a b ha => by
    have ih := lit_stands s x hx n (by omega)
    by_cases h : n = 0
    · subst h
      have e : litT s (0 + 1) = oneL (sb s 0) := rfl
      rw [e, one_stands _ (sb_lt s 0)]
      constructor
      · rintro ⟨h1, h2, h3⟩
        refine ⟨h1, h2, fun i hi => ?_⟩
        obtain rfl : i = 0 := by omega
        exact h3
      · rintro ⟨h1, h2, h3⟩
        exact ⟨h1, h2, h3 0 (by omega)⟩
    · have e : litT s (n + 1) = joinOf (litT s n) (oneL (sb s n)) 2 := by
        show (if n = 0 then _ else _) = _
        rw [if_neg h]
      rw [e, cat_stands (lit_Rt s x n (by omega) hx) (one_Rt _ (sb_lt s n) x (by omega))]
      constructor
      · rintro ⟨c, h1, h2⟩
        obtain ⟨rfl, g2, g3⟩ := (ih a c ha).1 h1
        obtain ⟨q1, q2, q3⟩ := (one_stands _ (sb_lt s n) x (a + n) b).1 h2
        refine ⟨by omega, q2, fun i hi => ?_⟩
        by_cases e : i = n
        · subst e; exact q3
        · exact g3 i (by omega)
      · rintro ⟨rfl, h2, h3⟩
        exact ⟨a + n, (ih a (a + n) ha).2 ⟨rfl, by omega, fun i hi => h3 i (by omega)⟩, (one_stands _ (sb_lt s n) x (a + n) (a + (n + 1))).2 ⟨by omega, h2, h3 n (by omega)⟩⟩
theorem lit_loop (s : ByteArray) (hs : s.size ≤ 25) : ∀ (d i k : Nat), i + d = s.size → 500 + d < k → dragomanref05_Lit.l0 k s (litT s i) (i : Int) = some (litT s s.size, 0) := by
  intro d
  induction d with
  | zero =>
    intro i k hi hk
    obtain ⟨k, rfl⟩ : ∃ m, k = m + 1 := ⟨k - 1, by omega⟩
    obtain rfl : i = s.size := by omega
    simp only [dragomanref05_Lit.l0]
    rw [if_neg (by omega)]
  | succ d ih =>
    intro i k hi hk
    obtain ⟨k, rfl⟩ : ∃ m, k = m + 1 := ⟨k - 1, by omega⟩
    have hb : bt s (i : Int) = ((sb s i : Nat) : Int) := by
      have := bt_range s (i : Int)
      unfold sb
      omega
    have hih := ih (i + 1) k (by omega) (by omega)
    have ho := (one_spec (sb s i) (sb_lt s i)).1
    simp only [dragomanref05_Lit.l0]
    rw [if_pos (by omega), if_pos (by omega), hb, ho, Option.bind_some, Option.bind_some, wrap_succ i (by omega)]
    by_cases h : i = 0
    · subst h
      rw [if_pos (by omega)]
      exact hih
    · rw [if_neg (by omega)]
      have hR := lit_Rt0 s i (by omega)
      have hl := lit_len s i
      have hO := one_Rt _ (sb_lt s i) ByteArray.empty (by decide)
      have e : litT s (i + 1) = joinOf (litT s i) (oneL (sb s i)) 2 := by
        show (if i = 0 then _ else _) = _
        rw [if_neg h]
      have hj := Join_is (t := litT s i) (u := oneL (sb s i)) hO.sub hO.pos (by show 1 ≤ 60; omega) hR.pos (by omega) 2 (.inl rfl) k (by omega)
      have hj' : dragomanref05_Join.f k (litT s i) ([(⟨1, (⟨(oneC (sb s i)).f0, (oneC (sb s i)).f1, (oneC (sb s i)).f2, (oneC (sb s i)).f3⟩ : S39), (⟨0, 0⟩ : S40)⟩ : S42)] : List (S42)) 2 = _ := hj
      rw [hj', Option.bind_some]
      rw [e] at hih
      exact hih
theorem Lit_is (s : ByteArray) (hs : s.size ≤ 25) (k : Nat) (hk : 600 ≤ k) : dragomanref05_Lit.f k s = some (litT s s.size, 0) := by
  unfold dragomanref05_Lit.f
  rw [if_neg (by omega)]
  exact lit_loop s hs s.size 0 k (by omega) (by omega)
theorem toList_iff (s t : ByteArray) : (s.toList = t.toList) ↔ s.size = t.size ∧ ∀ i, i < s.size → sb t (0 + i) = sb s i := by
  rw [ByteArray.toList_eq, ByteArray.toList_eq]
  have ls := data_length s
  have lt := data_length t
  constructor
  · intro h
    have hz : s.size = t.size := by rw [← ls, ← lt, h]
    refine ⟨hz, (occ_iff t s 0 s.size (by omega) (Nat.le_refl _)).2 ?_⟩
    rw [List.drop_zero, h]
  · rintro ⟨hz, h⟩
    have := (occ_iff t s 0 s.size (by omega) (Nat.le_refl _)).1 h
    rw [List.drop_zero, List.take_of_length_le (by omega), List.take_of_length_le (by omega)] at this
    exact this.symm
end Go.Proofs.Ytmhkofgappbpjaa.P
end

/- The law of Lits, in plain words. -/
section
set_option linter.unusedVariables false
set_option linter.unusedSimpArgs false
namespace Go.Proofs.Ytmhkofgappbpjaa.P
open Go.RowKit Go.Proofs.YtmhkofgappbpjaaW.PrintWords Go.Proofs.Ytmhkofgappbpjaa.QA Go.Proofs.Ytmhkofgappbpjaa.QB Go.Proofs.Ytmhkofgappbpjaa.QC Go.Proofs.Ytmhkofgappbpjaa.G Go.Proofs.Ytmhkofgappbpjaa.Mt
theorem Pure.MatchLits (a0 a1 a2 : ByteArray) (_ : a0.size ≤ 140737488351232) (_ : a1.size ≤ 140737488351232) (_ : a2.size ≤ 140737488351232) : ∃ k, dragomanlaw06_MatchLits.f k a0 a1 a2 = some true := by
  have hj : ∀ k, 1 ≤ k → dragomanlaw06_MatchLits.j0 k a0 a1 a2 true true = some true := fun k hk => by
    obtain ⟨k, rfl⟩ : ∃ m, k = m + 1 := ⟨k - 1, by omega⟩
    simp only [dragomanlaw06_MatchLits.j0, if_true]
  refine ⟨300002, ?_⟩
  unfold dragomanlaw06_MatchLits.f
  rw [shown_ok 300002 (by decide), Option.bind_some]
  by_cases c0 : (a0.size : Int) > 25
  · rw [if_pos c0]; exact hj _ (by decide)
  rw [if_neg c0]
  by_cases c1 : (a1.size : Int) > 25
  · rw [if_pos c1]; exact hj _ (by decide)
  rw [if_neg c1]
  by_cases c2 : (a2.size : Int) > 25
  · rw [decide_eq_true c2]; exact hj _ (by decide)
  rw [decide_eq_false c2]
  have z1 : (a2 ++ a0).size = a2.size + a0.size := ByteArray.size_append
  have z2 : (a2 ++ a0 ++ a1).size = a2.size + a0.size + a1.size := by rw [ByteArray.size_append, z1]
  have hd : (a2 ++ a0 ++ a1).data.toList = a2.data.toList ++ a0.data.toList ++ a1.data.toList := by simp [ByteArray.data_append]
  have l0 := data_length a0
  have l1 := data_length a1
  have l2 := data_length a2
  have b1 : a2.size + a0.size ≤ 9223372036854775807 := Nat.le_trans (by omega : _ ≤ 100) (by decide)
  have b2 : (a2 ++ a0).size + a1.size ≤ 9223372036854775807 := Nat.le_trans (by rw [z1]; omega : _ ≤ 100) (by decide)
  generalize hX : a2 ++ a0 ++ a1 = X at *
  have hRt := lit_Rt a0 X a0.size (by omega) (by omega)
  have hst := lit_stands a0 X (by omega) a0.size (by omega)
  have hocc : ∀ i, i < a0.size → sb X (a2.size + i) = sb a0 i := (occ_iff X a0 a2.size a0.size (by omega) (Nat.le_refl _)).2 (by
    rw [hd, List.append_assoc, ← l2, List.drop_left, ← l0, List.take_left, List.take_length])
  have hat := (hst a2.size (a2.size + a0.size) (by omega)).2 ⟨rfl, by omega, hocc⟩
  obtain ⟨r, hr, hR⟩ := Span_both hRt 0
  have hks : KS X ≤ 300000 := by
    unfold KS
    have : (X.size + 1) * (X.size + 4) ≤ 76 * 79 := Nat.mul_le_mul (by omega) (by omega)
    omega
  rcases hR with ⟨a, b, rfl, h1, h2, h3, h4, h5, h6⟩ | ⟨rfl, h1⟩
  rotate_left
  · exact absurd hat (h1 a2.size (Nat.zero_le _) (by omega) _ (by omega))
  have ha : a ≤ a2.size := by
    rcases Nat.lt_or_ge a2.size a with g | g
    · exact absurd hat (h6 a2.size (Nat.zero_le _) g _ (by omega))
    · exact g
  obtain ⟨rfl, hb2, hb3⟩ := (hst a b h2).1 h4
  have hR0 := lit_Rt a0 a0 a0.size (by omega) (by omega)
  have hR1 := lit_Rt a0 a1 a0.size (by omega) (by omega)
  have hw0 : ∀ k, 100000 ≤ k → match_Whole.f k (litT a0 a0.size) a0 = some true := fun k hk => by
    rw [Whole_eq hR0 k hk]
    congr 1
    exact (Whole_iff hR0).2 ((lit_stands a0 a0 (by omega) a0.size (by omega) 0 a0.size (Nat.zero_le _)).2 ⟨by omega, Nat.le_refl _, fun i _ => by rw [Nat.zero_add]⟩)
  have hw1 : ∀ k, 100000 ≤ k → match_Whole.f k (litT a0 a0.size) a1 = some (a0.toList == a1.toList) := fun k hk => by
    rw [Whole_eq hR1 k hk]
    congr 1
    rw [Bool.eq_iff_iff, Whole_iff hR1, lit_stands a0 a1 (by omega) a0.size (by omega) 0 a1.size (Nat.zero_le _), beq_iff_eq, toList_iff]
    constructor
    · rintro ⟨g1, -, g3⟩; exact ⟨by omega, g3⟩
    · rintro ⟨g1, g2⟩; exact ⟨by omega, Nat.le_refl _, g2⟩
  have hext : ((X.extract a (a + a0.size)).toList == a0.toList) = true := by
    rw [beq_iff_eq, Lib.extract_toList, ByteArray.toList_eq, show a + a0.size - a = a0.size from by omega, (occ_iff X a0 a a0.size (by omega) (Nat.le_refl _)).1 hb3, List.take_of_length_le (by omega)]
  have hsp := (hr 300000 hks).1
  rw [show ((0 : Nat) : Int) = 0 from rfl] at hsp
  show dragomanlaw06_MatchLits.j0 (300000 + 1 + 1) a0 a1 a2 true false = some true
  generalize hK : 300000 = K at hsp ⊢
  have g0 : ¬ ((a : Int) > (a2.size : Int)) := by omega
  have g1 : 100000 ≤ K := by omega
  have g2 : 0 ≤ (a : Int) := by omega
  have g3 : (a : Int) ≤ ((a + a0.size : Nat) : Int) := by omega
  have g4 : ((a + a0.size : Nat) : Int) ≤ (X.size : Int) := by omega
  have g5 : a0.size ≤ 25 := by omega
  have g6 : 600 ≤ K + 1 := by omega
  have g7 : (a2.size : Int) + (a0.size : Int) ≤ 1000 ∧ (a : Int) + (a0.size : Int) = ((a + a0.size : Nat) : Int) := by omega
  have hL := Lit_is a0 g5 (K + 1) g6
  have hW0 := hw0 K g1
  have hW1 := hw1 K g1
  have hsp1 : match_Span.f (K + 1) (litT a0 a0.size) X 0 = some ((a : Int), ((a + a0.size : Nat) : Int), true) := at_rounds (fun k => match_Span.mono (litT a0 a0.size) X 0 k) (Nat.le_succ K) hsp
  have hw : wrap64 ((a : Int) + (a0.size : Int)) = ((a + a0.size : Nat) : Int) := by
    have : (a : Int) + (a0.size : Int) < 9223372036854775808 := by omega
    clear hsp1 hsp hL hW0 hW1 hw0 hw1 hr
    unfold wrap64; omega
  have hn : (((a + a0.size : Nat) : Int) != ((a + a0.size : Nat) : Int)) = false := by simp
  simp only [dragomanlaw06_MatchLits.j0, Bool.false_eq_true, if_false]
  rw [hL, Option.bind_some, if_pos b1, if_pos b2]
  dsimp only
  rw [hX, hsp1, Option.bind_some]
  dsimp only
  rw [if_pos rfl, if_neg g0, hw, hn]
  simp only [dragomanlaw06_MatchLits.j1, Bool.false_eq_true, if_false, if_true]
  rw [hW0, Option.bind_some, if_pos rfl, hW1, Option.bind_some, if_pos (by simp), if_pos b1, if_pos b2, hX, if_pos g2, if_pos g3, if_pos g4, Int.toNat_natCast, Int.toNat_natCast, hext]
end Go.Proofs.Ytmhkofgappbpjaa.P
end
