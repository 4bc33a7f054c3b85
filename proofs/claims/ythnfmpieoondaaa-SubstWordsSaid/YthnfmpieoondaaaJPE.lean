/- Texts of this seat, put together: each part tells above it what it proves and on what conditions. -/
import Derived.Test.YthnfmpieoondaaaJPC
import Derived.Test.YthnfmpieoondaaaJQCx
import Derived.Lib.Strings
/- A tree within a tree; the law of Stars, in plain words. -/
section
set_option linter.unusedVariables false
set_option linter.unusedSimpArgs false
namespace Go.Proofs.Ythnfmpieoondaaa.P
open Go.RowKit Go.Proofs.YthnfmpieoondaaaW.PrintWords Go.Proofs.Ythnfmpieoondaaa.QA Go.Proofs.Ythnfmpieoondaaa.QB Go.Proofs.Ythnfmpieoondaaa.QC Go.Proofs.Ythnfmpieoondaaa.G Go.Proofs.Ythnfmpieoondaaa.Mt
/-- The nodes of one tree lie within another one, off places further. -/
structure Emb (nd nd' : Nat → Nd) (off n : Nat) : Prop where
  kind : ∀ i, i < n → (nd' (off + i)).kind = (nd i).kind
  mem : ∀ i, i < n → (nd' (off + i)).mem = (nd i).mem
  k0 : ∀ i, i < n → 2 ≤ (nd i).kind → (nd i).kind ≤ 6 → (nd' (off + i)).k0 = off + (nd i).k0 ∧ (nd i).k0 < n
  k1 : ∀ i, i < n → (nd i).kind = 2 ∨ (nd i).kind = 3 → (nd' (off + i)).k1 = off + (nd i).k1 ∧ (nd i).k1 < n
section
variable {nd nd' : Nat → Nd} {off n L : Nat} {sb : Nat → Nat}
theorem Emb.to (E : Emb nd nd' off n) {i a b : Nat} (h : M nd L sb i a b) : i < n → M nd' L sb (off + i) a b := by
  induction h with
  | none hk => intro hi; exact .none (by rw [E.kind _ hi]; exact hk)
  | set hk h1 h2 => intro hi; exact .set (by rw [E.kind _ hi]; exact hk) h1 (by rw [E.mem _ hi]; exact h2)
  | cat hk _ _ ih1 ih2 =>
    intro hi
    obtain ⟨e0, l0⟩ := E.k0 _ hi (by omega) (by omega)
    obtain ⟨e1, l1⟩ := E.k1 _ hi (by omega)
    exact .cat (by rw [E.kind _ hi]; exact hk) (by rw [e0]; exact ih1 l0) (by rw [e1]; exact ih2 l1)
  | alt0 hk _ ih =>
    intro hi
    obtain ⟨e0, l0⟩ := E.k0 _ hi (by omega) (by omega)
    exact .alt0 (by rw [E.kind _ hi]; exact hk) (by rw [e0]; exact ih l0)
  | alt1 hk _ ih =>
    intro hi
    obtain ⟨e1, l1⟩ := E.k1 _ hi (by omega)
    exact .alt1 (by rw [E.kind _ hi]; exact hk) (by rw [e1]; exact ih l1)
  | star0 hk => intro hi; exact .star0 (by rw [E.kind _ hi]; exact hk)
  | star1 hk _ _ ih1 ih2 =>
    intro hi
    obtain ⟨e0, l0⟩ := E.k0 _ hi (by omega) (by omega)
    exact .star1 (by rw [E.kind _ hi]; exact hk) (by rw [e0]; exact ih1 l0) (ih2 hi)
  | plus0 hk _ ih =>
    intro hi
    obtain ⟨e0, l0⟩ := E.k0 _ hi (by omega) (by omega)
    exact .plus0 (by rw [E.kind _ hi]; exact hk) (by rw [e0]; exact ih l0)
  | plus1 hk _ _ ih1 ih2 =>
    intro hi
    obtain ⟨e0, l0⟩ := E.k0 _ hi (by omega) (by omega)
    exact .plus1 (by rw [E.kind _ hi]; exact hk) (by rw [e0]; exact ih1 l0) (ih2 hi)
  | opt0 hk => intro hi; exact .opt0 (by rw [E.kind _ hi]; exact hk)
  | opt1 hk _ ih =>
    intro hi
    obtain ⟨e0, l0⟩ := E.k0 _ hi (by omega) (by omega)
    exact .opt1 (by rw [E.kind _ hi]; exact hk) (by rw [e0]; exact ih l0)
  | bgn hk => intro hi; exact .bgn (by rw [E.kind _ hi]; exact hk)
  | fin hk => intro hi; exact .fin (by rw [E.kind _ hi]; exact hk)
theorem Emb.from (E : Emb nd nd' off n) {j a b : Nat} (h : M nd' L sb j a b) : ∀ i, j = off + i → i < n → M nd L sb i a b := by
  induction h with
  | none hk => rintro i rfl hi; exact .none (by rw [← E.kind _ hi]; exact hk)
  | set hk h1 h2 => rintro i rfl hi; exact .set (by rw [← E.kind _ hi]; exact hk) h1 (by rw [← E.mem _ hi]; exact h2)
  | cat hk _ _ ih1 ih2 =>
    rintro i rfl hi
    rw [E.kind _ hi] at hk
    obtain ⟨e0, l0⟩ := E.k0 _ hi (by omega) (by omega)
    obtain ⟨e1, l1⟩ := E.k1 _ hi (by omega)
    exact .cat hk (ih1 _ e0 l0) (ih2 _ e1 l1)
  | alt0 hk _ ih =>
    rintro i rfl hi
    rw [E.kind _ hi] at hk
    obtain ⟨e0, l0⟩ := E.k0 _ hi (by omega) (by omega)
    exact .alt0 hk (ih _ e0 l0)
  | alt1 hk _ ih =>
    rintro i rfl hi
    rw [E.kind _ hi] at hk
    obtain ⟨e1, l1⟩ := E.k1 _ hi (by omega)
    exact .alt1 hk (ih _ e1 l1)
  | star0 hk => rintro i rfl hi; exact .star0 (by rw [← E.kind _ hi]; exact hk)
  | star1 hk _ _ ih1 ih2 =>
    rintro i rfl hi
    rw [E.kind _ hi] at hk
    obtain ⟨e0, l0⟩ := E.k0 _ hi (by omega) (by omega)
    exact .star1 hk (ih1 _ e0 l0) (ih2 _ rfl hi)
  | plus0 hk _ ih =>
    rintro i rfl hi
    rw [E.kind _ hi] at hk
    obtain ⟨e0, l0⟩ := E.k0 _ hi (by omega) (by omega)
    exact .plus0 hk (ih _ e0 l0)
  | plus1 hk _ _ ih1 ih2 =>
    rintro i rfl hi
    rw [E.kind _ hi] at hk
    obtain ⟨e0, l0⟩ := E.k0 _ hi (by omega) (by omega)
    exact .plus1 hk (ih1 _ e0 l0) (ih2 _ rfl hi)
  | opt0 hk => rintro i rfl hi; exact .opt0 (by rw [← E.kind _ hi]; exact hk)
  | opt1 hk _ ih =>
    rintro i rfl hi
    rw [E.kind _ hi] at hk
    obtain ⟨e0, l0⟩ := E.k0 _ hi (by omega) (by omega)
    exact .opt1 hk (ih _ e0 l0)
  | bgn hk => rintro i rfl hi; exact .bgn (by rw [← E.kind _ hi]; exact hk)
  | fin hk => rintro i rfl hi; exact .fin (by rw [← E.kind _ hi]; exact hk)
end
/-- The same of lists. -/
structure EmbL (l l' : List S55) (off : Nat) : Prop where
  f0 : ∀ j : Nat, j < l.length → (rd_T55 l' ((off + j : Nat) : Int)).f0 = (rd_T55 l (j : Int)).f0
  f1 : ∀ j : Nat, j < l.length → (rd_T55 l' ((off + j : Nat) : Int)).f1 = (rd_T55 l (j : Int)).f1
  k0 : ∀ j : Nat, j < l.length → 2 ≤ (rd_T55 l (j : Int)).f0 → (rd_T55 l (j : Int)).f0 ≤ 6 → (rd_T55 l' ((off + j : Nat) : Int)).f2.f0 = (rd_T55 l (j : Int)).f2.f0 + off
  k1 : ∀ j : Nat, j < l.length → (rd_T55 l (j : Int)).f0 = 2 ∨ (rd_T55 l (j : Int)).f0 = 3 → (rd_T55 l' ((off + j : Nat) : Int)).f2.f1 = (rd_T55 l (j : Int)).f2.f1 + off
theorem EmbL.emb {l l' : List S55} {off : Nat} (E : EmbL l l' off) (hp : 0 < l.length) (h : SubT l 0 (l.length - 1)) : Emb (ndOf l) (ndOf l') off l.length := by
  have P := h.prop
  refine ⟨fun i hi => E.f0 i hi, fun i hi => by unfold ndOf; dsimp only; rw [E.f1 i hi], fun i hi h1 h2 => ?_, fun i hi h1 => ?_⟩
  · have a := E.k0 i hi h1 h2
    have b := P.k0 i (Nat.zero_le _) (by omega) h1 h2
    unfold ndOf
    dsimp only
    rw [a]
    omega
  · have a := E.k1 i hi h1
    have b := P.k1 i (Nat.zero_le _) (by omega) h1
    unfold ndOf
    dsimp only
    rw [a]
    omega
theorem EmbL.sub {l l' : List S55} {off : Nat} (E : EmbL l l' off) {b i : Nat} (h : SubT l b i) : i < l.length → SubT l' (off + b) (off + i) := by
  induction h with
  | @leaf i h => intro hi; exact .leaf (by rw [E.f0 i hi]; exact h)
  | @un b i h1 h2 h3 h4 _ ih =>
    intro hi
    have z := ih (by omega)
    rw [show off + (i - 1) = off + i - 1 from by omega] at z
    exact .un (by omega) (by rw [E.f0 i hi]; exact h2) (by rw [E.f0 i hi]; exact h3) (by rw [E.k0 i hi (by omega) h3]; omega) z
  | @bin b c i h1 h2 h3 h4 h5 h6 h7 ih1 ih2 =>
    intro hi
    have le := h3.prop.le
    have z1 := ih1 (by omega)
    have z2 := ih2 (by omega)
    rw [show off + (i - 1) = off + i - 1 from by omega] at z1
    rw [show off + (c - 1) = off + c - 1 from by omega] at z2
    exact .bin (by omega) (by rw [E.f0 i hi]; exact h2) z1 (by omega) (by rw [E.k0 i hi (by omega) (by omega)]; omega) (by rw [E.k1 i hi h2]; omega) z2
theorem rd_left (l m : List S55) (i : Nat) (h : i < l.length) : rd_T55 (l ++ m) (i : Int) = rd_T55 l (i : Int) := by
  unfold rd_T55
  rw [Int.toNat_natCast, List.getD_eq_getElem?_getD, List.getD_eq_getElem?_getD, List.getElem?_append_left h]
theorem rd_right (l m : List S55) (i : Nat) : rd_T55 (l ++ m) ((l.length + i : Nat) : Int) = rd_T55 m (i : Int) := by
  unfold rd_T55
  rw [Int.toNat_natCast, Int.toNat_natCast, List.getD_eq_getElem?_getD, List.getD_eq_getElem?_getD, List.getElem?_append_right (by omega), Nat.add_sub_cancel_left]
theorem emb_left (l m : List S55) : EmbL l (l ++ m) 0 :=
  ⟨fun j h => by rw [Nat.zero_add, rd_left l m j h], fun j h => by rw [Nat.zero_add, rd_left l m j h], fun j h _ _ => by rw [Nat.zero_add, rd_left l m j h]; omega, fun j h _ => by rw [Nat.zero_add, rd_left l m j h]; omega⟩
theorem wf_i64 {n : Int} (h1 : -9223372036854775808 ≤ n) (h2 : n ≤ 9223372036854775807) : (Lit.int .i64 n).wf = true := by
  simp only [Lit.wf, IntKind.min, IntKind.max, IntKind.signed, IntKind.bits, Bool.and_eq_true, decide_eq_true_eq, if_true]
  omega
end Go.Proofs.Ythnfmpieoondaaa.P
end

/- The law of Joins, in plain words. -/
section
set_option linter.unusedVariables false
set_option linter.unusedSimpArgs false
namespace Go.Proofs.Ythnfmpieoondaaa.P
open Go.RowKit Go.Proofs.YthnfmpieoondaaaW.PrintWords Go.Proofs.Ythnfmpieoondaaa.QA Go.Proofs.Ythnfmpieoondaaa.QB Go.Proofs.Ythnfmpieoondaaa.QC Go.Proofs.Ythnfmpieoondaaa.G Go.Proofs.Ythnfmpieoondaaa.Mt
theorem many_is (v : Int) (h0 : 0 ≤ v) (h8 : v ≤ 8) (k : Nat) (hk : 2 ≤ k) : dragomanref05_many.f k v = some (if v = 2 ∨ v = 3 then 2 else if 4 ≤ v ∧ v ≤ 6 then 1 else 0) := by
  obtain ⟨k, rfl⟩ : ∃ m, k = m + 2 := ⟨k - 2, by omega⟩
  have : v = 0 ∨ v = 1 ∨ v = 2 ∨ v = 3 ∨ v = 4 ∨ v = 5 ∨ v = 6 ∨ v = 7 ∨ v = 8 := by omega
  rcases this with rfl | rfl | rfl | rfl | rfl | rfl | rfl | rfl | rfl <;> rfl
/-- A node, its kids told off places further. -/
def shiftN (off : Nat) (x : S55) : S55 := ⟨x.f0, x.f1, ⟨if 2 ≤ x.f0 ∧ x.f0 ≤ 6 then x.f2.f0 + off else x.f2.f0, if x.f0 = 2 ∨ x.f0 = 3 then x.f2.f1 + off else x.f2.f1⟩⟩
/-- Two trees under one node. -/
def joinOf (t u : List S55) (kd : Int) : List S55 := t ++ (u.map (shiftN t.length) ++ [⟨kd, ⟨0, 0, 0, 0⟩, ⟨(t.length : Int) - 1, ((t.length + u.length : Nat) : Int) - 1⟩⟩])
theorem join_loop (u : List S55) (hu : SubT u 0 (u.length - 1)) (hp : 0 < u.length) (hul : u.length ≤ 60) (kd : Int) (off : Nat) (ho : 0 < off) (hol : off ≤ 60) : ∀ (d n k : Nat) (acc : List S55), n + d = u.length → d + 5 < k → acc.length + d ≤ 1000 →
    dragomanref05_Join.l0 k u kd (off : Int) acc (n : Int) = some (acc ++ ((u.drop n).map (shiftN off) ++ [⟨kd, ⟨0, 0, 0, 0⟩, ⟨(off : Int) - 1, ((off + u.length : Nat) : Int) - 1⟩⟩]), 0) := by
  have P := hu.prop
  intro d
  induction d with
  | zero =>
    intro n k acc hn hk ha
    obtain ⟨k, rfl⟩ : ∃ m, k = m + 1 := ⟨k - 1, by omega⟩
    have w1 : wrap64 ((off : Int) - 1) = (off : Int) - 1 := by unfold wrap64; omega
    have w2 : wrap64 ((off : Int) + (u.length : Int)) = ((off + u.length : Nat) : Int) := by unfold wrap64; omega
    have w3 : wrap64 (((off + u.length : Nat) : Int) - 1) = ((off + u.length : Nat) : Int) - 1 := by unfold wrap64; omega
    rw [List.drop_eq_nil_of_le (by omega), List.map_nil, List.nil_append]
    simp only [dragomanref05_Join.l0]
    rw [if_neg (by omega), if_pos (by omega), w1, w2, w3]
  | succ d ih =>
    intro n k acc hn hk ha
    obtain ⟨k, rfl⟩ : ∃ m, k = m + 1 := ⟨k - 1, by omega⟩
    have hlt : n < u.length := by omega
    have hx : rd_T55 u (n : Int) = u[n] := by unfold rd_T55; rw [Int.toNat_natCast, List.getD_eq_getElem?_getD, List.getElem?_eq_getElem hlt]; rfl
    have hkd := P.kinds n (Nat.zero_le _) (by omega)
    have hk0 := P.k0 n (Nat.zero_le _) (by omega)
    have hk1 := P.k1 n (Nat.zero_le _) (by omega)
    have hih := ih (n + 1) k (acc ++ [shiftN off u[n]]) (by omega) (by omega) (by simp; omega)
    rw [List.append_assoc, List.singleton_append] at hih
    rw [List.drop_eq_getElem_cons hlt, List.map_cons, List.cons_append, ← hih]
    rw [hx] at hkd hk0 hk1
    generalize hX : u[n] = X at *
    simp only [dragomanref05_Join.l0]
    rw [if_pos (by omega), if_pos (by omega), hx, many_is X.f0 hkd.1 hkd.2 k (by omega), Option.bind_some, wrap_succ n (by omega)]
    by_cases c1 : X.f0 = 2 ∨ X.f0 = 3
    · have w0 : wrap64 (X.f2.f0 + (off : Int)) = X.f2.f0 + off := by have := hk0 (by omega) (by omega); unfold wrap64; omega
      have w1 : wrap64 (X.f2.f1 + (off : Int)) = X.f2.f1 + off := by have := hk1 c1; unfold wrap64; omega
      rw [if_pos c1, if_pos (by decide), if_pos (by decide), if_pos (by omega), w0, w1]
      unfold shiftN
      rw [if_pos (by omega), if_pos c1]
    · rw [if_neg c1]
      by_cases c2 : 4 ≤ X.f0 ∧ X.f0 ≤ 6
      · have w0 : wrap64 (X.f2.f0 + (off : Int)) = X.f2.f0 + off := by have := hk0 (by omega) (by omega); unfold wrap64; omega
        rw [if_pos c2, if_pos (by decide), if_neg (by decide), if_pos (by omega), w0]
        unfold shiftN
        rw [if_pos (by omega), if_neg c1]
      · rw [if_neg c2, if_neg (by decide), if_neg (by decide), if_pos (by omega)]
        unfold shiftN
        rw [if_neg (by omega), if_neg c1]
theorem Join_is {t u : List S55} (hu : SubT u 0 (u.length - 1)) (hp : 0 < u.length) (hul : u.length ≤ 60) (hpt : 0 < t.length) (htl : t.length ≤ 60) (kd : Int) (hkd : kd = 2 ∨ kd = 3) (k : Nat) (hk : 200 ≤ k) : dragomanref05_Join.f k t u kd = some (joinOf t u kd, 0) := by
  obtain ⟨k, rfl⟩ : ∃ m, k = m + 1 := ⟨k - 1, by omega⟩
  have w2 : wrap64 ((t.length : Int) + (u.length : Int)) = ((t.length + u.length : Nat) : Int) := by unfold wrap64; omega
  have hj : dragomanref05_Join.j0 (k + 1) t u kd false = some (joinOf t u kd, 0) := by
    simp only [dragomanref05_Join.j0, Bool.false_eq_true, if_false, Option.bind_some, List.nil_append]
    rw [w2, if_neg (by omega), if_pos (by simp; omega)]
    have := join_loop u hu hp hul kd t.length hpt htl u.length 0 k t (by omega) (by omega) (by omega)
    exact this
  unfold dragomanref05_Join.f
  rcases hkd with rfl | rfl
  · rw [if_pos rfl]; exact hj
  · rw [if_neg (by decide)]; exact hj
section
variable {t u : List S55} {s : ByteArray} {kd : Int}
theorem join_len (t u : List S55) (kd : Int) : (joinOf t u kd).length = t.length + u.length + 1 := by unfold joinOf; simp; omega
theorem join_top (t u : List S55) (kd : Int) : rd_T55 (joinOf t u kd) ((t.length + u.length : Nat) : Int) = ⟨kd, ⟨0, 0, 0, 0⟩, ⟨(t.length : Int) - 1, ((t.length + u.length : Nat) : Int) - 1⟩⟩ := by
  unfold joinOf
  rw [rd_right]
  have := rd_right (u.map (shiftN t.length)) [⟨kd, ⟨0, 0, 0, 0⟩, ⟨(t.length : Int) - 1, ((t.length + u.length : Nat) : Int) - 1⟩⟩] 0
  rw [Nat.add_zero, List.length_map] at this
  exact this
theorem rd_map (u : List S55) (off j : Nat) (h : j < u.length) : rd_T55 (u.map (shiftN off)) (j : Int) = shiftN off (rd_T55 u (j : Int)) := by
  unfold rd_T55
  rw [Int.toNat_natCast, List.getD_eq_getElem?_getD, List.getD_eq_getElem?_getD, List.getElem?_map, List.getElem?_eq_getElem h]
  rfl
theorem join_right (t u : List S55) (kd : Int) : EmbL u (joinOf t u kd) t.length := by
  have key : ∀ j : Nat, j < u.length → rd_T55 (joinOf t u kd) ((t.length + j : Nat) : Int) = shiftN t.length (rd_T55 u (j : Int)) := by
    intro j hj
    unfold joinOf
    rw [rd_right, rd_left _ _ j (by rw [List.length_map]; exact hj), rd_map u _ j hj]
  refine ⟨fun j hj => by rw [key j hj]; rfl, fun j hj => by rw [key j hj]; rfl, fun j hj h1 h2 => ?_, fun j hj h1 => ?_⟩
  · rw [key j hj]; unfold shiftN; dsimp only; rw [if_pos ⟨h1, h2⟩]
  · rw [key j hj]; unfold shiftN; dsimp only; rw [if_pos h1]
theorem join_left (t u : List S55) (kd : Int) : EmbL t (joinOf t u kd) 0 := emb_left t _
theorem join_Rt (ht : Rt t s) (hu : Rt u s) (htl : t.length ≤ 60) (hul : u.length ≤ 60) (hs : s.size ≤ 30) (hkd : kd = 2 ∨ kd = 3) : Rt (joinOf t u kd) s := by
  have hp := ht.pos
  have hq := hu.pos
  have hlen := join_len t u kd
  have htop := join_top t u kd
  refine ⟨by omega, ?_, ?_, ?_⟩
  · rw [hlen, Nat.add_sub_cancel]
    have z1 := (join_left t u kd).sub ht.sub (by omega)
    have z2 := (join_right t u kd).sub hu.sub (by omega)
    rw [Nat.zero_add, Nat.zero_add] at z1
    rw [Nat.add_zero, show t.length + (u.length - 1) = t.length + u.length - 1 from by omega] at z2
    exact .bin (c := t.length) (by omega) (by rw [htop]; exact hkd) z2 hp (by rw [htop]) (by rw [htop]) z1
  · intro x hx
    unfold joinOf at hx
    rcases List.mem_append.1 hx with g | g
    · exact ht.ok x g
    rcases List.mem_append.1 g with g | g
    · obtain ⟨y, hy, rfl⟩ := List.mem_map.1 g
      obtain ⟨n, hn, rfl⟩ := List.mem_iff_getElem.1 hy
      obtain ⟨o1, o2, o3, o4⟩ := hu.ok _ hy
      have P := hu.sub.prop
      have hx : rd_T55 u (n : Int) = u[n] := by unfold rd_T55; rw [Int.toNat_natCast, List.getD_eq_getElem?_getD, List.getElem?_eq_getElem hn]; rfl
      have hk0 := P.k0 n (Nat.zero_le _) (by omega)
      have hk1 := P.k1 n (Nat.zero_le _) (by omega)
      rw [hx] at hk0 hk1
      refine ⟨o1, o2, ?_, ?_⟩
      · unfold shiftN
        dsimp only
        by_cases c : 2 ≤ u[n].f0 ∧ u[n].f0 ≤ 6
        · rw [if_pos c]; have := hk0 c.1 c.2; exact wf_i64 (by omega) (by omega)
        · rw [if_neg c]; exact o3
      · unfold shiftN
        dsimp only
        by_cases c : u[n].f0 = 2 ∨ u[n].f0 = 3
        · rw [if_pos c]; have := hk1 c; exact wf_i64 (by omega) (by omega)
        · rw [if_neg c]; exact o4
    · obtain rfl := List.mem_singleton.1 g
      exact ⟨by dsimp only; rcases hkd with rfl | rfl <;> decide, ⟨by dsimp only; decide, by dsimp only; decide, by dsimp only; decide, by dsimp only; decide⟩, wf_i64 (by dsimp only; omega) (by dsimp only; omega), wf_i64 (by dsimp only; omega) (by dsimp only; omega)⟩
  · rw [hlen]
    have : (t.length + u.length + 1) * (s.size + 1) ≤ 121 * 31 := Nat.mul_le_mul (by omega) (by omega)
    omega
theorem join_nd (t u : List S55) (kd : Int) (hp : 0 < t.length) (hq : 0 < u.length) : (ndOf (joinOf t u kd) (t.length + u.length)).kind = kd ∧ (ndOf (joinOf t u kd) (t.length + u.length)).k0 = 0 + (t.length - 1) ∧ (ndOf (joinOf t u kd) (t.length + u.length)).k1 = t.length + (u.length - 1) := by
  unfold ndOf
  dsimp only
  rw [join_top]
  dsimp only
  exact ⟨rfl, by omega, by omega⟩
theorem cat_stands (ht : Rt t s) (hu : Rt u s) (a b : Nat) : Stands (joinOf t u 2) s a b ↔ ∃ c, Stands t s a c ∧ Stands u s c b := by
  obtain ⟨e1, e2, e3⟩ := join_nd t u 2 ht.pos hu.pos
  have E1 := (join_left t u 2).emb ht.pos ht.sub
  have E2 := (join_right t u 2).emb hu.pos hu.sub
  have hp := ht.pos
  have hq := hu.pos
  unfold Stands
  rw [join_len, Nat.add_sub_cancel]
  constructor
  · intro h
    cases h with
    | cat hk h1 h2 =>
      rw [e2] at h1
      rw [e3] at h2
      exact ⟨_, E1.from h1 _ rfl (by omega), E2.from h2 _ rfl (by omega)⟩
    | none hk | set hk | alt0 hk | alt1 hk | star0 hk | star1 hk | plus0 hk | plus1 hk | opt0 hk | opt1 hk | bgn hk | fin hk => omega
  · rintro ⟨c, h1, h2⟩
    exact .cat e1 (by rw [e2]; exact E1.to h1 (by omega)) (by rw [e3]; exact E2.to h2 (by omega))
end
end Go.Proofs.Ythnfmpieoondaaa.P
end

/- A text's own tree, in plain words. -/
section
set_option linter.unusedVariables false
set_option linter.unusedSimpArgs false
namespace Go.Proofs.Ythnfmpieoondaaa.P
open Go.RowKit Go.Proofs.YthnfmpieoondaaaW.PrintWords Go.Proofs.Ythnfmpieoondaaa.QA Go.Proofs.Ythnfmpieoondaaa.QB Go.Proofs.Ythnfmpieoondaaa.QC Go.Proofs.Ythnfmpieoondaaa.G Go.Proofs.Ythnfmpieoondaaa.Mt
theorem sb_lt (s : ByteArray) (i : Nat) : sb s i < 256 := by
  have := sb_le s i; omega
theorem sb_get (s : ByteArray) (i : Nat) (h : i < s.data.toList.length) : sb s i = (s.data.toList[i]).toNat := by
  have h' : ((i : Int)).toNat < s.size := by rw [data_length] at h; rw [Int.toNat_natCast]; exact h
  unfold sb
  rw [← bt_at s (i : Int) h']
  rfl
/-- The same bytes at a place. -/
theorem occ_iff (x s : ByteArray) (a n : Nat) (hx : a + n ≤ x.size) (hs : n ≤ s.size) : (∀ i, i < n → sb x (a + i) = sb s i) ↔ (x.data.toList.drop a).take n = s.data.toList.take n := by
  have lx := data_length x
  have ls := data_length s
  constructor
  · intro h
    refine List.ext_getElem (by simp only [List.length_take, List.length_drop]; omega) fun i h1 h2 => ?_
    have hi : i < n := by simp only [List.length_take] at h2; omega
    simp only [List.getElem_take, List.getElem_drop]
    have := h i hi
    rw [sb_get x (a + i) (by omega), sb_get s i (by omega)] at this
    exact UInt8.toNat_inj.1 this
  · intro h i hi
    rw [sb_get x (a + i) (by omega), sb_get s i (by omega)]
    have e : ((x.data.toList.drop a).take n)[i]? = (s.data.toList.take n)[i]? := by rw [h]
    rw [List.getElem?_take_of_lt hi, List.getElem?_take_of_lt hi, List.getElem?_drop, List.getElem?_eq_getElem (by omega), List.getElem?_eq_getElem (by omega)] at e
    rw [Option.some.inj e]
/-- A class of one byte. -/
def oneC (c : Nat) : S53 := match dragomanref04_One.f (c : Int) with
  | some (a, b, d, e) => ⟨a, b, d, e⟩
  | none => ⟨0, 0, 0, 0⟩
def okOne (c : Nat) : Bool := match dragomanref04_One.f (c : Int) with
  | some (a, b, d, e) => (Lit.int .u64 a).wf && (Lit.int .u64 b).wf && (Lit.int .u64 d).wf && (Lit.int .u64 e).wf && (List.range 256).all fun z => hasB ⟨a, b, d, e⟩ z == (z == c)
  | none => false
set_option maxRecDepth 100000 in
theorem all_ones : (List.range 256).all okOne = true := by decide +kernel
theorem one_spec (c : Nat) (hc : c < 256) : dragomanref04_One.f (c : Int) = some ((oneC c).f0, (oneC c).f1, (oneC c).f2, (oneC c).f3) ∧ Ok53 (oneC c) ∧ ∀ z, z < 256 → hasB (oneC c) z = (z == c) := by
  have h := List.all_eq_true.1 all_ones c (List.mem_range.2 hc)
  unfold okOne at h
  unfold oneC
  cases ho : dragomanref04_One.f (c : Int) with
  | none => rw [ho] at h; cases h
  | some r =>
    obtain ⟨a, b, d, e⟩ := r
    rw [ho] at h
    simp only [Bool.and_eq_true] at h
    obtain ⟨⟨⟨⟨h1, h2⟩, h3⟩, h4⟩, h5⟩ := h
    refine ⟨rfl, ⟨h1, h2, h3, h4⟩, fun z hz => ?_⟩
    have := List.all_eq_true.1 h5 z (List.mem_range.2 hz)
    exact beq_iff_eq.1 this
def oneL (c : Nat) : List S55 := [⟨1, oneC c, ⟨0, 0⟩⟩]
theorem one_Rt (c : Nat) (hc : c < 256) (x : ByteArray) (hx : x.size ≤ 9000) : Rt (oneL c) x :=
  ⟨by unfold oneL; simp, .leaf (.inr (.inl rfl)), by
    intro y hy
    obtain rfl := List.mem_singleton.1 hy
    exact ⟨by dsimp only; decide, (one_spec c hc).2.1, by dsimp only; decide, by dsimp only; decide⟩, by
    show 1 * (x.size + 1) ≤ 10000
    omega⟩
theorem one_stands (c : Nat) (hc : c < 256) (x : ByteArray) (a b : Nat) : Stands (oneL c) x a b ↔ b = a + 1 ∧ b ≤ x.size ∧ sb x a = c := by
  have hs := (one_spec c hc).2.2 (sb x a) (sb_lt x a)
  have hk : (ndOf (oneL c) 0).kind = 1 := rfl
  have hm : (ndOf (oneL c) 0).mem = hasB (oneC c) := rfl
  unfold Stands
  show M (ndOf (oneL c)) x.size (sb x) 0 a b ↔ _
  constructor
  · intro h
    cases h with
    | set _ h1 h2 =>
      rw [hm, hs] at h2
      exact ⟨rfl, h1, beq_iff_eq.1 h2⟩
    | none k | cat k | alt0 k | alt1 k | star0 k | star1 k | plus0 k | plus1 k | opt0 k | opt1 k | bgn k | fin k => omega
  · rintro ⟨rfl, h1, h2⟩
    exact .set hk (by omega) (by rw [hm, hs]; exact beq_iff_eq.2 h2)
/-- The tree of a text's first n bytes. -/
def litT (s : ByteArray) : Nat → List S55
  | 0 => [⟨0, ⟨0, 0, 0, 0⟩, ⟨0, 0⟩⟩]
  | n + 1 => if n = 0 then oneL (sb s 0) else joinOf (litT s n) (oneL (sb s n)) 2
theorem lit_len (s : ByteArray) : ∀ n, (litT s n).length ≤ 2 * n + 1
  | 0 => by simp [litT]
  | n + 1 => by
    have ih := lit_len s n
    unfold litT
    by_cases h : n = 0
    · rw [if_pos h]; simp [oneL]
    · rw [if_neg h, join_len]
      have : (oneL (sb s n)).length = 1 := rfl
      omega
theorem lit_Rt0 (s : ByteArray) : ∀ n, n ≤ 25 → Rt (litT s n) ByteArray.empty
  | 0, _ => ⟨by simp [litT], .leaf (.inl rfl), by
      intro y hy
      obtain rfl := List.mem_singleton.1 hy
      exact ⟨by decide, ⟨by decide, by decide, by decide, by decide⟩, by decide, by decide⟩, by show 1 * (ByteArray.empty.size + 1) ≤ 10000; decide⟩
  | n + 1, hn => by
    have ih := lit_Rt0 s n (by omega)
    have hl := lit_len s n
    unfold litT
    by_cases h : n = 0
    · rw [if_pos h]; exact one_Rt _ (sb_lt s 0) _ (by decide)
    · rw [if_neg h]
      exact join_Rt ih (one_Rt _ (sb_lt s n) _ (by decide)) (by omega) (by show 1 ≤ 60; omega) (by decide) (.inl rfl)
theorem lit_Rt (s x : ByteArray) (n : Nat) (hn : n ≤ 25) {m : Nat} (hm : n ≤ m) (hx : (2 * m + 1) * (x.size + 1) ≤ 10000) : Rt (litT s n) x := by
  have h := lit_Rt0 s n hn
  have hl := lit_len s n
  exact ⟨h.pos, h.sub, h.ok, by
    have : (litT s n).length * (x.size + 1) ≤ (2 * m + 1) * (x.size + 1) := Nat.mul_le_mul (by omega) (Nat.le_refl _)
    omega⟩
theorem lit_stands (s x : ByteArray) {m : Nat} (hm : m ≤ 25) (hx : (2 * m + 1) * (x.size + 1) ≤ 10000) : ∀ (n : Nat), n ≤ m → ∀ a b, a ≤ x.size → (Stands (litT s n) x a b ↔ b = a + n ∧ b ≤ x.size ∧ ∀ i, i < n → sb x (a + i) = sb s i)
  | 0, _ => fun a b ha => by
    have hk : (ndOf (litT s 0) 0).kind = 0 := rfl
    unfold Stands
    show M (ndOf (litT s 0)) x.size (sb x) 0 a b ↔ _
    constructor
    · intro h
      cases h with
      | none _ => exact ⟨rfl, ha, fun i hi => by omega⟩
      | set k | cat k | alt0 k | alt1 k | star0 k | star1 k | plus0 k | plus1 k | opt0 k | opt1 k | bgn k | fin k => omega
    · rintro ⟨rfl, -⟩
      exact .none hk
  | n + 1, hn => fun a b ha => by
    have ih := lit_stands s x hm hx n (by omega)
    have h3 : 3 * (x.size + 1) ≤ (2 * m + 1) * (x.size + 1) := Nat.mul_le_mul (by omega) (Nat.le_refl _)
    by_cases h : n = 0
    · subst h
      have e : litT s (0 + 1) = oneL (sb s 0) := rfl
      rw [e, one_stands _ (sb_lt s 0)]
      constructor
      · rintro ⟨h1, h2, h3⟩
        refine ⟨h1, h2, fun i hi => ?_⟩
        obtain rfl : i = 0 := by omega
        exact h3
      · rintro ⟨h1, h2, h3⟩
        exact ⟨h1, h2, h3 0 (by omega)⟩
    · have e : litT s (n + 1) = joinOf (litT s n) (oneL (sb s n)) 2 := by
        show (if n = 0 then _ else _) = _
        rw [if_neg h]
      rw [e, cat_stands (lit_Rt s x n (by omega) (m := m) (by omega) hx) (one_Rt _ (sb_lt s n) x (by omega))]
      constructor
      · rintro ⟨c, h1, h2⟩
        obtain ⟨rfl, g2, g3⟩ := (ih a c ha).1 h1
        obtain ⟨q1, q2, q3⟩ := (one_stands _ (sb_lt s n) x (a + n) b).1 h2
        refine ⟨by omega, q2, fun i hi => ?_⟩
        by_cases e : i = n
        · subst e; exact q3
        · exact g3 i (by omega)
      · rintro ⟨rfl, h2, h3⟩
        exact ⟨a + n, (ih a (a + n) ha).2 ⟨rfl, by omega, fun i hi => h3 i (by omega)⟩, (one_stands _ (sb_lt s n) x (a + n) (a + (n + 1))).2 ⟨by omega, h2, h3 n (by omega)⟩⟩
theorem lit_loop (s : ByteArray) (hs : s.size ≤ 25) : ∀ (d i k : Nat), i + d = s.size → 500 + d < k → dragomanref05_Lit.l0 k s (litT s i) (i : Int) = some (litT s s.size, 0) := by
  intro d
  induction d with
  | zero =>
    intro i k hi hk
    obtain ⟨k, rfl⟩ : ∃ m, k = m + 1 := ⟨k - 1, by omega⟩
    obtain rfl : i = s.size := by omega
    simp only [dragomanref05_Lit.l0]
    rw [if_neg (by omega)]
  | succ d ih =>
    intro i k hi hk
    obtain ⟨k, rfl⟩ : ∃ m, k = m + 1 := ⟨k - 1, by omega⟩
    have hb : bt s (i : Int) = ((sb s i : Nat) : Int) := by
      have := bt_range s (i : Int)
      unfold sb
      omega
    have hih := ih (i + 1) k (by omega) (by omega)
    have ho := (one_spec (sb s i) (sb_lt s i)).1
    simp only [dragomanref05_Lit.l0]
    rw [if_pos (by omega), if_pos (by omega), hb, ho, Option.bind_some, Option.bind_some, wrap_succ i (by omega)]
    by_cases h : i = 0
    · subst h
      rw [if_pos (by omega)]
      exact hih
    · rw [if_neg (by omega)]
      have hR := lit_Rt0 s i (by omega)
      have hl := lit_len s i
      have hO := one_Rt _ (sb_lt s i) ByteArray.empty (by decide)
      have e : litT s (i + 1) = joinOf (litT s i) (oneL (sb s i)) 2 := by
        show (if i = 0 then _ else _) = _
        rw [if_neg h]
      have hj := Join_is (t := litT s i) (u := oneL (sb s i)) hO.sub hO.pos (by show 1 ≤ 60; omega) hR.pos (by omega) 2 (.inl rfl) k (by omega)
      have hj' : dragomanref05_Join.f k (litT s i) ([(⟨1, (⟨(oneC (sb s i)).f0, (oneC (sb s i)).f1, (oneC (sb s i)).f2, (oneC (sb s i)).f3⟩ : S53), (⟨0, 0⟩ : S28)⟩ : S55)] : List (S55)) 2 = _ := hj
      rw [hj', Option.bind_some]
      rw [e] at hih
      exact hih
theorem Lit_is (s : ByteArray) (hs : s.size ≤ 25) (k : Nat) (hk : 600 ≤ k) : dragomanref05_Lit.f k s = some (litT s s.size, 0) := by
  unfold dragomanref05_Lit.f
  rw [if_neg (by omega)]
  exact lit_loop s hs s.size 0 k (by omega) (by omega)
end Go.Proofs.Ythnfmpieoondaaa.P
end
