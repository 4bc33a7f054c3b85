import Derived.Test.YtambnodgfhlpfaaDoorJAV
import Derived.Test.YtambnodgfhlpfaaDoorJQAx6
import Derived.Test.YtambnodgfhlpfaaDoorJQAx5
import Derived.Test.YtambnodgfhlpfaaDoorJRM
import Derived.Test.YtambnodgfhlpfaaDoorJQBx1
import Derived.Test.YtambnodgfhlpfaaDoorJQAx0
import Derived.OpenShut
import Derived.Deep.Slices
import Derived.Deep.SlicePairs
import Derived.ChangeOld
import Derived.Carry
import Derived.SizedLaws
import Derived.Test.YtambnodgfhlpfaaDoorJQAx2
import Derived.Test.YtambnodgfhlpfaaDoorJQAx3
import Derived.Test.YtambnodgfhlpfaaDoorJSF
import Derived.Test.YtambnodgfhlpfaaDoorJQAx4
import Derived.Test.YtambnodgfhlpfaaDoorJGHex
import Derived.Test.YtambnodgfhlpfaaDoorJQGx3
import Derived.Test.YtambnodgfhlpfaaDoorJQGx2
import Derived.Test.YtambnodgfhlpfaaDoorJQIb
import Derived.Test.YtambnodgfhlpfaaDoorJQKb
/- The plain law of a number's figures: what is read of a text, here and by the document. No Go and no memory stands here. -/
set_option linter.unusedVariables false
set_option linter.unusedSimpArgs false
namespace Go.Proofs.YtambnodgfhlpfaaDoor.P
open Go.RowKit Go.Proofs.YtambnodgfhlpfaaDoorW.PrintWords Go.Proofs.YtambnodgfhlpfaaDoorW.PrintLast Go.Proofs.YtambnodgfhlpfaaDoor.G Go.Proofs.YtambnodgfhlpfaaDoor.QA Go.Proofs.YtambnodgfhlpfaaDoor.A

/-! ### bytes -/
theorem bt_get (s : ByteArray) (i : Nat) (h : i < s.size) : bt s i = (bytesOf s)[i]'(by rw [bytesOf_length]; exact h) := by
  unfold bt bytesOf
  simp [h]
  rfl
theorem toList_inj {a b : ByteArray} : a.toList = b.toList ↔ a = b := by
  constructor
  · intro h
    rw [ByteArray.toList_eq, ByteArray.toList_eq] at h
    exact ByteArray.ext (Array.ext' h)
  · rintro rfl; rfl

theorem wrap_id {x : Int} (h0 : -9223372036854775808 ≤ x) (h1 : x ≤ 9223372036854775807) : wrap64 x = x := by unfold wrap64; omega
/-! ### figures in a row -/
def isD (c : Int) : Bool := decide (48 ≤ c) && decide (c ≤ 57)
theorem isD_iff (c : Int) : isD c = true ↔ 48 ≤ c ∧ c ≤ 57 := by simp [isD]
def val (acc : Nat) : List Int → Nat
  | [] => acc
  | c :: r => val (10 * acc + (c - 48).toNat) r
theorem val_ge : ∀ l acc, acc ≤ val acc l
  | [], acc => Nat.le_refl _
  | c :: r, acc => Nat.le_trans (by omega) (val_ge r _)
/-- A number at the beginning of a row of bytes. -/
def sgn (l : List Int) : Nat := if l.head? = some 45 then 1 else 0
def figs (l : List Int) : List Int := (l.drop (sgn l)).takeWhile isD
def outc (s e v : Nat) : Int × Int × Int :=
  if e = s then (0, 0, 2) else
  if s = 0 then (if v < 9223372036854775808 then ((v : Int), (e : Int), 0) else (0, 0, 3))
  else if v ≤ 9223372036854775808 then (-(v : Int), (e : Int), 0) else (0, 0, 3)
def wholeL (l : List Int) : Int × Int × Int := outc (sgn l) (sgn l + (figs l).length) (val 0 (figs l))

/-! ### the walked function -/
theorem drop_cons (s : ByteArray) (i : Nat) (h : i < s.size) : (bytesOf s).drop i = bt s i :: (bytesOf s).drop (i + 1) := by
  have hl : i < (bytesOf s).length := by rw [bytesOf_length]; exact h
  rw [List.drop_eq_getElem_cons hl, ← bt_get s i h]
theorem scan_eq (s : ByteArray) : ∀ d i, i + d = s.size → scan s i d = i + (((bytesOf s).drop i).takeWhile isD).length
  | 0, i, h => by rw [List.drop_eq_nil_of_le (by rw [bytesOf_length]; omega)]; rfl
  | d + 1, i, h => by
    rw [drop_cons s i (by omega), scan, List.takeWhile_cons]
    by_cases hd : 48 ≤ bt s i ∧ bt s i ≤ 57
    · rw [if_pos hd, (isD_iff _).2 hd, scan_eq s d (i + 1) (by omega)]
      simp; omega
    · have : isD (bt s i) = false := by rw [Bool.eq_false_iff, ne_eq, isD_iff]; exact hd
      rw [if_neg hd, this]; rfl
theorem sgn_eq (s : ByteArray) : signAt s = sgn (bytesOf s) := by
  unfold signAt sgn
  by_cases h : 0 < s.size
  · have := drop_cons s 0 h
    rw [List.drop_zero] at this
    rw [this]
    simp only [List.head?_cons, Option.some.injEq]
    by_cases q : bt s 0 = 45
    · rw [if_pos ⟨h, q⟩]; exact (if_pos q).symm
    · rw [if_neg (fun z => q z.2)]; exact (if_neg q).symm
  · have : bytesOf s = [] := List.eq_nil_of_length_eq_zero (by rw [bytesOf_length]; omega)
    rw [this, if_neg (fun z => h z.1)]; rfl
theorem end_eq (s : ByteArray) : endAt s = sgn (bytesOf s) + (figs (bytesOf s)).length := by
  unfold endAt figs
  have h := signAt_le s
  rw [scan_eq s _ _ (by omega), sgn_eq]
theorem parseM (M : Nat) (hM : M = 18446744073709551615) : ∀ (l : List UInt8) (acc : Nat), (∀ c ∈ l, isD (c.toNat : Int) = true) → acc ≤ M →
    Lib.parseUintM M acc l = if val acc (l.map fun c => (c.toNat : Int)) ≤ M then .ok (val acc (l.map fun c => (c.toNat : Int))) else .range
  | [], acc, _, h => by simp only [Lib.parseUintM, List.map_nil, val]; rw [if_pos h]
  | c :: r, acc, hd, h => by
    have hc := (isD_iff _).1 (hd c (by simp))
    have e1 : 10 * acc + ((c.toNat : Int) - 48).toNat = acc * 10 + (c.toNat - 48) := by omega
    have hg := val_ge (r.map fun c => (c.toNat : Int)) (acc * 10 + (c.toNat - 48))
    simp only [Lib.parseUintM, List.map_cons, val, e1]
    rw [if_pos (by omega : 48 ≤ c.toNat ∧ c.toNat ≤ 57)]
    by_cases h1 : 1844674407370955162 ≤ acc
    · rw [if_pos h1, if_neg (by omega)]
    · rw [if_neg h1]
      by_cases h2 : M < acc * 10 + (c.toNat - 48)
      · rw [if_pos h2, if_neg (by omega)]
      · rw [if_neg h2]
        exact parseM M hM r _ (fun x hx => hd x (by simp [hx])) (by omega)
theorem takeWhile_all {p : Int → Bool} : ∀ l : List Int, ∀ x ∈ l.takeWhile p, p x = true
  | [], x, h => by simp at h
  | c :: r, x, h => by
    rw [List.takeWhile_cons] at h
    cases hp : p c with
    | true =>
      rw [hp] at h
      rcases List.mem_cons.1 h with rfl | h
      · exact hp
      · exact takeWhile_all r x h
    | false => rw [hp] at h; simp at h
theorem take_takeWhile {p : Int → Bool} : ∀ l : List Int, l.take (l.takeWhile p).length = l.takeWhile p
  | [] => rfl
  | c :: r => by
    rw [List.takeWhile_cons]
    cases p c with
    | true => simp [take_takeWhile r]
    | false => rfl
theorem pow64 : (2 : Nat) ^ 64 - 1 = 18446744073709551615 := by decide
theorem pow63 : (2 : Nat) ^ (64 - 1) = 9223372036854775808 := by decide
theorem parse_eq (s : ByteArray) (hne : (figs (bytesOf s)).length ≠ 0) :
    parseV (s.extract 0 (endAt s)) = (let v := val 0 (figs (bytesOf s)); if sgn (bytesOf s) = 0 then (if v < 9223372036854775808 then some (v : Int) else none) else if v ≤ 9223372036854775808 then some (-(v : Int)) else none) := by
  have hb : (s.extract 0 (endAt s)).data.toList.map (fun c => (c.toNat : Int)) = (bytesOf s).take (endAt s) := by
    show bytesOf (s.extract 0 (endAt s)) = _
    unfold bytesOf
    rw [ByteArray.data_extract, Array.toList_extract, List.extract_eq_take_drop, List.drop_zero, Nat.sub_zero, List.map_take]
  have he := end_eq s
  have hfl : ∀ x ∈ figs (bytesOf s), isD x = true := takeWhile_all _
  unfold parseV
  generalize (s.extract 0 (endAt s)).data.toList = l at *
  -- the row of figures
  have hsplit : (bytesOf s).take (endAt s) = (bytesOf s).take (sgn (bytesOf s)) ++ figs (bytesOf s) := by
    rw [he, List.take_add]
    congr 1
    exact take_takeWhile _
  rw [hsplit] at hb
  clear hsplit he
  generalize hF : figs (bytesOf s) = F at *
  have key : ∀ m : List UInt8, m.map (fun c => (c.toNat : Int)) = F → Lib.parseUintB 64 m = if val 0 F ≤ 18446744073709551615 then .ok (val 0 F) else .range := by
    intro m hm
    have hme : m ≠ [] := by rintro rfl; rw [← hm] at hne; exact hne rfl
    unfold Lib.parseUintB
    rw [if_neg hme, parseM _ pow64 m 0 (fun c hc => hfl _ (by rw [← hm]; exact List.mem_map_of_mem hc)) (Nat.zero_le _), hm, pow64]
  have hcase : sgn (bytesOf s) = 0 ∨ (sgn (bytesOf s) = 1 ∧ (bytesOf s).head? = some 45) := by
    unfold sgn; split
    · exact .inr ⟨rfl, by assumption⟩
    · exact .inl rfl
  rcases hcase with h0 | ⟨h1, hh⟩
  · rw [h0, List.take_zero, List.nil_append] at hb
    have hk := key l hb
    cases l with
    | nil => rw [List.map_nil] at hb; rw [← hb] at hne; exact absurd rfl hne
    | cons c r =>
      have hc : isD (c.toNat : Int) = true := hfl _ (by rw [← hb]; simp)
      rw [isD_iff] at hc
      simp only [Lib.parseIntB]
      rw [if_neg (by omega : ¬ (c.toNat = 43 ∨ c.toNat = 45)), hk, h0, if_pos rfl, pow63]
      by_cases hv : val 0 F ≤ 18446744073709551615
      · rw [if_pos hv]
        simp only
        by_cases hw : val 0 F < 9223372036854775808
        · rw [if_neg (fun z => absurd z.2 (by omega)), if_neg (fun z => absurd z.1 (by omega)), if_neg (by omega), if_pos hw]
        · rw [if_pos ⟨by omega, by omega⟩, if_neg hw]
      · rw [if_neg hv, if_neg (by omega)]
  · rw [h1] at hb
    cases hbs : bytesOf s with
    | nil => rw [hbs] at hh; cases hh
    | cons d q =>
      rw [hbs] at hh hb
      obtain rfl : d = 45 := by simpa using hh
      simp only [List.take_succ_cons, List.take_zero, List.cons_append, List.nil_append] at hb
      cases l with
      | nil => cases hb
      | cons c r =>
        simp only [List.map_cons, List.cons.injEq] at hb
        have hk := key r hb.2
        have hc : c.toNat = 45 := by omega
        rw [← hbs, h1]
        simp only [Lib.parseIntB]
        rw [if_pos (Or.inr hc), hk, if_neg (by decide : ¬ (1 : Nat) = 0), pow63]
        by_cases hv : val 0 F ≤ 18446744073709551615
        · rw [if_pos hv]
          simp only
          rw [if_neg (fun z => z.1 hc)]
          by_cases hw : val 0 F ≤ 9223372036854775808
          · rw [if_neg (fun z => absurd z.2 (by omega)), if_pos hc, if_pos hw]
          · rw [if_pos ⟨hc, by omega⟩, if_neg hw]
        · rw [if_neg hv, if_neg (by omega)]
theorem wholeV_eq (s : ByteArray) : wholeV s = wholeL (bytesOf s) := by
  unfold wholeV wholeL outc
  by_cases hne : (figs (bytesOf s)).length = 0
  · rw [if_pos (by rw [end_eq, sgn_eq, hne]; rfl), if_pos (by omega)]
  · have hp := parse_eq s hne
    rw [if_neg (by rw [end_eq, sgn_eq]; omega), if_neg (by omega), hp, end_eq]
    simp only
    generalize val 0 (figs (bytesOf s)) = v
    by_cases h0 : sgn (bytesOf s) = 0
    · rw [if_pos h0, if_pos h0]
      by_cases hv : v < 9223372036854775808
      · rw [if_pos hv, if_pos hv]
      · rw [if_neg hv, if_neg hv]
    · rw [if_neg h0, if_neg h0]
      by_cases hv : v ≤ 9223372036854775808
      · rw [if_pos hv, if_pos hv]
      · rw [if_neg hv, if_neg hv]

/-! ### the reference reads -/
theorem r_j3 (k : Nat) (s e v : Nat) (n : Int) (over : Bool) (hs : s = 0 ∨ s = 1) (h0 : over = false → n = -(v : Int) ∧ v ≤ 9223372036854775808) (h1 : over = true → 9223372036854775808 < v) :
    dragomanref01_Whole.j3 (k + 3) e s n over = some (outc s e v) := by
  unfold outc
  simp only [dragomanref01_Whole.j3]
  by_cases he : e = s
  · subst he; rw [if_pos rfl, if_pos rfl]
  · rw [if_neg (by omega : ¬ (e : Int) = (s : Int)), if_neg he]
    cases over with
    | true =>
      have hv := h1 rfl
      have J : ∀ q, dragomanref01_Whole.j4 (k + 2) e s n true q = some (0, 0, 3) := by
        intro q; simp only [dragomanref01_Whole.j4, dragomanref01_Whole.j5]
        cases q <;> rfl
      simp only [J, ite_self]
      rcases hs with rfl | rfl
      · rw [if_pos rfl, if_neg (by omega)]
      · rw [if_neg (show ¬ (1 : Nat) = 0 by decide), if_neg (by omega)]
    | false =>
      obtain ⟨hn, hv⟩ := h0 rfl
      rcases hs with rfl | rfl
      · rw [if_pos rfl]
        by_cases hm : v < 9223372036854775808
        · have hq : (n == -9223372036854775808) = false := by rw [beq_eq_false_iff_ne]; omega
          have hw : wrap64 (-n) = v := by rw [hn, Int.neg_neg]; exact wrap_id (by omega) (by omega)
          rw [if_pos hm, if_pos (show ((0 : Nat) : Int) = 0 from rfl), hq]
          simp only [dragomanref01_Whole.j4, dragomanref01_Whole.j5, hw]
          rfl
        · have hq : (n == -9223372036854775808) = true := by rw [beq_iff_eq]; omega
          rw [if_neg hm, if_pos (show ((0 : Nat) : Int) = 0 from rfl), hq]
          simp only [dragomanref01_Whole.j4, dragomanref01_Whole.j5]
          rfl
      · rw [if_neg (show ¬ ((1 : Nat) : Int) = 0 by decide), if_neg (show ¬ (1 : Nat) = 0 by decide), if_pos hv]
        simp only [dragomanref01_Whole.j4, dragomanref01_Whole.j5, Bool.false_eq_true, if_false]
        rw [if_neg (show ¬ ((1 : Nat) : Int) = 0 by decide), hn]
theorem r_step (d v : Nat) (hd : d ≤ 9) (hv : v ≤ 9223372036854775808) :
    (-(v : Int) < wrap64 (Int.tdiv (wrap64 (-9223372036854775808 + (d : Int))) 10)) ↔ 9223372036854775808 < 10 * v + d := by
  have e1 : wrap64 (-9223372036854775808 + (d : Int)) = -((9223372036854775808 - d : Nat) : Int) := by rw [wrap_id (by omega) (by omega)]; omega
  rw [e1, Int.neg_tdiv, Int.tdiv_eq_ediv_of_nonneg (by omega), wrap_id (by omega) (by omega)]
  omega
theorem r_loop (s : ByteArray) (hs : s.size ≤ 70368744177000) (g : Nat) (hg : g = 0 ∨ g = 1) : ∀ (d i k : Nat) (n : Int) (over : Bool) (v : Nat), i + d = s.size → d + 10 < k →
    (over = false → n = -(v : Int) ∧ v ≤ 9223372036854775808) → (over = true → 9223372036854775808 < v) →
    dragomanref01_Whole.l0 k s i g n over = some (outc g (i + (((bytesOf s).drop i).takeWhile isD).length) (val v (((bytesOf s).drop i).takeWhile isD))) := by
  intro d
  induction d with
  | zero =>
    intro i k n over v hi hk h0 h1
    obtain ⟨k, rfl⟩ : ∃ m, k = m + 1 := ⟨k - 1, by omega⟩
    obtain ⟨m, hm⟩ : ∃ m, k = m + 3 := ⟨k - 3, by omega⟩
    have hfin : dragomanref01_Whole.j3 k i g n over = some (outc g i v) := by rw [hm]; exact r_j3 m g i v n over hg h0 h1
    rw [List.drop_eq_nil_of_le (by rw [bytesOf_length]; omega)]
    simp only [dragomanref01_Whole.l0]
    rw [if_neg (by omega)]
    exact hfin
  | succ d ih =>
    intro i k n over v hi hk h0 h1
    obtain ⟨k, rfl⟩ : ∃ m, k = m + 1 := ⟨k - 1, by omega⟩
    obtain ⟨m, hm⟩ : ∃ m, k = m + 3 := ⟨k - 3, by omega⟩
    have hfin : dragomanref01_Whole.j3 k i g n over = some (outc g i v) := by rw [hm]; exact r_j3 m g i v n over hg h0 h1
    have p1 : (i : Int) < (s.size : Int) := by omega
    have p2 : (0 : Int) ≤ i := Int.natCast_nonneg i
    have w3 : wrap64 ((i : Int) + 1) = ((i + 1 : Nat) : Int) := by rw [wrap_id (by omega) (by omega)]; rfl
    obtain ⟨b0, b1⟩ := bt_range s i
    rw [drop_cons s i (by omega), List.takeWhile_cons]
    by_cases hd : 48 ≤ bt s i ∧ bt s i ≤ 57
    · rw [(isD_iff _).2 hd]
      obtain ⟨x, hx⟩ : ∃ x : Nat, bt s i = 48 + x := ⟨(bt s i - 48).toNat, by omega⟩
      have hx9 : x ≤ 9 := by omega
      have w1 : wrap64 (wrap64 (bt s i) - 48) = (x : Int) := by rw [wrap_id (x := bt s i) (by omega) (by omega), wrap_id (by omega) (by omega)]; omega
      have hval : val v (bt s i :: ((bytesOf s).drop (i + 1)).takeWhile isD) = val (10 * v + x) (((bytesOf s).drop (i + 1)).takeWhile isD) := by
        rw [val]; congr 1; omega
      simp only [dragomanref01_Whole.l0, w1, w3, if_true]
      rw [if_pos p1, if_pos p2, if_pos hd.1, if_pos hd.2, hval]
      have hlen : i + (bt s i :: ((bytesOf s).drop (i + 1)).takeWhile isD).length = (i + 1) + (((bytesOf s).drop (i + 1)).takeWhile isD).length := by simp; omega
      rw [hlen]
      cases over with
      | true =>
        have hv := h1 rfl
        rw [if_pos rfl]
        exact ih (i + 1) k _ true (10 * v + x) (by omega) (by omega) (fun h => by cases h) (fun _ => by omega)
      | false =>
        obtain ⟨hn, hv⟩ := h0 rfl
        rw [if_neg (by decide), hn]
        by_cases ho : 9223372036854775808 < 10 * v + x
        · rw [if_pos ((r_step x v hx9 hv).2 ho)]
          exact ih (i + 1) k _ true (10 * v + x) (by omega) (by omega) (fun h => by cases h) (fun _ => ho)
        · have hnext : wrap64 (wrap64 (10 * -(v : Int)) - (x : Int)) = -((10 * v + x : Nat) : Int) := by
            rw [wrap_id (x := 10 * -(v : Int)) (by omega) (by omega), wrap_id (by omega) (by omega)]; omega
          rw [if_neg (fun z => ho ((r_step x v hx9 hv).1 z)), hnext]
          have hq : -(v : Int) = -922337203685477580 → ((x : Int) == 9) = false := by
            intro hz; rw [beq_eq_false_iff_ne]; omega
          by_cases hz : -(v : Int) = -922337203685477580
          · rw [if_pos hz, hq hz]
            exact ih (i + 1) k _ false (10 * v + x) (by omega) (by omega) (fun _ => ⟨rfl, by omega⟩) (fun h => by cases h)
          · rw [if_neg hz]
            exact ih (i + 1) k _ false (10 * v + x) (by omega) (by omega) (fun _ => ⟨rfl, by omega⟩) (fun h => by cases h)
    · have hD : isD (bt s i) = false := by rw [Bool.eq_false_iff, ne_eq, isD_iff]; exact hd
      rw [hD]
      simp only [dragomanref01_Whole.l0, Bool.false_eq_true, if_false, val, List.length_nil, Nat.add_zero]
      rw [if_pos p1, if_pos p2]
      by_cases q : bt s i ≥ 48
      · rw [if_pos q, if_neg (by omega)]; exact hfin
      · rw [if_neg q]; exact hfin
theorem rwhole_f (s : ByteArray) (k : Nat) (hs : s.size ≤ 70368744177000) (hk : s.size + 20 < k) : dragomanref01_Whole.f k s = some (wholeL (bytesOf s)) := by
  obtain ⟨k, rfl⟩ : ∃ m, k = m + 2 := ⟨k - 2, by omega⟩
  have J : ∀ q g : Nat, (q = 0 ∨ q = 1) → q ≤ s.size → dragomanref01_Whole.j1 (k + 1) s q = some (outc q (q + (((bytesOf s).drop q).takeWhile isD).length) (val 0 (((bytesOf s).drop q).takeWhile isD))) := by
    intro q _ hq hle
    simp only [dragomanref01_Whole.j1]
    exact r_loop s hs q hq (s.size - q) q k 0 false 0 (by omega) (by omega) (fun _ => ⟨rfl, by omega⟩) (fun h => by cases h)
  have hsg := sgn_eq s
  have hsl := signAt_le s
  unfold dragomanref01_Whole.f wholeL figs
  unfold signAt at hsg hsl
  by_cases h : 0 < s.size
  · rw [if_pos (by omega), if_pos (by omega)]
    simp only [dragomanref01_Whole.j0]
    by_cases q : bt s 0 = 45
    · rw [if_pos ⟨h, q⟩] at hsg
      have : (bt s 0 == 45) = true := by rw [beq_iff_eq]; exact q
      rw [this, if_pos rfl, ← hsg]
      exact J 1 0 (.inr rfl) (by omega)
    · rw [if_neg (fun z => q z.2)] at hsg
      have : (bt s 0 == 45) = false := by rw [beq_eq_false_iff_ne]; exact q
      rw [this, if_neg (by decide), ← hsg]
      exact J 0 0 (.inl rfl) (by omega)
  · rw [if_neg (fun z => h z.1)] at hsg
    rw [if_neg (by omega)]
    simp only [dragomanref01_Whole.j0]
    rw [if_neg (by decide), ← hsg]
    exact J 0 0 (.inl rfl) (by omega)
end Go.Proofs.YtambnodgfhlpfaaDoor.P

/- The plain law of the statements' own figures, and of what a text that is written out comes to. No Go and no memory stands here. -/
set_option linter.unusedVariables false
set_option linter.unusedSimpArgs false
namespace Go.Proofs.YtambnodgfhlpfaaDoor.P
open Go.RowKit Go.Proofs.YtambnodgfhlpfaaDoorW.PrintWords Go.Proofs.YtambnodgfhlpfaaDoorW.PrintLast Go.Proofs.YtambnodgfhlpfaaDoor.G Go.Proofs.YtambnodgfhlpfaaDoor.QA Go.Proofs.YtambnodgfhlpfaaDoor.A

end Go.Proofs.YtambnodgfhlpfaaDoor.P

/- What texts that are written out come to; the statements on two numbers' figures in plain words. -/
set_option linter.unusedVariables false
set_option linter.unusedSimpArgs false
namespace Go.Proofs.YtambnodgfhlpfaaDoor.P
open Go.RowKit Go.Proofs.YtambnodgfhlpfaaDoorW.PrintWords Go.Proofs.YtambnodgfhlpfaaDoorW.PrintLast Go.Proofs.YtambnodgfhlpfaaDoor.G Go.Proofs.YtambnodgfhlpfaaDoor.QA Go.Proofs.YtambnodgfhlpfaaDoor.A Go.Proofs.YtambnodgfhlpfaaDoor.QB

def cc : ByteArray := ⟨#[99]⟩
theorem shown_f : dragomanlaw10_shown.f 60 = some true := by
  have h1 : arith_Eval.f 60 (⟨#[50, 32, 43, 32, 51, 32, 42, 32, 120]⟩ : ByteArray) [(⟨(⟨#[120]⟩ : ByteArray), (⟨#[52]⟩ : ByteArray)⟩ : S39)] = some (14, 0) := by decide +kernel
  have h2 : arith_Eval.f 60 (⟨#[49, 32, 124, 124, 32, 49, 32, 47, 32, 48]⟩ : ByteArray) [] = some (1, 0) := by decide +kernel
  unfold dragomanlaw10_shown.f
  rw [h1, Option.bind_some, h2, Option.bind_some]
  rfl

section
end
end Go.Proofs.YtambnodgfhlpfaaDoor.P

/- A row of variables that comes in, opened; how long its texts can be. -/
set_option linter.unusedVariables false
set_option linter.unusedSimpArgs false
namespace Go.Proofs.YtambnodgfhlpfaaDoor.G
open Go.RowKit Go.ChangeShapes Go.WideShapes Go.Deep Go.Proofs.YtambnodgfhlpfaaDoorW.PrintWords Go.Proofs.YtambnodgfhlpfaaDoorW.PrintLast Go.Proofs.YtambnodgfhlpfaaDoorW.PrintMore Go.Proofs.YtambnodgfhlpfaaDoor.QA
theorem choose_list {α : Type} (n : Nat) (p : Nat → α → Prop) (h : ∀ i, i < n → ∃ x, p i x) : ∃ l : List α, l.length = n ∧ ∀ i x, l[i]? = some x → p i x := by
  induction n with
  | zero => exact ⟨[], rfl, fun i x hx => by simp at hx⟩
  | succ n ih =>
    obtain ⟨l, hl, hp⟩ := ih (fun i hi => h i (by omega))
    obtain ⟨x, hx⟩ := h n (by omega)
    refine ⟨l ++ [x], by simp [hl], fun i y hy => ?_⟩
    by_cases hi : i < n
    · rw [List.getElem?_append_left (by omega)] at hy
      exact hp i y hy
    · have hlt : i < (l ++ [x]).length := (List.getElem?_eq_some_iff.1 hy).1
      simp at hlt
      have : i = n := by omega
      subst this
      rw [List.getElem?_append_right (by omega)] at hy
      simp [hl] at hy
      subst hy
      exact hx
theorem weights_all {H : Type} {P : Program} {e : TypeId} {d : DataW H} {n : Nat} : ∀ {ds : List (DataW H)}, d ∈ ds → n ∈ d.weights P e → n ∈ DataW.weightsAll P e ds
  | [], h, _ => by cases h
  | x :: r, h, hn => by
    rw [DataW.weightsAll]
    rcases List.mem_cons.1 h with rfl | h
    · exact List.mem_append_left _ hn
    · exact List.mem_append_right _ (weights_all h hn)
set_option maxRecDepth 100000 in
theorem open_T22 {H : Type} {enc : TypeId × Value → H} {w : World} {base : Nat} {held : Bool} {r : Reach} {b0 : Nat} {v : Value} {d : DataW H} {p : List MemPlace} (hv : Value.okWide Tryd.prog w r b0 22 v) (h : DataW.Trod enc Tryd.prog w base (fun _ => true) held 22 v d p) :
    ∃ (A : Option Addr) (cap : Nat) (l0 : List S39), v = .slice A l0.length cap ∧ l0.length ≤ cap ∧ Kd.C k39 w A l0.length l0 ∧ ∀ x, x ∈ l0 → x.f0.size ∈ d.weights Tryd.prog 22 ∧ x.f1.size ∈ d.weights Tryd.prog 22 := by
  obtain ⟨A, len, cap, rfl⟩ := okWide_slice Tryd.underlying22 hv
  obtain ⟨fuel, hf⟩ := h
  rcases open_slice_pairs Tryd.underlying22 Tryd.underlying39 (by kernel_rfl) rfl rfl (by kernel_rfl) (by kernel_rfl) hf with ⟨hcs, _⟩ | ⟨a, l, c, m, n, V0, V1, D0, D1, P0, P1, hcs, _, hl, hm, hmm, hx, hel⟩
  · simp [Value.cells] at hcs
    obtain ⟨rfl, rfl, rfl⟩ := hcs
    exact ⟨none, 0, [], rfl, Nat.le_refl _, ⟨rfl, by decide, fun h => by cases h⟩, fun x hx => by cases hx⟩
  · simp [Value.cells] at hcs
    obtain ⟨rfl, rfl, rfl⟩ := hcs
    simp only [if_true] at hmm
    subst hmm
    obtain ⟨l0, hl0, hp⟩ := choose_list len (fun i (x : S39) => (w.cell? (a.add (i * 2)) = some (.string x.f0) ∧ w.cell? (a.add (i * 2 + 1)) = some (.string x.f1)) ∧ D0 i = .lit (.string x.f0.data.toList) ∧ D1 i = .lit (.string x.f1.data.toList)) (fun i hi => by
      obtain ⟨c0, c1, t0, t1⟩ := hel i (by omega)
      obtain ⟨x0, e0, y0, _⟩ := DataW.trod_string Tryd.underlying9 t0
      obtain ⟨x1, e1, y1, _⟩ := DataW.trod_string Tryd.underlying9 t1
      rw [List.cons.inj e0 |>.1] at c0
      rw [List.cons.inj e1 |>.1] at c1
      exact ⟨⟨x0, x1⟩, ⟨c0, c1⟩, (Prod.mk.inj y0).1, (Prod.mk.inj y1).1⟩)
    refine ⟨some a, _, l0, by rw [hl0], by omega, ⟨rfl, by unfold maxLen at hm; omega, fun _ => ⟨a, rfl, fun j x hx => ⟨_, rfl, k39_mk _ x, ?_⟩⟩⟩, fun x hx2 => ?_⟩
    · obtain ⟨⟨h0, h1⟩, _⟩ := hp j x hx
      intro i u hu
      match i, hu with
      | 0, hu => cases hu; exact h0
      | 1, hu => cases hu; exact h1
    · obtain ⟨i, hi⟩ := List.mem_iff_getElem?.1 hx2
      have hlt : i < len := by have := (List.getElem?_eq_some_iff.1 hi).1; omega
      obtain ⟨_, d0, d1⟩ := hp i x hi
      have hd := (Prod.mk.inj hx).1
      have hmem : (DataW.agg [D0 i, D1 i] : DataW H) ∈ (List.range len).map fun i => (DataW.agg [D0 i, D1 i] : DataW H) := List.mem_map.2 ⟨i, List.mem_range.2 hlt, rfl⟩
      have hw : ∀ n, n ∈ (DataW.agg [D0 i, D1 i] : DataW H).weights Tryd.prog 39 → n ∈ d.weights Tryd.prog 22 := by
        intro n hn
        rw [hd]
        simp only [DataW.weights, Tryd.underlying22]
        exact List.mem_cons_of_mem _ (List.mem_append_left _ (weights_all hmem hn))
      rw [d0, d1] at hw
      exact ⟨hw _ (by simp [DataW.weights, DataW.weightsEach, Tryd.underlying39]), hw _ (by simp [DataW.weights, DataW.weightsEach, Tryd.underlying39])⟩
end Go.Proofs.YtambnodgfhlpfaaDoor.G

/- A text that stands in brackets within another one is read there as by itself; every text is read to an end. -/
set_option linter.unusedVariables false
set_option linter.unusedSimpArgs false
namespace Go.Proofs.YtambnodgfhlpfaaDoor.P
open Go.RowKit Go.Proofs.YtambnodgfhlpfaaDoorW.PrintWords Go.Proofs.YtambnodgfhlpfaaDoorW.PrintLast Go.Proofs.YtambnodgfhlpfaaDoor.G Go.Proofs.YtambnodgfhlpfaaDoor.QA Go.Proofs.YtambnodgfhlpfaaDoor.A

/-- A text stands in another one, from o on, and a closing bracket behind it. -/
def In (s t : ByteArray) (o : Nat) : Prop := ∃ a z : List UInt8, a.length = o ∧ t.data.toList = a ++ (s.data.toList ++ 41 :: z)
theorem len_list (s : ByteArray) : s.data.toList.length = s.size := by simp
theorem In.drop {s t : ByteArray} {o : Nat} (h : In s t o) : ∃ z, ∀ p, p ≤ s.size → t.data.toList.drop (o + p) = s.data.toList.drop p ++ 41 :: z := by
  obtain ⟨a, z, rfl, ht⟩ := h
  refine ⟨z, fun p hp => ?_⟩
  rw [ht, List.drop_length_add_append, List.drop_append_of_le_length (by rw [len_list]; exact hp)]
theorem In.size {s t : ByteArray} {o : Nat} (h : In s t o) : o + s.size + 1 ≤ t.size := by
  obtain ⟨a, z, rfl, ht⟩ := h
  have := congrArg List.length ht
  simp at this
  omega
theorem bt_drop (s : ByteArray) (i : Nat) : bt s i = (((s.data.toList.drop i).headD 0).toNat : Int) := by
  unfold bt
  by_cases h : i < s.size
  · rw [dif_pos (by simpa using h), List.drop_eq_getElem_cons (by rw [len_list]; exact h)]
    rfl
  · rw [dif_neg (by simpa using h), List.drop_eq_nil_of_le (by rw [len_list]; omega)]
    rfl
section
variable {s t : ByteArray} {o : Nat} (h : In s t o)
include h
theorem In.bt {p : Nat} (hp : p < s.size) : bt t ((o + p : Nat) : Int) = bt s p := by
  obtain ⟨z, hz⟩ := h.drop
  rw [bt_drop, bt_drop, hz p (by omega), List.drop_eq_getElem_cons (by rw [len_list]; exact hp)]
  rfl
theorem In.bt_end : Go.Proofs.YtambnodgfhlpfaaDoorW.PrintWords.bt t ((o + s.size : Nat) : Int) = 41 := by
  obtain ⟨z, hz⟩ := h.drop
  rw [bt_drop, hz s.size (Nat.le_refl _), List.drop_eq_nil_of_le (by rw [len_list]; exact Nat.le_refl _)]
  rfl
theorem In.sk_aux : ∀ d p, p + d = s.size → sk t (o + p) = o + sk s p
  | 0, p, hp => by
    have hp' : p = s.size := by omega
    subst hp'
    rw [sk_no s s.size (fun hh => absurd hh (Nat.lt_irrefl _)), sk_no t (o + s.size) (fun _ => by rw [h.bt_end]; rfl)]
  | d + 1, p, hp => by
    have hs := h.size
    have hlt : p < s.size := by omega
    have hb := h.bt hlt
    cases hc : spB (Go.Proofs.YtambnodgfhlpfaaDoorW.PrintWords.bt s p) with
    | true =>
      rw [sk_yes s p hlt hc, sk_yes t (o + p) (by omega) (by rw [hb]; exact hc)]
      exact In.sk_aux d (p + 1) (by omega)
    | false => rw [sk_no s p (fun _ => hc), sk_no t (o + p) (fun _ => by rw [hb]; exact hc)]
theorem In.sk {p : Nat} (hp : p ≤ s.size) : A.sk t (o + p) = o + A.sk s p := In.sk_aux h (s.size - p) p (by omega)
end
theorem ext_list (s : ByteArray) (i j : Nat) : (s.extract i j).data.toList = (s.data.toList.drop i).take (j - i) := by
  rw [ByteArray.data_extract, Array.toList_extract, List.extract_eq_take_drop]
theorem hasAt_drop (s : ByteArray) (p : Nat) (m : ByteArray) : hasAt s p m = m.data.toList.isPrefixOf (s.data.toList.drop p) := by
  unfold hasAt Lib.hasPrefix
  rw [ext_list, List.take_of_length_le (by rw [List.length_drop, len_list]; exact Nat.le_refl _)]
theorem pre_app : ∀ (m l z : List UInt8), (41 : UInt8) ∉ m → m.isPrefixOf (l ++ 41 :: z) = m.isPrefixOf l
  | [], _, _, _ => by simp
  | x :: m, [], z, hm => by
    have : x ≠ 41 := fun he => hm (by rw [he]; exact List.mem_cons_self)
    simp [List.isPrefixOf, this]
  | x :: m, y :: l, z, hm => by
    rw [List.cons_append, List.isPrefixOf, List.isPrefixOf, pre_app m l z (fun hh => hm (List.mem_cons_of_mem _ hh))]
theorem bop_no (m : Bop) : (41 : UInt8) ∉ m.str.data.toList := by cases m <;> decide
theorem uop_no (m : Uop) : (41 : UInt8) ∉ m.str.data.toList := by cases m <;> decide
theorem ge_idx (l : List Int) : ∀ d i, (∃ j, i ≤ j ∧ j < i + d ∧ oddB (l.getD j 0) = true) → 0 ≤ idxOdd l i d
  | 0, i, ⟨j, h1, h2, _⟩ => by omega
  | d + 1, i, ⟨j, h1, h2, h3⟩ => by
    rw [idxOdd]
    by_cases hc : oddB (l.getD i 0) = true
    · rw [if_pos hc]; omega
    · rw [if_neg hc]
      refine ge_idx l d (i + 1) ⟨j, ?_, by omega, h3⟩
      by_cases he : j = i
      · subst he; exact absurd h3 hc
      · omega
theorem no_word {x : ByteArray} (h : (41 : UInt8) ∈ x.data.toList) : (nameB x || allDig x) = false := by
  rw [Bool.or_eq_false_iff]
  constructor
  · obtain ⟨j, hj, hx⟩ := List.getElem_of_mem h
    have : 0 ≤ idxOdd (bytesOf x) 0 x.size := by
      refine ge_idx _ _ _ ⟨j, Nat.zero_le _, by rw [len_list] at hj; omega, ?_⟩
      have : (bytesOf x).getD j 0 = 41 := by
        unfold bytesOf
        rw [List.getD_eq_getElem?_getD, List.getElem?_map, List.getElem?_eq_getElem hj, hx]
        rfl
      rw [this]; decide
    unfold nameB
    simp [this]
  · unfold allDig
    rw [List.all_eq_false]
    exact ⟨41, h, by decide⟩
section
variable {s t : ByteArray} {o : Nat} (h : In s t o)
include h
theorem In.has {p : Nat} (hp : p ≤ s.size) {m : ByteArray} (hm : (41 : UInt8) ∉ m.data.toList) : hasAt t (o + p) m = hasAt s p m := by
  obtain ⟨z, hz⟩ := h.drop
  rw [hasAt_drop, hasAt_drop, hz p hp, pre_app _ _ _ hm]
theorem In.close {p : Nat} (hp : p = s.size) : hasAt t (o + p) rpar = true := by
  obtain ⟨z, hz⟩ := h.drop
  rw [hasAt_drop, hz p (by omega), List.drop_eq_nil_of_le (by rw [len_list]; omega)]
  rfl
theorem In.closes {p : Nat} (hp : p ≤ s.size) (hr : hasAt s p rpar = true) : hasAt t (o + p) rpar = true := by
  obtain ⟨z, hz⟩ := h.drop
  rw [hasAt_drop] at hr ⊢
  rw [hz p hp]
  rw [List.isPrefixOf_iff_prefix] at hr ⊢
  exact hr.trans (List.prefix_append _ _)
theorem In.find {α : Type} (f : α → ByteArray) (hf : ∀ m, (41 : UInt8) ∉ (f m).data.toList) {p : Nat} (hp : p ≤ s.size) (l : List α) : find1 f t (o + p) l = find1 f s p l := by
  induction l with
  | nil => rfl
  | cons m r ih => rw [find1, find1, h.has hp (hf m), ih]
theorem In.ext {i j : Nat} (hij : i ≤ j) (hj : j ≤ s.size) : t.extract (o + i) (o + j) = s.extract i j := by
  obtain ⟨z, hz⟩ := h.drop
  refine ByteArray.ext (Array.toList_inj.1 ?_)
  rw [ext_list, ext_list, hz i (by omega), List.take_append_of_le_length (by rw [List.length_drop, len_list]; omega), show o + j - (o + i) = j - i by omega]
theorem In.odd {i : Nat} (hi : i ≤ s.size) : (41 : UInt8) ∈ (t.extract (o + i) (o + s.size + 1)).data.toList := by
  obtain ⟨z, hz⟩ := h.drop
  rw [ext_list, hz i hi, List.take_append, List.length_drop, len_list, show o + s.size + 1 - (o + i) - (s.size - i) = 0 + 1 by omega]
  exact List.mem_append_right _ (by rw [List.take_succ_cons]; exact List.mem_cons_self)
theorem In.wend {f : Nat} : ∀ d i, i + d = s.size → f ≤ i → A.wend t (o + f) (o + i) (t.size - (o + i)) = o + A.wend s f i (s.size - i)
  | 0, i, hi, hf => by
    have hi' : i = s.size := by omega
    subst hi'
    rw [wend_no s f s.size (fun hh => absurd hh (Nat.lt_irrefl _)), wend_no t (o + f) (o + s.size) (fun _ => no_word (h.odd hf))]
  | d + 1, i, hi, hf => by
    have hs := h.size
    have he := h.ext (i := f) (j := i + 1) (by omega) (by omega)
    cases hc : (nameB (s.extract f (i + 1)) || allDig (s.extract f (i + 1))) with
    | true =>
      rw [wend_yes s f i (by omega) hc, wend_yes t (o + f) (o + i) (by omega) (by rw [Nat.add_assoc, he]; exact hc)]
      exact In.wend d (i + 1) (by omega) (by omega)
    | false => rw [wend_no s f i (fun _ => hc), wend_no t (o + f) (o + i) (fun _ => by rw [Nat.add_assoc, he]; exact hc)]
theorem In.word {p : Nat} (hp : p ≤ s.size) : wordEnd t (o + p) = o + wordEnd s p := In.wend h (s.size - p) p (by omega) (Nat.le_refl _)
end
theorem find_size {α : Type} {f : α → ByteArray} {s : ByteArray} {p : Nat} {l : List α} {x : α} (h : find1 f s p l = some x) : (f x).size ≤ s.size - p := by
  induction l with
  | nil => cases h
  | cons m r ih =>
    rw [find1] at h
    by_cases hc : hasAt s p (f m) = true
    · rw [if_pos hc] at h; cases h; exact hasAt_size hc
    · rw [if_neg hc] at h; exact ih h
end Go.Proofs.YtambnodgfhlpfaaDoor.P

/- The reading of a text within another one, whole; that every text is read to an end. -/
set_option linter.unusedVariables false
set_option linter.unusedSimpArgs false
namespace Go.Proofs.YtambnodgfhlpfaaDoor.P
open Go.RowKit Go.Proofs.YtambnodgfhlpfaaDoorW.PrintWords Go.Proofs.YtambnodgfhlpfaaDoorW.PrintLast Go.Proofs.YtambnodgfhlpfaaDoor.G Go.Proofs.YtambnodgfhlpfaaDoor.QA Go.Proofs.YtambnodgfhlpfaaDoor.A

theorem uop_one (u : Uop) : u.str.size = 1 := by cases u <;> rfl
theorem lpar_no : (41 : UInt8) ∉ lpar.data.toList := by decide
/-- Read at o + p of the one as at p of the other, if that isn't too deep there. -/
theorem shift {s t : ByteArray} {o : Nat} (h : In s t o) : ∀ (k : Nat) (md : Md) (p dp dp' : Nat) (x : A.Node) (q : Nat), p ≤ s.size → run s k md p dp = some (.ok (x, q)) →
    q ≤ s.size ∧ ((run s k md p dp' = some (.ok (x, q)) ∧ run t k md (o + p) dp' = some (.ok (x, o + q))) ∨ (run s k md p dp' = some (.error 7) ∧ run t k md (o + p) dp' = some (.error 7)))
  | 0, _, _, _, _, _, _, _, hr => by simp [run] at hr
  | k + 1, .lev n, p, dp, dp', x, q, hp, hr => by
    rw [run] at hr
    rw [run, run]
    by_cases h6 : n = 6
    · rw [if_pos h6] at hr
      rw [if_pos h6, if_pos h6]
      exact shift h k _ p dp dp' x q hp hr
    · rw [if_neg h6] at hr
      rw [if_neg h6, if_neg h6]
      cases hx : run s k (.lev (n + 1)) p dp with
      | none => rw [hx] at hr; cases hr
      | some r2 =>
        rw [hx] at hr
        cases r2 with
        | error e => cases hr
        | ok r3 =>
          obtain ⟨a, q1⟩ := r3
          obtain ⟨hq1, hc⟩ := shift h k _ p dp dp' a q1 hp hx
          have hr' : run s k (.loop n a) q1 dp = some (.ok (x, q)) := hr
          obtain ⟨hq, hd⟩ := shift h k _ q1 dp dp' x q hq1 hr'
          refine ⟨hq, ?_⟩
          rcases hc with ⟨c1, c2⟩ | ⟨c1, c2⟩
          · rw [c1, c2]; exact hd
          · rw [c1, c2]; exact Or.inr ⟨rfl, rfl⟩
  | k + 1, .loop n a, p, dp, dp', x, q, hp, hr => by
    have hs := sk_le s p hp
    rw [run] at hr
    rw [run, run, h.sk hp, h.find Bop.str bop_no hs]
    cases hf : find1 Bop.str s (sk s p) (opsOf n) with
    | none =>
      rw [hf] at hr
      cases hr
      exact ⟨hs, Or.inl ⟨rfl, rfl⟩⟩
    | some m =>
      rw [hf] at hr
      have hz := find_size hf
      have hle : sk s p + m.str.size ≤ s.size := by omega
      dsimp only at hr ⊢
      rw [Nat.add_assoc]
      cases hx : run s k (.lev (n + 1)) (sk s p + m.str.size) dp with
      | none => rw [hx] at hr; cases hr
      | some r2 =>
        rw [hx] at hr
        cases r2 with
        | error e => cases hr
        | ok r3 =>
          obtain ⟨b, q1⟩ := r3
          obtain ⟨hq1, hc⟩ := shift h k _ _ dp dp' b q1 hle hx
          have hr' : run s k (.loop n (.bin m a b)) q1 dp = some (.ok (x, q)) := hr
          obtain ⟨hq, hd⟩ := shift h k _ q1 dp dp' x q hq1 hr'
          refine ⟨hq, ?_⟩
          rcases hc with ⟨c1, c2⟩ | ⟨c1, c2⟩
          · rw [c1, c2]; exact hd
          · rw [c1, c2]; exact Or.inr ⟨rfl, rfl⟩
  | k + 1, .una, p, dp, dp', x, q, hp, hr => by
    have hs := sk_le s p hp
    rw [run] at hr
    rw [run, run, h.sk hp, h.find Uop.str uop_no hs]
    cases hf : find1 Uop.str s (sk s p) uops with
    | some u =>
      rw [hf] at hr
      have hz := find_size hf
      rw [uop_one] at hz
      have hpos : sk s p + 1 ≤ s.size ∨ s.size = sk s p := by omega
      dsimp only at hr ⊢
      by_cases h30 : 30 ≤ dp
      · rw [if_pos h30] at hr; cases hr
      · rw [if_neg h30] at hr
        cases hx : run s k .una (sk s p + 1) (dp + 1) with
        | none => rw [hx] at hr; cases hr
        | some r2 =>
          rw [hx] at hr
          cases r2 with
          | error e => cases hr
          | ok r3 =>
            obtain ⟨a, q1⟩ := r3
            obtain ⟨hq1, hc⟩ := shift h k _ _ (dp + 1) (dp' + 1) a q1 (by omega) hx
            cases hr
            refine ⟨hq1, ?_⟩
            by_cases h31 : 30 ≤ dp'
            · rw [if_pos h31, if_pos h31]; exact Or.inr ⟨rfl, rfl⟩
            · rw [if_neg h31, if_neg h31, Nat.add_assoc]
              rcases hc with ⟨c1, c2⟩ | ⟨c1, c2⟩
              · rw [c1, c2]; exact Or.inl ⟨rfl, rfl⟩
              · rw [c1, c2]; exact Or.inr ⟨rfl, rfl⟩
    | none =>
      rw [hf] at hr
      dsimp only at hr ⊢
      rw [h.has hs lpar_no]
      by_cases hl : hasAt s (sk s p) lpar = true
      · have hz := hasAt_size hl
        have hz1 : lpar.size = 1 := rfl
        rw [if_pos hl] at hr
        rw [if_pos hl, if_pos hl]
        by_cases h30 : 30 ≤ dp
        · rw [if_pos h30] at hr; cases hr
        · rw [if_neg h30] at hr
          cases hx : run s k (.lev 0) (sk s p + 1) (dp + 1) with
          | none => rw [hx] at hr; cases hr
          | some r2 =>
            rw [hx] at hr
            cases r2 with
            | error e => cases hr
            | ok r3 =>
              obtain ⟨a, q1⟩ := r3
              obtain ⟨hq1, hc⟩ := shift h k _ _ (dp + 1) (dp' + 1) a q1 (by omega) hx
              dsimp only at hr
              by_cases hrp : hasAt s (sk s q1) rpar = true
              · rw [if_pos hrp] at hr
                cases hr
                have hs1 := sk_le s q1 hq1
                have hz2 := hasAt_size hrp
                have hz3 : rpar.size = 1 := rfl
                refine ⟨by omega, ?_⟩
                by_cases h31 : 30 ≤ dp'
                · rw [if_pos h31, if_pos h31]; exact Or.inr ⟨rfl, rfl⟩
                · rw [if_neg h31, if_neg h31, Nat.add_assoc]
                  rcases hc with ⟨c1, c2⟩ | ⟨c1, c2⟩
                  · rw [c1, c2]
                    dsimp only
                    rw [h.sk hq1, h.closes hs1 hrp, if_pos hrp, if_pos rfl]
                    exact Or.inl ⟨rfl, rfl⟩
                  · rw [c1, c2]; exact Or.inr ⟨rfl, rfl⟩
              · rw [if_neg hrp] at hr; cases hr
      · rw [if_neg hl] at hr
        rw [if_neg hl, if_neg hl, h.word hs]
        obtain ⟨w1, w2⟩ := wordEnd_le s (sk s p) hs
        rw [h.ext w2 w1]
        by_cases hn : nameB (s.extract (sk s p) (wordEnd s (sk s p))) = true
        · rw [if_pos hn] at hr
          rw [if_pos hn, if_pos hn]
          cases hr
          exact ⟨w1, Or.inl ⟨rfl, rfl⟩⟩
        · rw [if_neg hn] at hr
          rw [if_neg hn, if_neg hn]
          by_cases hw : (wholeV (s.extract (sk s p) (wordEnd s (sk s p)))).2.2 = 0
          · rw [if_pos hw] at hr
            rw [if_pos hw, if_pos hw]
            cases hr
            exact ⟨w1, Or.inl ⟨rfl, rfl⟩⟩
          · rw [if_neg hw] at hr; cases hr

theorem run_le {s : ByteArray} {k : Nat} {md : Md} {p dp : Nat} {r : Res} (h : run s k md p dp = some r) : ∀ j, run s (k + j) md p dp = some r
  | 0 => h
  | j + 1 => run_mono s _ _ _ _ _ (run_le h j)
theorem run_ge {s : ByteArray} {k K : Nat} {md : Md} {p dp : Nat} {r : Res} (h : run s k md p dp = some r) (hk : k ≤ K) : run s K md p dp = some r := by
  obtain ⟨j, rfl⟩ := Nat.exists_eq_add_of_le hk
  exact run_le h j
/-- What is read stands behind the place. -/
theorem run_on (s : ByteArray) : ∀ (k : Nat) (md : Md) (p dp : Nat) (x : A.Node) (q : Nat), run s k md p dp = some (.ok (x, q)) → p ≤ q
  | 0, _, _, _, _, _, hr => by simp [run] at hr
  | k + 1, .lev n, p, dp, x, q, hr => by
    rw [run] at hr
    by_cases h6 : n = 6
    · rw [if_pos h6] at hr; exact run_on s k _ _ _ _ _ hr
    · rw [if_neg h6] at hr
      cases hx : run s k (.lev (n + 1)) p dp with
      | none => rw [hx] at hr; cases hr
      | some r2 =>
        rw [hx] at hr
        cases r2 with
        | error e => cases hr
        | ok r3 =>
          obtain ⟨a, q1⟩ := r3
          exact Nat.le_trans (run_on s k _ _ _ _ _ hx) (run_on s k _ _ _ _ _ hr)
  | k + 1, .loop n a, p, dp, x, q, hr => by
    have hs := sk_ge s p
    rw [run] at hr
    cases hf : find1 Bop.str s (sk s p) (opsOf n) with
    | none => rw [hf] at hr; cases hr; exact hs
    | some m =>
      rw [hf] at hr
      dsimp only at hr
      cases hx : run s k (.lev (n + 1)) (sk s p + m.str.size) dp with
      | none => rw [hx] at hr; cases hr
      | some r2 =>
        rw [hx] at hr
        cases r2 with
        | error e => cases hr
        | ok r3 =>
          obtain ⟨b, q1⟩ := r3
          have h1 := run_on s k _ _ _ _ _ hx
          have h2 := run_on s k _ _ _ _ _ hr
          omega
  | k + 1, .una, p, dp, x, q, hr => by
    have hs := sk_ge s p
    rw [run] at hr
    cases hf : find1 Uop.str s (sk s p) uops with
    | some u =>
      rw [hf] at hr
      dsimp only at hr
      by_cases h30 : 30 ≤ dp
      · rw [if_pos h30] at hr; cases hr
      · rw [if_neg h30] at hr
        cases hx : run s k .una (sk s p + 1) (dp + 1) with
        | none => rw [hx] at hr; cases hr
        | some r2 =>
          rw [hx] at hr
          cases r2 with
          | error e => cases hr
          | ok r3 =>
            obtain ⟨a, q1⟩ := r3
            cases hr
            have h1 := run_on s k _ _ _ _ _ hx
            omega
    | none =>
      rw [hf] at hr
      dsimp only at hr
      by_cases hl : hasAt s (sk s p) lpar = true
      · rw [if_pos hl] at hr
        by_cases h30 : 30 ≤ dp
        · rw [if_pos h30] at hr; cases hr
        · rw [if_neg h30] at hr
          cases hx : run s k (.lev 0) (sk s p + 1) (dp + 1) with
          | none => rw [hx] at hr; cases hr
          | some r2 =>
            rw [hx] at hr
            cases r2 with
            | error e => cases hr
            | ok r3 =>
              obtain ⟨a, q1⟩ := r3
              have h1 := run_on s k _ _ _ _ _ hx
              have h2 := sk_ge s q1
              dsimp only at hr
              by_cases hrp : hasAt s (sk s q1) rpar = true
              · rw [if_pos hrp] at hr; cases hr; omega
              · rw [if_neg hrp] at hr; cases hr
      · rw [if_neg hl] at hr
        have hwe : sk s p ≤ wordEnd s (sk s p) := wend_ge s _ _ _
        by_cases hn : nameB (s.extract (sk s p) (wordEnd s (sk s p))) = true
        · rw [if_pos hn] at hr; cases hr; omega
        · rw [if_neg hn] at hr
          by_cases hw : (wholeV (s.extract (sk s p) (wordEnd s (sk s p)))).2.2 = 0
          · rw [if_pos hw] at hr; cases hr; omega
          · rw [if_neg hw] at hr; cases hr
where wend_ge (s : ByteArray) (f : Nat) : ∀ d i, i ≤ wend s f i d
  | 0, i => Nat.le_refl _
  | d + 1, i => by
    rw [wend]
    split
    · have := wend_ge s f d (i + 1); omega
    · exact Nat.le_refl _
end Go.Proofs.YtambnodgfhlpfaaDoor.P

/- Every text is read to an end; a row of few short variables is told by an end; how what stands between goes up through the levels. -/
set_option linter.unusedVariables false
set_option linter.unusedSimpArgs false
namespace Go.Proofs.YtambnodgfhlpfaaDoor.P
open Go.RowKit Go.Proofs.YtambnodgfhlpfaaDoorW.PrintWords Go.Proofs.YtambnodgfhlpfaaDoorW.PrintLast Go.Proofs.YtambnodgfhlpfaaDoor.G Go.Proofs.YtambnodgfhlpfaaDoor.QA Go.Proofs.YtambnodgfhlpfaaDoor.A

theorem bop_pos (m : Bop) : 1 ≤ m.str.size := by cases m <;> decide
/-- Every text is read to an end. -/
theorem term (s : ByteArray) : ∀ m p, s.size - p < m →
    (∀ dp, ∃ k r, run s k .una p dp = some r) ∧ (∀ n, n ≤ 6 → ∀ dp, ∃ k r, run s k (.lev n) p dp = some r) ∧ (∀ n a dp, n < 6 → ∃ k r, run s k (.loop n a) p dp = some r)
  | 0, p, h => by omega
  | m + 1, p, h => by
    have ih := term s m
    have hloop : ∀ q, s.size - q < m + 1 → ∀ n a dp, n < 6 → ∃ k r, run s k (.loop n a) q dp = some r := by
      intro q hq n a dp hn
      have hs := sk_ge s q
      cases hf : find1 Bop.str s (sk s q) (opsOf n) with
      | none => exact ⟨1, .ok (a, sk s q), by rw [run, hf]⟩
      | some o =>
        have hz := find_size hf
        have ho := bop_pos o
        obtain ⟨k1, r1, h1⟩ := (ih (sk s q + o.str.size) (by omega)).2.1 (n + 1) (by omega) dp
        cases r1 with
        | error e => exact ⟨k1 + 1, .error e, by rw [run, hf]; dsimp only; rw [h1]⟩
        | ok r3 =>
          obtain ⟨b, q1⟩ := r3
          have hq1 := run_on s _ _ _ _ _ _ h1
          obtain ⟨k2, r2, h2⟩ := (ih q1 (by omega)).2.2 n (.bin o a b) dp hn
          exact ⟨k1 + k2 + 1, r2, by rw [run, hf]; dsimp only; rw [run_ge h1 (by omega : k1 ≤ k1 + k2)]; exact run_ge h2 (by omega)⟩
    have huna : ∀ dp, ∃ k r, run s k .una p dp = some r := by
      intro dp
      have hs := sk_ge s p
      cases hf : find1 Uop.str s (sk s p) uops with
      | some u =>
        have hz := find_size hf
        rw [uop_one] at hz
        by_cases h30 : 30 ≤ dp
        · exact ⟨1, .error 7, by rw [run, hf]; dsimp only; rw [if_pos h30]⟩
        · obtain ⟨k1, r1, h1⟩ := (ih (sk s p + 1) (by omega)).1 (dp + 1)
          cases r1 with
          | error e => exact ⟨k1 + 1, .error e, by rw [run, hf]; dsimp only; rw [if_neg h30, h1]⟩
          | ok r3 => exact ⟨k1 + 1, .ok (.un u r3.1, r3.2), by rw [run, hf]; dsimp only; rw [if_neg h30, h1]⟩
      | none =>
        by_cases hl : hasAt s (sk s p) lpar = true
        · have hz := hasAt_size hl
          have hz1 : lpar.size = 1 := rfl
          by_cases h30 : 30 ≤ dp
          · exact ⟨1, .error 7, by rw [run, hf]; dsimp only; rw [if_pos hl, if_pos h30]⟩
          · obtain ⟨k1, r1, h1⟩ := (ih (sk s p + 1) (by omega)).2.1 0 (by omega) (dp + 1)
            cases r1 with
            | error e => exact ⟨k1 + 1, .error e, by rw [run, hf]; dsimp only; rw [if_pos hl, if_neg h30, h1]⟩
            | ok r3 =>
              by_cases hr : hasAt s (sk s r3.2) rpar = true
              · exact ⟨k1 + 1, .ok (r3.1, sk s r3.2 + 1), by rw [run, hf]; dsimp only; rw [if_pos hl, if_neg h30, h1]; dsimp only; rw [if_pos hr]⟩
              · exact ⟨k1 + 1, .error 9, by rw [run, hf]; dsimp only; rw [if_pos hl, if_neg h30, h1]; dsimp only; rw [if_neg hr]⟩
        · refine ⟨1, ?_⟩
          rw [run, hf]
          dsimp only
          rw [if_neg hl]
          split
          · exact ⟨_, rfl⟩
          · split <;> exact ⟨_, rfl⟩
    have hlev : ∀ j, j ≤ 6 → ∀ dp, ∃ k r, run s k (.lev (6 - j)) p dp = some r := by
      intro j
      induction j with
      | zero =>
        intro _ dp
        obtain ⟨k, r, hk⟩ := huna dp
        exact ⟨k + 1, r, by rw [run, if_pos rfl]; exact hk⟩
      | succ j ihj =>
        intro hj dp
        obtain ⟨k1, r1, h1⟩ := ihj (by omega) dp
        rw [show 6 - j = 6 - (j + 1) + 1 by omega] at h1
        generalize hn : 6 - (j + 1) = n at *
        have hn6 : n ≠ 6 := by omega
        cases r1 with
        | error e => exact ⟨k1 + 1, .error e, by rw [run, if_neg hn6, h1]⟩
        | ok r3 =>
          obtain ⟨a, q1⟩ := r3
          have hq1 := run_on s _ _ _ _ _ _ h1
          obtain ⟨k2, r2, h2⟩ := hloop q1 (by omega) n a dp (by omega)
          exact ⟨k1 + k2 + 1, r2, by rw [run, if_neg hn6, run_ge h1 (by omega : k1 ≤ k1 + k2)]; exact run_ge h2 (by omega)⟩
    exact ⟨huna, fun n hn dp => by have := hlev (6 - n) (by omega) dp; rwa [show 6 - (6 - n) = n by omega] at this, fun n a dp hn => hloop p h n a dp hn⟩

/-! ### Up through the levels -/
section
end
end Go.Proofs.YtambnodgfhlpfaaDoor.P

/- Rows of variables that are in order: what the search by halves finds is what stands there. -/
set_option linter.unusedVariables false
set_option linter.unusedSimpArgs false
namespace Go.Proofs.YtambnodgfhlpfaaDoor.P
open Go.RowKit Go.Proofs.YtambnodgfhlpfaaDoorW.PrintWords Go.Proofs.YtambnodgfhlpfaaDoorW.PrintLast Go.Proofs.YtambnodgfhlpfaaDoor.G Go.Proofs.YtambnodgfhlpfaaDoor.QA Go.Proofs.YtambnodgfhlpfaaDoor.A

/-! ### The order of texts -/
theorem u8_lt_ne {a b : UInt8} (h : a < b) : a ≠ b := fun e => by subst e; exact absurd h (UInt8.lt_irrefl _)
theorem less_irrefl : ∀ a : List UInt8, Op.bytesLess a a = false
  | [] => rfl
  | x :: a => by simp [Op.bytesLess, less_irrefl a]
theorem less_trans : ∀ {a b c : List UInt8}, Op.bytesLess a b = true → Op.bytesLess b c = true → Op.bytesLess a c = true
  | _, [], _, h, _ => by simp [Op.bytesLess] at h
  | _, _ :: _, [], _, h => by simp [Op.bytesLess] at h
  | [], y :: b, z :: c, _, _ => rfl
  | x :: a, y :: b, z :: c, h1, h2 => by
    simp only [Op.bytesLess, Bool.or_eq_true, Bool.and_eq_true, decide_eq_true_eq, beq_iff_eq] at h1 h2 ⊢
    rcases h1 with h1 | ⟨rfl, h1⟩
    · rcases h2 with h2 | ⟨rfl, h2⟩
      · exact Or.inl (UInt8.lt_trans h1 h2)
      · exact Or.inl h1
    · rcases h2 with h2 | ⟨rfl, h2⟩
      · exact Or.inl h2
      · exact Or.inr ⟨rfl, less_trans h1 h2⟩
theorem cmp_lt : ∀ a b : List UInt8, (Lib.compareBytes a b < 0) ↔ Op.bytesLess a b = true
  | [], [] => by simp [Lib.compareBytes, Op.bytesLess]
  | [], _ :: _ => by simp [Lib.compareBytes, Op.bytesLess]
  | _ :: _, [] => by simp [Lib.compareBytes, Op.bytesLess]
  | x :: a, y :: b => by
    simp only [Lib.compareBytes, Op.bytesLess, Bool.or_eq_true, Bool.and_eq_true, decide_eq_true_eq, beq_iff_eq]
    by_cases h1 : x < y
    · simp [h1]
    · rw [if_neg h1]
      by_cases h2 : y < x
      · rw [if_pos h2]
        have := u8_lt_ne h2
        constructor
        · intro h; omega
        · rintro (h | ⟨h, _⟩)
          · exact absurd h h1
          · exact absurd h.symm this
      · rw [if_neg h2]
        have he : x = y := UInt8.le_antisymm (UInt8.not_lt.1 h2) (UInt8.not_lt.1 h1)
        subst he
        rw [cmp_lt a b]
        simp
theorem cmp_eq : ∀ a b : List UInt8, (Lib.compareBytes a b = 0) ↔ a = b
  | [], [] => by simp [Lib.compareBytes]
  | [], _ :: _ => by simp [Lib.compareBytes]
  | _ :: _, [] => by simp [Lib.compareBytes]
  | x :: a, y :: b => by
    simp only [Lib.compareBytes]
    by_cases h1 : x < y
    · rw [if_pos h1]
      have := u8_lt_ne h1
      simp [this]
    · rw [if_neg h1]
      by_cases h2 : y < x
      · rw [if_pos h2]
        have := u8_lt_ne h2
        simp [Ne.symm this]
      · rw [if_neg h2]
        have he : x = y := UInt8.le_antisymm (UInt8.not_lt.1 h2) (UInt8.not_lt.1 h1)
        subst he
        rw [cmp_eq a b]
        simp
def ltS (a b : ByteArray) : Bool := Op.bytesLess a.toList b.toList
theorem ltS_data (a b : ByteArray) : ltS a b = Op.bytesLess a.data.toList b.data.toList := by unfold ltS; rw [ByteArray.toList_eq, ByteArray.toList_eq]
theorem cmpB_lt (a b : ByteArray) : cmpB a b < 0 ↔ ltS a b = true := by rw [ltS_data]; exact cmp_lt _ _
theorem cmpB_eq (a b : ByteArray) : cmpB a b = 0 ↔ a = b := by
  unfold cmpB
  rw [cmp_eq]
  exact ⟨fun h => ByteArray.ext (Array.toList_inj.1 h), fun h => by rw [h]⟩
theorem ltS_irrefl (a : ByteArray) : ltS a a = false := less_irrefl _
theorem ltS_trans {a b c : ByteArray} (h : ltS a b = true) (g : ltS b c = true) : ltS a c = true := less_trans h g
/-! ### Rows in order -/
def Sorted (l : Vars) : Prop := l.Pairwise fun x y => ltS x.f0 y.f0 = true
theorem name_of {l : Vars} {i : Nat} (h : i < l.length) : nameAt l i = l[i].f0 := by
  unfold nameAt rd_T39
  rw [Int.toNat_natCast, List.getD_eq_getElem?_getD, List.getElem?_eq_getElem h]
  rfl
theorem val_of {l : Vars} {i : Nat} (h : i < l.length) : valAt l i = l[i].f1 := by
  unfold valAt rd_T39
  rw [Int.toNat_natCast, List.getD_eq_getElem?_getD, List.getElem?_eq_getElem h]
  rfl
section
variable {l : Vars} (hs : Sorted l)
include hs
theorem sorted_at {i j : Nat} (hij : i < j) (hj : j < l.length) : ltS (nameAt l i) (nameAt l j) = true := by
  rw [name_of (by omega), name_of hj]
  exact List.pairwise_iff_getElem.1 hs i j (by omega) hj hij
/-- Ahead of the place all are less, from it on none is. -/
theorem bs_parts (t : ByteArray) : ∀ d i j, j - i = d → i ≤ j → j ≤ l.length → (∀ k, k < i → ltS (nameAt l k) t = true) → (∀ k, j ≤ k → k < l.length → ltS (nameAt l k) t = false) →
    (∀ k, k < bs l t i j → ltS (nameAt l k) t = true) ∧ (∀ k, bs l t i j ≤ k → k < l.length → ltS (nameAt l k) t = false) := by
  intro d
  induction d using Nat.strongRecOn with
  | ind d ih =>
    intro i j hd hij hj h1 h2
    by_cases h : i < j
    · by_cases hc : cmpB (nameAt l ((i + j) / 2)) t < 0
      · rw [bs_low h hc]
        refine ih (j - ((i + j) / 2 + 1)) (by omega) _ _ rfl (by omega) hj (fun k hk => ?_) h2
        have hm := (cmpB_lt _ _).1 hc
        by_cases hke : k = (i + j) / 2
        · rw [hke]; exact hm
        · exact ltS_trans (sorted_at hs (by omega : k < (i + j) / 2) (by omega)) hm
      · rw [bs_high h hc]
        refine ih ((i + j) / 2 - i) (by omega) _ _ rfl (by omega) (by omega) h1 (fun k hk hkl => ?_)
        have hm : ltS (nameAt l ((i + j) / 2)) t = false := by
          cases hx : ltS (nameAt l ((i + j) / 2)) t with
          | false => rfl
          | true => exact absurd ((cmpB_lt _ _).2 hx) hc
        by_cases hke : k = (i + j) / 2
        · rw [hke]; exact hm
        · cases hx : ltS (nameAt l k) t with
          | false => rfl
          | true =>
            have := ltS_trans (sorted_at hs (by omega : (i + j) / 2 < k) hkl) hx
            rw [this] at hm; cases hm
    · rw [bs_end h]
      have : i = j := by omega
      subst this
      exact ⟨h1, h2⟩
theorem place_parts (t : ByteArray) : (∀ k, k < placeV l t → ltS (nameAt l k) t = true) ∧ (∀ k, placeV l t ≤ k → k < l.length → ltS (nameAt l k) t = false) :=
  bs_parts hs t _ 0 l.length rfl (Nat.zero_le _) (Nat.le_refl _) (fun k hk => by omega) (fun k hk hk2 => by omega)
omit hs in
theorem place_le (t : ByteArray) : placeV l t ≤ l.length := (bs_le l t 0 l.length (Nat.zero_le _)).2
/-- Where a name stands, the search finds it. -/
theorem place_here {i : Nat} (h : i < l.length) : placeV l (nameAt l i) = i := by
  obtain ⟨h1, h2⟩ := place_parts hs (nameAt l i)
  have hle := place_le (l := l) (nameAt l i)
  apply Nat.le_antisymm
  · apply Nat.le_of_not_lt
    intro hlt
    have := h1 i hlt
    rw [ltS_irrefl] at this; cases this
  · apply Nat.le_of_not_lt
    intro hlt
    have := h2 _ (Nat.le_refl _) (by omega)
    rw [sorted_at hs hlt h] at this; cases this
theorem isAt_here {i : Nat} (h : i < l.length) : isAt l (nameAt l i) = true := by
  unfold isAt
  rw [place_here hs h]
  simp [h, (cmpB_eq _ _).2 rfl]
omit hs in
theorem isAt_some {t : ByteArray} (h : isAt l t = true) : placeV l t < l.length ∧ nameAt l (placeV l t) = t := by
  unfold isAt at h
  simp only [Bool.and_eq_true, decide_eq_true_eq] at h
  exact ⟨h.1, (cmpB_eq _ _).1 h.2⟩
theorem find_here {i : Nat} (h : i < l.length) : findV l (nameAt l i) = valAt l i := by
  unfold findV
  rw [isAt_here hs h, if_pos rfl, place_here hs h]
end
end Go.Proofs.YtambnodgfhlpfaaDoor.P

/- A text in brackets, and two of them: what they come to. -/
set_option linter.unusedVariables false
set_option linter.unusedSimpArgs false
namespace Go.Proofs.YtambnodgfhlpfaaDoor.P
open Go.RowKit Go.Proofs.YtambnodgfhlpfaaDoorW.PrintWords Go.Proofs.YtambnodgfhlpfaaDoorW.PrintLast Go.Proofs.YtambnodgfhlpfaaDoor.G Go.Proofs.YtambnodgfhlpfaaDoor.QA Go.Proofs.YtambnodgfhlpfaaDoor.A

/-! ### A row of few short variables is told by an end -/
def OkV (l : Vars) : Prop := ∀ x, x ∈ l → x.f0.size ≤ 140737488355328 ∧ x.f1.size ≤ 140737488355328
theorem rd_mem {l : Vars} {i : Nat} (h : i < l.length) : rd_T39 l (i : Int) ∈ l := by
  unfold rd_T39
  rw [Int.toNat_natCast, List.getD_eq_getElem?_getD, List.getElem?_eq_getElem h]
  exact List.getElem_mem h
theorem succ_id {i : Nat} (h : i ≤ 1000000) : wrap64 ((i : Int) + 1) = ((i + 1 : Nat) : Int) := by rw [wrap_id (by omega) (by omega)]; omega
set_option maxHeartbeats 2000000 in
theorem isname_f {s : ByteArray} (hs : s.size ≤ 200) : ∀ d i k, i + d = s.size → d < k → ∃ b, dragomanref01_IsName.l0 k s (i : Int) = some b
  | d, i, 0, _, h => by omega
  | 0, i, k + 1, hi, _ => by
    rw [dragomanref01_IsName.l0, if_neg (by omega)]
    exact ⟨_, rfl⟩
  | d + 1, i, k + 1, hi, hk => by
    obtain ⟨b, hb⟩ := isname_f hs d (i + 1) k (by omega) (by omega)
    have hw := succ_id (i := i) (by omega)
    simp only [dragomanref01_IsName.l0, hw, hb]
    repeat' split
    all_goals first | exact ⟨_, rfl⟩ | omega
theorem right_f {l : Vars} (hl : l.length ≤ 30) (h : ∀ x, x ∈ l → x.f0.size ≤ 200) : ∀ d i k, i + d = l.length → 300 + d < k → ∃ b, dragomanref10_Right.l0 k l (i : Int) = some b
  | d, i, 0, _, h => by omega
  | 0, i, k + 1, hi, _ => by
    rw [dragomanref10_Right.l0, if_neg (by omega)]
    exact ⟨_, rfl⟩
  | d + 1, i, k + 1, hi, hk => by
    obtain ⟨b, hb⟩ := right_f hl h d (i + 1) k (by omega) (by omega)
    have hw := succ_id (i := i) (by omega)
    have hz := h _ (rd_mem (l := l) (i := i) (by omega))
    obtain ⟨c, hc⟩ := isname_f hz (rd_T39 l (i : Int)).f0.size 0 k (by omega) (by omega)
    have hc' : dragomanref01_IsName.f k (rd_T39 l (i : Int)).f0 = some c := hc
    simp only [dragomanref10_Right.l0, hw, hb, hc', Option.bind_some]
    have hw2 : 0 < i → wrap64 ((i : Int) - 1) = ((i - 1 : Nat) : Int) := fun hi0 => by rw [wrap_id (by omega) (by omega)]; omega
    repeat' split
    all_goals first | exact ⟨_, rfl⟩ | (rename_i h1 h2; rw [hw2 (by omega)] at *; omega) | (rename_i h1 h2 h3; rw [hw2 (by omega)] at *; omega) | omega
theorem few_l {l : Vars} (hl : l.length ≤ 30) (hok : OkV l) : ∀ d i k, i + d = l.length → 400 + d < k → (∀ j x, j < i → l[j]? = some x → x.f0.size + x.f1.size ≤ 200) →
    ∃ b, dragomanlaw10_few.l0 k l (i : Int) = some b ∧ (b = true → ∀ x, x ∈ l → x.f0.size + x.f1.size ≤ 200)
  | d, i, 0, _, h, _ => by omega
  | 0, i, k + 1, hi, hk, hs => by
    have hall : ∀ x, x ∈ l → x.f0.size + x.f1.size ≤ 200 := by
      intro x hx
      obtain ⟨j, hj⟩ := List.mem_iff_getElem?.1 hx
      have := (List.getElem?_eq_some_iff.1 hj).1
      exact hs j x (by omega) hj
    rw [dragomanlaw10_few.l0, if_neg (by omega)]
    obtain ⟨b, hb⟩ := right_f hl (fun x hx => by have := hall x hx; omega) l.length 0 k (by omega) (by omega)
    have hb' : dragomanref10_Right.f k l = some b := hb
    exact ⟨b, by rw [hb']; rfl, fun _ => hall⟩
  | d + 1, i, k + 1, hi, hk, hs => by
    have hw := succ_id (i := i) (by omega)
    have hlt : i < l.length := by omega
    have hz := hok _ (rd_mem (l := l) (i := i) hlt)
    rw [dragomanlaw10_few.l0, if_pos (by omega), if_pos (by omega), wrap_id (by omega) (by omega), hw]
    by_cases hc : (((rd_T39 l (i : Int)).f0.size : Int) + ((rd_T39 l (i : Int)).f1.size : Int)) > 200
    · rw [if_pos hc]; exact ⟨false, rfl, fun h => by cases h⟩
    · rw [if_neg hc]
      refine few_l hl hok d (i + 1) k (by omega) (by omega) fun j x hj hx => ?_
      by_cases hji : j < i
      · exact hs j x hji hx
      · have : j = i := by omega
        subst this
        have : rd_T39 l (j : Int) = x := by
          unfold rd_T39
          rw [Int.toNat_natCast, List.getD_eq_getElem?_getD, hx]
          rfl
        rw [this] at hc
        omega
theorem few_f {l : Vars} (hok : OkV l) : ∀ k, 500 ≤ k → ∃ b, dragomanlaw10_few.f k l = some b ∧ (b = true → l.length ≤ 30 ∧ ∀ x, x ∈ l → x.f0.size + x.f1.size ≤ 200) := by
  intro k hk
  unfold dragomanlaw10_few.f
  by_cases hl : (l.length : Int) > 30
  · rw [if_pos hl]; exact ⟨false, rfl, fun h => by cases h⟩
  · rw [if_neg hl]
    obtain ⟨b, hb, h⟩ := few_l (l := l) (by omega) hok l.length 0 k (by omega) (by omega) (fun j x hj => by omega)
    exact ⟨b, hb, fun hh => ⟨by omega, h hh⟩⟩
theorem fit_few {l : Vars} (h : ∀ x, x ∈ l → x.f0.size + x.f1.size ≤ 200) : fitB l = true := by
  unfold fitB
  rw [List.all_eq_true]
  intro x hx
  have := h x hx
  simp
  omega

/-! ### Brackets -/
section
variable {t : ByteArray} {o : Nat} {c : UInt8} {r : List UInt8} (hd : t.data.toList.drop o = c :: r)
include hd
theorem sk_stay (hc : spB (c.toNat : Int) = false) : sk t o = o := sk_no t o (fun _ => by rw [bt_drop, hd]; exact hc)
theorem una_no (hc : c = 40) : find1 Uop.str t o uops = none := by
  subst hc
  simp [find1, uops, hasAt_drop, hd, Uop.str, List.isPrefixOf]
theorem una_lpar (hc : c = 40) : hasAt t o lpar = true := by
  subst hc
  rw [hasAt_drop, hd]
  rfl
end
theorem una_par {s t : ByteArray} {o : Nat} {r : List UInt8} (hd : t.data.toList.drop o = 40 :: r) (h : In s t (o + 1)) {k d0 q dp : Nat} {x : A.Node} (hr : run s k (.lev 0) 0 d0 = some (.ok (x, q))) (hq : ¬ sk s q < s.size) (hdp : dp < 30) :
    (run s k (.lev 0) 0 (dp + 1) = some (.ok (x, q)) ∧ run t (k + 1) .una o dp = some (.ok (x, o + s.size + 2))) ∨ (run s k (.lev 0) 0 (dp + 1) = some (.error 7) ∧ run t (k + 1) .una o dp = some (.error 7)) := by
  obtain ⟨hqs, hc⟩ := shift h k (.lev 0) 0 d0 (dp + 1) x q (Nat.zero_le _) hr
  rw [Nat.add_zero] at hc
  have hsk : sk s q = s.size := by have := sk_le s q hqs; omega
  have e : run t (k + 1) .una o dp = match run t k (.lev 0) (o + 1) (dp + 1) with
      | some (.ok (a, q)) => if hasAt t (sk t q) rpar then some (.ok (a, sk t q + 1)) else some (.error 9)
      | r => r := by
    rw [run, sk_stay hd (by decide), una_no hd rfl]
    dsimp only
    rw [if_pos (una_lpar hd rfl), if_neg (by omega)]
    rfl
  rcases hc with ⟨c1, c2⟩ | ⟨c1, c2⟩
  · refine Or.inl ⟨c1, ?_⟩
    rw [e, c2]
    dsimp only
    rw [h.sk hqs, hsk, h.close rfl, if_pos rfl, show o + 1 + s.size + 1 = o + s.size + 2 by omega]
  · refine Or.inr ⟨c1, ?_⟩
    rw [e, c2]
end Go.Proofs.YtambnodgfhlpfaaDoor.P

/- Which rows are right, in plain words; a row with one variable set is right, and that variable is found in it. -/
set_option linter.unusedVariables false
set_option linter.unusedSimpArgs false
namespace Go.Proofs.YtambnodgfhlpfaaDoor.P
open Go.RowKit Go.Proofs.YtambnodgfhlpfaaDoorW.PrintWords Go.Proofs.YtambnodgfhlpfaaDoorW.PrintLast Go.Proofs.YtambnodgfhlpfaaDoor.G Go.Proofs.YtambnodgfhlpfaaDoor.QA Go.Proofs.YtambnodgfhlpfaaDoor.A

theorem leo_up {α : Type} {F : Nat → Option α} (hm : ∀ k, LeO (F k) (F (k + 1))) {k K : Nat} {r : α} (h : F k = some r) (hk : k ≤ K) : F K = some r := by
  obtain ⟨j, rfl⟩ := Nat.exists_eq_add_of_le hk
  induction j with
  | zero => exact h
  | succ j ih => exact hm _ _ (ih (by omega))
/-- A name, as the document says. -/
def Nm (s : ByteArray) : Prop := s.size ≤ 200 ∧ ∃ k, dragomanref01_IsName.f k s = some true
theorem Nm.at_ {s : ByteArray} (h : Nm s) {k : Nat} (hk : 201 ≤ k) : dragomanref01_IsName.f k s = some true := by
  obtain ⟨hs, j, hj⟩ := h
  obtain ⟨b, hb⟩ := isname_f hs s.size 0 k (by omega) (by omega)
  have hb' : dragomanref01_IsName.f k s = some b := hb
  have h1 := leo_up (fun i => dragomanref01_IsName.mono s i) hj (by omega : j ≤ j + k)
  have h2 := leo_up (fun i => dragomanref01_IsName.mono s i) hb' (by omega : k ≤ j + k)
  rw [h1] at h2
  rw [hb', ← h2]
/-- What a right row is. -/
def RightP (l : Vars) : Prop := ∀ j, j < l.length → Nm (nameAt l j) ∧ (0 < j → ltS (nameAt l (j - 1)) (nameAt l j) = true)
theorem RightP.sorted {l : Vars} (h : RightP l) : Sorted l := by
  have : ∀ d i, i + d + 1 < l.length → ltS (nameAt l i) (nameAt l (i + d + 1)) = true := by
    intro d
    induction d with
    | zero => intro i hi; exact (h (i + 1) hi).2 (by omega)
    | succ d ih => intro i hi; exact ltS_trans (ih i (by omega)) ((h (i + (d + 1) + 1) hi).2 (by omega))
  unfold Sorted
  rw [List.pairwise_iff_getElem]
  intro i j hi hj hij
  have := this (j - i - 1) i (by omega)
  rw [show i + (j - i - 1) + 1 = j by omega, name_of hi, name_of hj] at this
  exact this
theorem pred_id {i : Nat} (h0 : 0 < i) (h : i ≤ 1000000) : wrap64 ((i : Int) - 1) = ((i - 1 : Nat) : Int) := by rw [wrap_id (by omega) (by omega)]; omega
theorem right_true {l : Vars} (hl : l.length ≤ 100000) (hs : ∀ x, x ∈ l → x.f0.size ≤ 200) : ∀ (k i : Nat), dragomanref10_Right.l0 k l (i : Int) = some true → ∀ j : Nat, i ≤ j → j < l.length → Nm (nameAt l j) ∧ (0 < j → ltS (nameAt l (j - 1)) (nameAt l j) = true)
  | 0, i, h => by simp [dragomanref10_Right.l0] at h
  | k + 1, i, h => by
    intro j hij hj
    have hi : i < l.length := by omega
    rw [dragomanref10_Right.l0, if_pos (by omega), if_pos (by omega), succ_id (by omega)] at h
    cases hn : dragomanref01_IsName.f k (rd_T39 l (i : Int)).f0 with
    | none => rw [hn] at h; cases h
    | some b =>
      rw [hn, Option.bind_some] at h
      cases b with
      | false => rw [if_neg (by simp)] at h; cases h
      | true =>
        rw [if_pos rfl] at h
        have hname : Nm (nameAt l i) := ⟨hs _ (rd_mem hi), k, hn⟩
        by_cases hi0 : (i : Int) > 0
        · rw [if_pos hi0, pred_id (by omega) (by omega), if_pos (by omega), if_pos (by omega)] at h
          by_cases hlt : Op.bytesLess (((rd_T39 l ((i - 1 : Nat) : Int)).f0).toList) (((rd_T39 l (i : Int)).f0).toList) = true
          · rw [if_pos hlt] at h
            by_cases hje : j = i
            · subst hje; exact ⟨hname, fun _ => hlt⟩
            · exact right_true hl hs k (i + 1) h j (by omega) hj
          · rw [if_neg hlt] at h; cases h
        · rw [if_neg hi0] at h
          by_cases hje : j = i
          · subst hje; exact ⟨hname, fun h0 => by omega⟩
          · exact right_true hl hs k (i + 1) h j (by omega) hj
/-! ### One variable set -/
section
end
end Go.Proofs.YtambnodgfhlpfaaDoor.P

/- Rows of variables of any names: the document's answer and the program's are one. -/
set_option linter.unusedVariables false
set_option linter.unusedSimpArgs false
namespace Go.Proofs.YtambnodgfhlpfaaDoor.P
open Go.RowKit Go.Proofs.YtambnodgfhlpfaaDoorW.PrintWords Go.Proofs.YtambnodgfhlpfaaDoorW.PrintLast Go.Proofs.YtambnodgfhlpfaaDoor.G Go.Proofs.YtambnodgfhlpfaaDoor.QA Go.Proofs.YtambnodgfhlpfaaDoor.A

/-! ### Names -/
theorem succ_big {i : Nat} (h : i ≤ 1000000000000000000) : wrap64 ((i : Int) + 1) = ((i + 1 : Nat) : Int) := by rw [wrap_id (by omega) (by omega)]; omega
theorem bt_getD (s : ByteArray) (i : Nat) (h : i < s.size) : (bytesOf s).getD i 0 = bt s (i : Int) := by
  rw [bt_get s i h, List.getD_eq_getElem?_getD, List.getElem?_eq_getElem (by rw [bytesOf_length]; exact h)]
  rfl
theorem oddB_iff (c : Int) : oddB c = true ↔ (c ≠ 95 ∧ (c < 48 ∨ 57 < c) ∧ (c < 65 ∨ 90 < c) ∧ (c < 97 ∨ 122 < c)) := by
  unfold oddB
  simp [and_assoc]
/-- One round of the document's test of a name. -/
theorem name_round (k : Nat) (s : ByteArray) (i : Nat) (hi : i < s.size) (hb : s.size ≤ 1000000000000000000) :
    dragomanref01_IsName.l0 (k + 1) s (i : Int) = if oddB (bt s i) = true then some false else if i = 0 ∧ 48 ≤ bt s i ∧ bt s i ≤ 57 then some false else dragomanref01_IsName.l0 k s ((i + 1 : Nat) : Int) := by
  rw [dragomanref01_IsName.l0, if_pos (by omega), if_pos (by omega), succ_big (by omega)]
  generalize hx : dragomanref01_IsName.l0 k s ((i + 1 : Nat) : Int) = x
  have ho := oddB_iff (bt s i)
  generalize bt s i = c at *
  by_cases hodd : oddB c = true
  · rw [if_pos hodd]
    have := ho.1 hodd
    repeat' split
    all_goals first | rfl | omega
  · rw [if_neg hodd]
    have hno := mt ho.2 hodd
    by_cases h0 : i = 0 ∧ 48 ≤ c ∧ c ≤ 57
    · rw [if_pos h0]
      repeat' split
      all_goals first | rfl | omega
    · rw [if_neg h0]
      repeat' split
      all_goals first | rfl | omega
theorem name_rest {s : ByteArray} (hb : s.size ≤ 1000000000000000000) : ∀ d i k, i + d = s.size → 0 < i → d < k → dragomanref01_IsName.l0 k s (i : Int) = some (!decide (0 ≤ idxOdd (bytesOf s) i d))
  | _, _, 0, _, _, hk => by omega
  | 0, i, k + 1, hi, h0, _ => by
    rw [dragomanref01_IsName.l0, if_neg (by omega)]
    have : decide ((s.size : Int) > 0) = true := decide_eq_true (by omega)
    rw [this]; rfl
  | d + 1, i, k + 1, hi, h0, hk => by
    rw [name_round k s i (by omega) hb, idxOdd, bt_getD s i (by omega)]
    by_cases ho : oddB (bt s i) = true
    · rw [if_pos ho, if_pos ho]
      have : decide (0 ≤ (i : Int)) = true := decide_eq_true (by omega)
      rw [this]; rfl
    · rw [if_neg ho, if_neg ho, if_neg (by omega)]
      exact name_rest hb d (i + 1) k (by omega) (by omega) (by omega)
theorem name_eq {s : ByteArray} (hb : s.size ≤ 1000000000000000000) {k : Nat} (hk : s.size + 1 < k) : dragomanref01_IsName.f k s = some (nameB s) := by
  obtain ⟨k, rfl⟩ : ∃ m, k = m + 1 := ⟨k - 1, by omega⟩
  unfold dragomanref01_IsName.f
  by_cases h0 : 0 < s.size
  · obtain ⟨d, hd⟩ : ∃ d, s.size = d + 1 := ⟨s.size - 1, by omega⟩
    have hr := name_round k s 0 h0 hb
    rw [show ((0 : Nat) : Int) = 0 from rfl] at hr
    rw [hr]
    have e := name_rest hb d 1 k (by omega) (by omega) (by omega)
    have hg := bt_getD s 0 h0
    rw [show ((0 : Nat) : Int) = 0 from rfl] at hg
    unfold nameB
    rw [hd, idxOdd, hg]
    have hp : decide (0 < d + 1) = true := decide_eq_true (by omega)
    rw [hp, Bool.true_and]
    by_cases ho : oddB (bt s 0) = true
    · rw [if_pos ho, if_pos ho]
      have : decide (0 ≤ ((0 : Nat) : Int)) = true := by decide
      rw [this]; simp
    · rw [if_neg ho, if_neg ho]
      by_cases hc : 48 ≤ bt s 0 ∧ bt s 0 ≤ 57
      · rw [if_pos ⟨rfl, hc⟩]
        have a1 : decide (bt s 0 < 48) = false := decide_eq_false (by omega)
        have a2 : decide (57 < bt s 0) = false := decide_eq_false (by omega)
        rw [a1, a2]; rfl
      · rw [if_neg (fun h => hc h.2)]
        have a : (decide (bt s 0 < 48) || decide (57 < bt s 0)) = true := by
          rw [Bool.or_eq_true, decide_eq_true_eq, decide_eq_true_eq]; omega
        rw [a, Bool.true_and]
        exact e
  · rw [dragomanref01_IsName.l0, if_neg (by omega)]
    unfold nameB
    have p1 : decide ((s.size : Int) > 0) = false := decide_eq_false (by omega)
    have p2 : decide (0 < s.size) = false := decide_eq_false (by omega)
    rw [p1, p2]; rfl
/-! ### The document's Find, Set, Same -/
theorem find_doc {l : Vars} (hl : l.length ≤ 100000) (hs : Sorted l) {t : ByteArray} : ∀ d i k, i + d = l.length → d < k → (∀ j, j < i → nameAt l j ≠ t) → dragomanref10_Find.l0 k l t (i : Int) = some (findV l t, isAt l t)
  | _, _, 0, _, hk, _ => by omega
  | 0, i, k + 1, hi, _, hne => by
    rw [dragomanref10_Find.l0, if_neg (by omega)]
    have hi2 : isAt l t = false := by
      cases hx : isAt l t with
      | false => rfl
      | true =>
        obtain ⟨hp, hn⟩ := isAt_some hx
        exact absurd hn (hne _ (by omega))
    unfold findV
    rw [hi2]; rfl
  | d + 1, i, k + 1, hi, hk, hne => by
    have hlt : i < l.length := by omega
    rw [dragomanref10_Find.l0, if_pos (by omega), if_pos (by omega), succ_id (by omega)]
    by_cases he : ((rd_T39 l (i : Int)).f0).toList = t.toList
    · rw [if_pos he]
      have ht : nameAt l i = t := toList_inj.1 he
      subst ht
      rw [find_here hs hlt, isAt_here hs hlt]
      rfl
    · rw [if_neg he]
      refine find_doc hl hs d (i + 1) k (by omega) (by omega) (fun j hj => ?_)
      by_cases hji : j = i
      · subst hji; exact fun hh => he (toList_inj.2 hh)
      · exact hne j (by omega)
end Go.Proofs.YtambnodgfhlpfaaDoor.P

/- The document's small methods: blanks, marks, errors; in plain words. -/
set_option linter.unusedVariables false
set_option linter.unusedSimpArgs false
namespace Go.Proofs.YtambnodgfhlpfaaDoor.P
open Go.RowKit Go.Proofs.YtambnodgfhlpfaaDoorW.PrintWords Go.Proofs.YtambnodgfhlpfaaDoorW.PrintLast Go.Proofs.YtambnodgfhlpfaaDoor.G Go.Proofs.YtambnodgfhlpfaaDoor.QA Go.Proofs.YtambnodgfhlpfaaDoor.A Go.Proofs.YtambnodgfhlpfaaDoor.QG

theorem spB_iff (c : Int) : spB c = true ↔ (c = 32 ∨ c = 9 ∨ c = 10) := by
  unfold spB
  simp [or_assoc]
section
variable {s : ByteArray} (hb : s.size ≤ 1000000) {l : List S39} {d b w : Int}
include hb
theorem blanks_l : ∀ n p k, p + n = s.size → n < k → dragomanref10_eval_blanks.l0 k s (p : Int) d l b w = some (s, (sk s p : Int), d, b, w)
  | _, _, 0, _, hk => by omega
  | 0, p, k + 1, hp, _ => by
    rw [dragomanref10_eval_blanks.l0, if_neg (by omega), sk_no s p (fun h => by omega)]
  | n + 1, p, k + 1, hp, hk => by
    have hlt : p < s.size := by omega
    rw [dragomanref10_eval_blanks.l0, if_pos (by omega), if_pos (by omega), succ_id (by omega), blanks_l n (p + 1) k (by omega) (by omega)]
    have hi := spB_iff (bt s p)
    by_cases hs : spB (bt s p) = true
    · rw [sk_yes s p hlt hs]
      have h3 := hi.1 hs
      by_cases h32 : bt s p = 32
      · rw [if_pos h32]
      · rw [if_neg h32]
        by_cases h9 : bt s p = 9
        · rw [if_pos h9]
        · rw [if_neg h9, if_pos (by omega)]
    · rw [sk_no s p (fun _ => by simpa using hs)]
      have h3 := mt hi.2 hs
      rw [if_neg (by omega), if_neg (by omega), if_neg (by omega)]
theorem blanks_f {p k : Nat} (hp : p ≤ s.size) (hk : s.size < k) : dragomanref10_eval_blanks.f k s (p : Int) d l b w = some (s, (sk s p : Int), d, b, w) := by
  unfold dragomanref10_eval_blanks.f
  exact blanks_l hb (s.size - p) p k (by omega) (by omega)
omit hb in
theorem has_here {q : Nat} {m : ByteArray} (h : q + m.size ≤ s.size) : ((s.extract q (q + m.size)).toList = m.toList) ↔ hasAt s q m = true := by
  rw [ByteArray.toList_eq, ByteArray.toList_eq, ext_list, hasAt_drop, List.isPrefixOf_iff_prefix, List.prefix_iff_eq_take, show q + m.size - q = m.size by omega, len_list]
  exact eq_comm
theorem is_ok {p k : Nat} {m : ByteArray} (hp : p ≤ s.size) (hm : m.size ≤ 100) (hk : s.size < k) : dragomanref10_eval_is.f k s (p : Int) d l 0 w m = some (hasAt s (sk s p) m, s, ((if hasAt s (sk s p) m = true then sk s p + m.size else sk s p : Nat) : Int), d, 0, w) := by
  have hq := sk_le s p hp
  unfold dragomanref10_eval_is.f
  rw [blanks_f hb hp hk, Option.bind_some]
  dsimp only
  rw [if_pos rfl, wrap_id (by omega) (by omega), wrap_id (by omega) (by omega)]
  by_cases hz : (s.size : Int) - (sk s p : Int) < (m.size : Int)
  · rw [if_pos hz]
    have hf : hasAt s (sk s p) m = false := by
      cases hx : hasAt s (sk s p) m with
      | false => rfl
      | true => have := hasAt_size hx; omega
    rw [hf]; rfl
  · rw [if_neg hz, if_pos (by omega), if_pos (by omega), if_pos (by omega)]
    have e1 : ((sk s p : Int)).toNat = sk s p := Int.toNat_natCast _
    have e2 : ((sk s p : Int) + (m.size : Int)).toNat = sk s p + m.size := by omega
    rw [e1, e2]
    have hh := has_here (s := s) (q := sk s p) (m := m) (by omega)
    cases hx : hasAt s (sk s p) m with
    | false => rw [if_neg (by rw [hh, hx]; decide)]; rfl
    | true => rw [if_pos (hh.2 hx)]; rfl
theorem is_bad {p k : Nat} {m : ByteArray} (hb0 : b ≠ 0) (hp : p ≤ s.size) (hk : s.size < k) : dragomanref10_eval_is.f k s (p : Int) d l b w m = some (false, s, (sk s p : Int), d, b, w) := by
  unfold dragomanref10_eval_is.f
  rw [blanks_f hb hp hk, Option.bind_some]
  dsimp only
  rw [if_neg hb0]
end
theorem is_yes {s : ByteArray} (hb : s.size ≤ 1000000) {l : List S39} {d w : Int} {p k : Nat} {m : ByteArray} (hp : p ≤ s.size) (hm : m.size ≤ 100) (hk : s.size < k) (h : hasAt s (sk s p) m = true) : dragomanref10_eval_is.f k s (p : Int) d l 0 w m = some (true, s, ((sk s p + m.size : Nat) : Int), d, 0, w) := by
  rw [is_ok hb hp hm hk, h]; rfl
theorem is_no {s : ByteArray} (hb : s.size ≤ 1000000) {l : List S39} {d w : Int} {p k : Nat} {m : ByteArray} (hp : p ≤ s.size) (hm : m.size ≤ 100) (hk : s.size < k) (h : hasAt s (sk s p) m = false) : dragomanref10_eval_is.f k s (p : Int) d l 0 w m = some (false, s, (sk s p : Int), d, 0, w) := by
  rw [is_ok hb hp hm hk, h]; rfl
theorem sk_sk (s : ByteArray) (p : Nat) : sk s (sk s p) = sk s p := by
  have : ∀ n p, s.size - p = n → sk s (sk s p) = sk s p := by
    intro n
    induction n with
    | zero =>
      intro p hp
      have e : sk s p = p := sk_no s p (fun h => by omega)
      rw [e, e]
    | succ n ih =>
      intro p hp
      by_cases hs : spB (bt s p) = true
      · rw [sk_yes s p (by omega) hs]
        exact ih (p + 1) (by omega)
      · have e : sk s p = p := sk_no s p (fun _ => by simpa using hs)
        rw [e, e]
  exact this _ p rfl
end Go.Proofs.YtambnodgfhlpfaaDoor.P

/- What the document's operand comes to: figures, or a name, as the program's word. -/
set_option linter.unusedVariables false
set_option linter.unusedSimpArgs false
namespace Go.Proofs.YtambnodgfhlpfaaDoor.P
open Go.RowKit Go.Proofs.YtambnodgfhlpfaaDoorW.PrintWords Go.Proofs.YtambnodgfhlpfaaDoorW.PrintLast Go.Proofs.YtambnodgfhlpfaaDoor.G Go.Proofs.YtambnodgfhlpfaaDoor.QA Go.Proofs.YtambnodgfhlpfaaDoor.A Go.Proofs.YtambnodgfhlpfaaDoor.QG

/-- What a tree comes to, if it is reckoned (live, and nothing went wrong ahead); else what went wrong stays. -/
def Evl (l : Vars) (live : Bool) (w0 : Int) (x : A.Node) (v w1 : Int) : Prop :=
  if live = true ∧ w0 = 0 then (match valueV l x with | .ok n => w1 = 0 ∧ v = n | .error e => w1 = e ∧ e ≠ 0) else w1 = w0
/-- A text and a row that the statement speaks of. -/
structure Fit (s : ByteArray) (l : Vars) : Prop where
  size : s.size ≤ 1000
  len : l.length ≤ 30
  sorted : Sorted l
  small : ∀ x, x ∈ l → x.f0.size + x.f1.size ≤ 200
theorem find_small {l : Vars} (h : ∀ x, x ∈ l → x.f0.size + x.f1.size ≤ 200) (t : ByteArray) : (findV l t).size ≤ 200 := by
  unfold findV
  cases hi : isAt l t with
  | false => rw [if_neg (by decide)]; decide
  | true =>
    obtain ⟨hp, hn⟩ := isAt_some hi
    rw [if_pos rfl, val_of hp]
    have := h _ (List.getElem_mem hp)
    omega

/-! ### Words -/
def digB (c : Int) : Bool := decide (48 ≤ c) && decide (c ≤ 57)
theorem digB_iff (c : Int) : digB c = true ↔ (48 ≤ c ∧ c ≤ 57) := by unfold digB; simp
theorem bt_data (s : ByteArray) (i : Nat) (h : i < s.size) : bt s (i : Int) = ((s.data.toList[i]'(by rw [len_list]; exact h)).toNat : Int) := by
  rw [bt_get s i h]
  unfold bytesOf
  rw [List.getElem_map]
theorem ext_succ (s : ByteArray) {p i : Nat} (hp : p ≤ i) (hi : i < s.size) : (s.extract p (i + 1)).data.toList = (s.extract p i).data.toList ++ [s.data.toList[i]'(by rw [len_list]; exact hi)] := by
  have hl : i - p < (s.data.toList.drop p).length := by rw [List.length_drop, len_list]; omega
  rw [ext_list, ext_list, show i + 1 - p = (i - p) + 1 by omega, List.take_succ_eq_append_getElem hl, List.getElem_drop]
  congr 3
  omega
theorem allDig_succ (s : ByteArray) {p i : Nat} (hp : p ≤ i) (hi : i < s.size) : allDig (s.extract p (i + 1)) = (allDig (s.extract p i) && digB (bt s i)) := by
  unfold allDig digB
  rw [ext_succ s hp hi, List.all_append, bt_data s i hi]
  generalize s.data.toList[i]'_ = x
  have e1 : decide ((48 : Int) ≤ (x.toNat : Int)) = decide (48 ≤ x.toNat) := by apply decide_eq_decide.2; omega
  have e2 : decide ((x.toNat : Int) ≤ 57) = decide (x.toNat ≤ 57) := by apply decide_eq_decide.2; omega
  rw [e1, e2, List.all_cons, List.all_nil, Bool.and_true]
theorem ext_nil (s : ByteArray) (p : Nat) : s.extract p p = ⟨#[]⟩ := by
  apply ByteArray.ext
  apply Array.toList_inj.1
  rw [ext_list, Nat.sub_self, List.take_zero]
theorem allDig_none (s : ByteArray) (p : Nat) : allDig (s.extract p p) = true := by rw [ext_nil]; rfl
theorem bt_ext (s : ByteArray) {p e : Nat} (hp : p < e) (he : e ≤ s.size) : bt (s.extract p e) 0 = bt s p := by
  have hz : 0 < (s.extract p e).size := by rw [ByteArray.size_extract]; omega
  have h1 := bt_data (s.extract p e) 0 hz
  rw [show ((0 : Nat) : Int) = 0 from rfl] at h1
  rw [h1, bt_data s p (by omega)]
  have : (s.extract p e).data.toList[0]'(by rw [len_list]; exact hz) = s.data.toList[p]'(by rw [len_list]; omega) := by
    simp only [ext_list, List.getElem_take, List.getElem_drop, Nat.add_zero]
  rw [this]
theorem name_dig (s : ByteArray) {p e : Nat} (hp : p < e) (he : e ≤ s.size) (hd : digB (bt s p) = true) : nameB (s.extract p e) = false := by
  unfold nameB
  rw [bt_ext s hp he]
  have := (digB_iff _).1 hd
  have a1 : decide (bt s p < 48) = false := decide_eq_false (by omega)
  have a2 : decide (57 < bt s p) = false := decide_eq_false (by omega)
  rw [a1, a2, Bool.or_false, Bool.and_false, Bool.false_and]
theorem dig_no (s : ByteArray) {p : Nat} (hd : digB (bt s p) = false) : ∀ n, p + n < s.size → allDig (s.extract p (p + n + 1)) = false
  | 0, hn => by rw [Nat.add_zero, allDig_succ s (Nat.le_refl _) (by omega), hd, Bool.and_false]
  | n + 1, hn => by rw [allDig_succ s (by omega) hn, show p + (n + 1) = p + n + 1 by omega, dig_no s hd n (by omega), Bool.false_and]
theorem name_none : nameB ⟨#[]⟩ = false := by decide
theorem whole_none : (wholeV ⟨#[]⟩).2.2 ≠ 0 := by rw [wholeV_eq]; decide
theorem wend_bounds (s : ByteArray) (f : Nat) : ∀ d i, i ≤ wend s f i d ∧ wend s f i d ≤ i + d
  | 0, i => by rw [wend]; omega
  | d + 1, i => by
    rw [wend]
    split
    · have := wend_bounds s f d (i + 1); omega
    · omega
theorem word_le (s : ByteArray) {p : Nat} (hp : p ≤ s.size) : p ≤ wordEnd s p ∧ wordEnd s p ≤ s.size := by
  have := wend_bounds s p (s.size - p) p
  unfold wordEnd
  omega

/-! ### The operand -/
section
variable {s : ByteArray} {l : Vars} (hf : Fit s l) {d w : Int} {live : Bool}
include hf
abbrev DRes := Option (Int × ByteArray × Int × Int × Int × Int)
/-- Figures are passed. -/
theorem op_figs {p E : Nat} {R : DRes} (hd : p < s.size → digB (bt s p) = true) (hj : ∀ k, 2000 ≤ k → dragomanref10_eval_operand.j1 k live (E : Int) s (p : Int) d l 0 w = R) :
    ∀ n i k, i + n = s.size → p ≤ i → allDig (s.extract p i) = true → wend s p i (s.size - i) = E → 2000 + n < k → dragomanref10_eval_operand.l0 k live (i : Int) s (p : Int) d l 0 w = R
  | _, _, 0, _, _, _, _, hk => by omega
  | 0, i, k + 1, hi, _, _, hE, hk => by
    rw [show s.size - i = 0 by omega, wend] at hE
    subst hE
    rw [dragomanref10_eval_operand.l0, if_neg (by omega)]
    exact hj k (by omega)
  | n + 1, i, k + 1, hi, hpi, ha, hE, hk => by
    have hlt : i < s.size := by omega
    have hz := hf.size
    have hn := name_dig s (by omega : p < i + 1) (by omega) (hd (by omega))
    have hs := allDig_succ s hpi hlt
    rw [dragomanref10_eval_operand.l0, if_pos (by omega), if_pos (by omega), succ_id (by omega)]
    by_cases hdi : digB (bt s i) = true
    · have h2 := (digB_iff _).1 hdi
      rw [hdi, ha] at hs
      rw [if_pos h2.1, if_pos h2.2]
      rw [wend_yes s p i hlt (by rw [hn, hs]; rfl)] at hE
      exact op_figs hd hj n (i + 1) k (by omega) (by omega) hs hE (by omega)
    · have h2 := mt (digB_iff _).2 hdi
      have h3 : digB (bt s i) = false := by simpa using hdi
      rw [h3, Bool.and_false] at hs
      rw [wend_no s p i (fun _ => by rw [hn, hs]; rfl)] at hE
      subst hE
      by_cases h48 : bt s i ≥ 48
      · rw [if_pos h48, if_neg (by omega)]; exact hj k (by omega)
      · rw [if_neg h48]; exact hj k (by omega)
/-- A name is passed. -/
theorem op_name {p E : Nat} {R : DRes} (hd : p < s.size → digB (bt s p) = false) (hj : ∀ k, 2000 ≤ k → dragomanref10_eval_operand.j3 k live (E : Int) s (p : Int) d l 0 w = R) :
    ∀ n i k, i + n = s.size → p ≤ i → wend s p i (s.size - i) = E → 2000 + n < k → dragomanref10_eval_operand.l1 k live (i : Int) s (p : Int) d l 0 w = R
  | _, _, 0, _, _, _, hk => by omega
  | 0, i, k + 1, hi, _, hE, hk => by
    rw [show s.size - i = 0 by omega, wend] at hE
    subst hE
    rw [dragomanref10_eval_operand.l1, if_neg (by omega)]
    exact hj k (by omega)
  | n + 1, i, k + 1, hi, hpi, hE, hk => by
    have hlt : i < s.size := by omega
    have hz := hf.size
    have ha := dig_no s (hd (by omega)) (i - p) (by omega)
    rw [show p + (i - p) + 1 = i + 1 by omega] at ha
    have hn : dragomanref01_IsName.f k (s.extract p (i + 1)) = some (nameB (s.extract p (i + 1))) := name_eq (by rw [ByteArray.size_extract]; omega) (by rw [ByteArray.size_extract]; omega)
    have e1 : ((p : Int)).toNat = p := Int.toNat_natCast _
    have e2 : (((i + 1 : Nat) : Int)).toNat = i + 1 := Int.toNat_natCast _
    rw [dragomanref10_eval_operand.l1, if_pos (by omega), if_pos (by omega), succ_id (by omega), if_pos (by omega), if_pos (by omega), e1, e2, hn, Option.bind_some]
    cases hb : nameB (s.extract p (i + 1)) with
    | true =>
      rw [if_pos rfl]
      rw [wend_yes s p i hlt (by rw [hb]; rfl)] at hE
      exact op_name hd hj n (i + 1) k (by omega) (by omega) hE (by omega)
    | false =>
      rw [if_neg (by decide)]
      rw [wend_no s p i (fun _ => by rw [hb, ha]; rfl)] at hE
      subst hE
      exact hj k (by omega)
omit hf in
theorem comes_f {p : Int} {b e : Int} : dragomanref10_eval_comes.f s p d l b w e live = some (s, p, d, b, if live = true ∧ w = 0 then e else w) := by
  unfold dragomanref10_eval_comes.f
  cases live with
  | false => rw [if_neg (by decide), if_neg (fun h => by simp at h)]
  | true =>
    rw [if_pos rfl]
    by_cases hw : w = 0
    · rw [if_pos hw, if_pos ⟨rfl, hw⟩]
    · rw [if_neg hw, if_neg (fun h => hw h.2)]
omit hf in
theorem fails_f {p : Int} {e : Int} : dragomanref10_eval_fails.f s p d l 0 w e = some (s, p, d, e, w) := by
  unfold dragomanref10_eval_fails.f
  rw [if_pos rfl]
/-- What a name comes to. -/
theorem op_found {p E k : Nat} (hp : p < E) (hE : E ≤ s.size) (hk : 2000 ≤ k) :
    ∃ v w', dragomanref10_eval_operand.j3 k live (E : Int) s (p : Int) d l 0 w = some (v, s, (E : Int), d, 0, w') ∧ Evl l live w (.name (s.extract p E)) v w' := by
  obtain ⟨k, rfl⟩ : ∃ m, k = m + 1 := ⟨k - 1, by omega⟩
  have hlen := hf.len
  have hF : dragomanref10_FindT.f k l (s.extract p E) = some (findV l (s.extract p E), isAt l (s.extract p E)) := find_doc (by omega) hf.sorted l.length 0 k (by omega) (by omega) (fun j hj => by omega)
  have hs := find_small hf.small (s.extract p E)
  have hW : dragomanref01_Whole.f k (findV l (s.extract p E)) = some (wholeV (findV l (s.extract p E))) := by rw [wholeV_eq]; exact rwhole_f _ k (by omega) (by omega)
  have e1 : ((p : Int)).toNat = p := Int.toNat_natCast _
  have e2 : ((E : Int)).toNat = E := Int.toNat_natCast _
  rw [dragomanref10_eval_operand.j3, if_neg (by omega), if_pos (by omega), if_pos (by omega), if_pos (by omega), e1, e2, hF, Option.bind_some]
  unfold Evl
  have hv : valueV l (.name (s.extract p E)) = valueOfV l (s.extract p E) := rfl
  rw [hv]
  unfold valueOfV
  dsimp only
  generalize findV l (s.extract p E) = f at hs hW ⊢
  by_cases hnil : f.toList = ([] : List UInt8)
  · have h0 : f.size = 0 := by rw [ByteArray.toList_eq] at hnil; rw [← len_list, hnil]; rfl
    rw [if_pos hnil, if_pos h0]
    refine ⟨_, _, rfl, ?_⟩
    split
    · rename_i h; exact ⟨h.2, rfl⟩
    · rfl
  · have h0 : ¬ f.size = 0 := fun h => hnil (by rw [ByteArray.toList_eq]; apply List.eq_nil_of_length_eq_zero; rw [len_list]; exact h)
    rw [if_neg hnil, if_neg h0, hW, Option.bind_some]
    by_cases hb : (wholeV f).2.2 = 0
    · rw [if_pos hb]
      by_cases hu : (wholeV f).2.1 < (f.size : Int)
      · have hval : (if (wholeV f).2.2 = 0 ∧ ¬ (wholeV f).2.1 < (f.size : Int) then (.ok (wholeV f).1 : Except Int Int) else .error 2) = .error 2 := if_neg (fun h => h.2 hu)
        rw [if_pos hu, comes_f, Option.bind_some, hval]
        refine ⟨_, _, rfl, ?_⟩
        by_cases hl : live = true ∧ w = 0
        · rw [if_pos hl]; exact ⟨if_pos hl, by decide⟩
        · rw [if_neg hl]; exact if_neg hl
      · have hval : (if (wholeV f).2.2 = 0 ∧ ¬ (wholeV f).2.1 < (f.size : Int) then (.ok (wholeV f).1 : Except Int Int) else .error 2) = .ok (wholeV f).1 := if_pos ⟨hb, hu⟩
        rw [if_neg hu, hval]
        refine ⟨_, _, rfl, ?_⟩
        split
        · rename_i h; exact ⟨h.2, rfl⟩
        · rfl
    · have hval : (if (wholeV f).2.2 = 0 ∧ ¬ (wholeV f).2.1 < (f.size : Int) then (.ok (wholeV f).1 : Except Int Int) else .error 2) = .error 2 := if_neg (fun h => hb h.1)
      rw [if_neg hb, comes_f, Option.bind_some, hval]
      refine ⟨_, _, rfl, ?_⟩
      by_cases hl : live = true ∧ w = 0
      · rw [if_pos hl]; exact ⟨if_pos hl, by decide⟩
      · rw [if_neg hl]; exact if_neg hl
/-- What stands there comes to the same. -/
theorem operand_f {p k : Nat} (hp : p ≤ s.size) (hk : 4000 ≤ k) :
    (nameB (s.extract p (wordEnd s p)) = true → ∃ v w', dragomanref10_eval_operand.f k s (p : Int) d l 0 w live = some (v, s, (wordEnd s p : Int), d, 0, w') ∧ Evl l live w (.name (s.extract p (wordEnd s p))) v w') ∧
    (nameB (s.extract p (wordEnd s p)) = false → (wholeV (s.extract p (wordEnd s p))).2.2 = 0 → dragomanref10_eval_operand.f k s (p : Int) d l 0 w live = some ((wholeV (s.extract p (wordEnd s p))).1, s, (wordEnd s p : Int), d, 0, w)) ∧
    (nameB (s.extract p (wordEnd s p)) = false → (wholeV (s.extract p (wordEnd s p))).2.2 ≠ 0 → ∃ v q, q ≤ s.size ∧ dragomanref10_eval_operand.f k s (p : Int) d l 0 w live = some (v, s, ((q : Nat) : Int), d, 9, w)) := by
  have hz := hf.size
  obtain ⟨hE1, hE2⟩ := word_le s hp
  have hwe : wend s p p (s.size - p) = wordEnd s p := rfl
  unfold dragomanref10_eval_operand.f
  rw [if_pos rfl]
  generalize wordEnd s p = E at *
  have e1 : ((p : Int)).toNat = p := Int.toNat_natCast _
  have e2 : ((E : Int)).toNat = E := Int.toNat_natCast _
  by_cases hfirst : p < s.size ∧ digB (bt s p) = true
  · -- figures
    obtain ⟨hps, hdig⟩ := hfirst
    have hEp : p < E := by
      rw [wend_yes s p p hps (by rw [allDig_succ s (Nat.le_refl _) hps, allDig_none, hdig]; simp)] at hwe
      have := (wend_bounds s p (s.size - (p + 1)) (p + 1)).1
      omega
    have hn := name_dig s hEp hE2 hdig
    have hj : ∀ k, 2000 ≤ k → dragomanref10_eval_operand.j1 k live (E : Int) s (p : Int) d l 0 w = (if (wholeV (s.extract p E)).2.2 = 0 then (some ((wholeV (s.extract p E)).1, s, (E : Int), d, 0, w) : DRes) else some ((wholeV (s.extract p E)).1, s, (E : Int), d, 9, w)) := by
      intro k hk
      obtain ⟨k, rfl⟩ : ∃ m, k = m + 1 := ⟨k - 1, by omega⟩
      have hW : dragomanref01_Whole.f k (s.extract p E) = some (wholeV (s.extract p E)) := by
        rw [wholeV_eq]; exact rwhole_f _ k (by rw [ByteArray.size_extract]; omega) (by rw [ByteArray.size_extract]; omega)
      rw [dragomanref10_eval_operand.j1, if_pos (by omega), if_pos (by omega), if_pos (by omega), if_pos (by omega), e1, e2, hW, Option.bind_some, fails_f, Option.bind_some]
    have h := op_figs hf (live := live) (d := d) (w := w) (fun _ => hdig) hj (s.size - p) p k (by omega) (Nat.le_refl _) (allDig_none s p) hwe (by omega)
    rw [h]
    refine ⟨fun h1 => (by rw [hn] at h1; cases h1), fun _ h2 => by rw [if_pos h2], fun _ h2 => ⟨_, E, hE2, by rw [if_neg h2]⟩⟩
  · -- no figure stands first
    have hnd : p < s.size → digB (bt s p) = false := fun h => by
      cases hx : digB (bt s p) with
      | false => rfl
      | true => exact absurd ⟨h, hx⟩ hfirst
    obtain ⟨k, rfl⟩ : ∃ m, k = m + 1 + 1 := ⟨k - 2, by omega⟩
    have hstart : dragomanref10_eval_operand.l0 (k + 1 + 1) live (p : Int) s (p : Int) d l 0 w = dragomanref10_eval_operand.l1 k live (p : Int) s (p : Int) d l 0 w := by
      have hj1 : dragomanref10_eval_operand.j1 (k + 1) live (p : Int) s (p : Int) d l 0 w = dragomanref10_eval_operand.l1 k live (p : Int) s (p : Int) d l 0 w := by
        rw [dragomanref10_eval_operand.j1, if_neg (by omega)]
      rw [dragomanref10_eval_operand.l0]
      by_cases hps : p < s.size
      · have h2 : ¬ (48 ≤ bt s p ∧ bt s p ≤ 57) := fun h => by have := (digB_iff _).2 h; rw [hnd hps] at this; cases this
        rw [if_pos (by omega), if_pos (by omega)]
        by_cases h48 : bt s p ≥ 48
        · rw [if_pos h48, if_neg (by omega), hj1]
        · rw [if_neg h48, hj1]
      · rw [if_neg (by omega), hj1]
    rw [hstart]
    by_cases hEp : E = p
    · subst hEp
      have hj : ∀ k, 2000 ≤ k → dragomanref10_eval_operand.j3 k live (E : Int) s (E : Int) d l 0 w = (some (0, s, (E : Int), d, 9, w) : DRes) := by
        intro k hk
        obtain ⟨k, rfl⟩ : ∃ m, k = m + 1 := ⟨k - 1, by omega⟩
        rw [dragomanref10_eval_operand.j3, if_pos rfl, fails_f]; rfl
      rw [op_name hf hnd hj (s.size - E) E k (by omega) (Nat.le_refl _) hwe (by omega), ext_nil]
      refine ⟨fun h1 => (by rw [name_none] at h1; cases h1), fun _ h2 => absurd h2 whole_none, fun _ _ => ⟨0, E, hE2, rfl⟩⟩
    · have hpE : p < E := by omega
      have hname : nameB (s.extract p E) = true := by
        -- all that was passed is a name
        have : ∀ n i, i + n = s.size → p ≤ i → (p < i → nameB (s.extract p i) = true) → wend s p i (s.size - i) = E → nameB (s.extract p E) = true := by
          intro n
          induction n with
          | zero =>
            intro i hi hpi hn hw
            rw [show s.size - i = 0 by omega, wend] at hw
            subst hw
            exact hn hpE
          | succ n ih =>
            intro i hi hpi hn hw
            have hlt : i < s.size := by omega
            have ha := dig_no s (hnd (by omega)) (i - p) (by omega)
            rw [show p + (i - p) + 1 = i + 1 by omega] at ha
            cases hb : nameB (s.extract p (i + 1)) with
            | true =>
              rw [wend_yes s p i hlt (by rw [hb]; rfl)] at hw
              exact ih (i + 1) (by omega) (by omega) (fun _ => hb) hw
            | false =>
              rw [wend_no s p i (fun _ => by rw [hb, ha]; rfl)] at hw
              subst hw
              exact hn hpE
        exact this (s.size - p) p (by omega) (Nat.le_refl _) (fun h => absurd h (Nat.lt_irrefl _)) hwe
      obtain ⟨v, w', hv, hev⟩ := op_found hf (live := live) (d := d) (w := w) hpE hE2 (Nat.le_refl 2000)
      have hj : ∀ k, 2000 ≤ k → dragomanref10_eval_operand.j3 k live (E : Int) s (p : Int) d l 0 w = (some (v, s, (E : Int), d, 0, w') : DRes) := by
        intro k hk
        exact leo_up (fun j => (dragomanref10_eval_operand.mono_l j).2.1 _ _ _ _ _ _ _ _) hv hk
      rw [op_name hf hnd hj (s.size - p) p k (by omega) (Nat.le_refl _) hwe (by omega)]
      refine ⟨fun _ => ⟨v, w', rfl, hev⟩, fun h1 => (by rw [hname] at h1; cases h1), fun h1 => (by rw [hname] at h1; cases h1)⟩
end
end Go.Proofs.YtambnodgfhlpfaaDoor.P

/- One round of each of the document's loops, mark by mark: printed by a program of the session's. No condition but those of each theorem. -/
set_option linter.unusedVariables false
set_option linter.unusedSimpArgs false
namespace Go.Proofs.YtambnodgfhlpfaaDoor.P
open Go.RowKit Go.Proofs.YtambnodgfhlpfaaDoorW.PrintWords Go.Proofs.YtambnodgfhlpfaaDoorW.PrintLast Go.Proofs.YtambnodgfhlpfaaDoor.G Go.Proofs.YtambnodgfhlpfaaDoor.QA Go.Proofs.YtambnodgfhlpfaaDoor.A Go.Proofs.YtambnodgfhlpfaaDoor.QG Go.Proofs.YtambnodgfhlpfaaDoor.QH Go.Proofs.YtambnodgfhlpfaaDoor.QI

/-- What two come to, all reckoned. -/
def val2 (o : Bop) (a b : Int) : Int :=
  match o with
  | .lor => yesV (a != 0 || b != 0)
  | .land => yesV (a != 0 && b != 0)
  | .eq => yesV (a == b)
  | .ne => yesV (a != b)
  | .le => yesV (decide (a ≤ b))
  | .ge => yesV (decide (b ≤ a))
  | .lt => yesV (decide (a < b))
  | .gt => yesV (decide (b < a))
  | .add => wrap64 (a + b)
  | .sub => wrap64 (a - b)
  | .mul => wrap64 (a * b)
  | .div => if b = 0 then 0 else wrap64 (Int.tdiv a b)
  | .mod => if b = 0 then 0 else Int.tmod a b
/-- What goes wrong by it. -/
def bad2 (o : Bop) (live : Bool) (b w : Int) : Int :=
  match o with
  | .div | .mod => if b = 0 then (if live = true ∧ w = 0 then 4 else w) else w
  | _ => w
/-- Is the second one reckoned? -/
def liveB (o : Bop) (live : Bool) (a : Int) : Bool :=
  match o with
  | .lor => live && (a == 0)
  | .land => live && (a != 0)
  | _ => live
theorem find_none {s : ByteArray} {α : Type} {f : α → ByteArray} {q : Nat} : ∀ {ms : List α}, find1 f s q ms = none → ∀ m, m ∈ ms → hasAt s q (f m) = false
  | [], _, m, hm => by cases hm
  | x :: r, h, m, hm => by
    rw [find1] at h
    cases hx : hasAt s q (f x) with
    | true => rw [hx, if_pos rfl] at h; cases h
    | false =>
      rw [hx, if_neg (by decide)] at h
      rcases List.mem_cons.1 hm with rfl | hm
      · exact hx
      · exact find_none h m hm
theorem one_f (b : Bool) : dragomanref10_one.f b = some (yesV b) := by cases b <;> rfl
section
variable [Inhabited OrG]
def LVf (n k : Nat) (s : ByteArray) (p d : Int) (l : List S39) (b w : Int) (live : Bool) : DRes :=
  match n with
  | 0 => dragomanref10_eval_or.f k s p d l b w live
  | 1 => dragomanref10_eval_and.f k s p d l b w live
  | 2 => dragomanref10_eval_equal.f k s p d l b w live
  | 3 => dragomanref10_eval_less.f k s p d l b w live
  | 4 => dragomanref10_eval_sum.f k s p d l b w live
  | 5 => dragomanref10_eval_product.f k s p d l b w live
  | _ => dragomanref10_eval_unary.f k s p d l b w live
def LPf (n k : Nat) (live : Bool) (v : Int) (s : ByteArray) (p d : Int) (l : List S39) (b w : Int) : DRes :=
  match n with
  | 0 => dragomanref10_eval_or.l0 k live v s p d l b w
  | 1 => dragomanref10_eval_and.l0 k live v s p d l b w
  | 2 => dragomanref10_eval_equal.l0 k live v s p d l b w
  | 3 => dragomanref10_eval_less.l0 k live v s p d l b w
  | 4 => dragomanref10_eval_sum.l0 k live v s p d l b w
  | _ => dragomanref10_eval_product.l0 k live v s p d l b w
theorem lev_eq {n k : Nat} (hn : n < 6) (s : ByteArray) (p d : Int) (l : List S39) (b w : Int) (live : Bool) : LVf n k s p d l b w live = (LVf (n + 1) k s p d l b w live).bind fun r => LPf n k live r.1 r.2.1 r.2.2.1 r.2.2.2.1 l r.2.2.2.2.1 r.2.2.2.2.2 := by
  match n, hn with
  | 0, _ => rfl
  | 1, _ => rfl
  | 2, _ => rfl
  | 3, _ => rfl
  | 4, _ => rfl
  | 5, _ => rfl
  | n + 6, h => omega
variable {s : ByteArray} (hb : s.size ≤ 1000000) {l : List S39} {d b w v : Int} {live : Bool} {p k : Nat} (hp : p ≤ s.size) (hk : s.size < k)
include hb hp hk
theorem bad_or (hb0 : b ≠ 0) : dragomanref10_eval_or.l0 (k + 1) live v s (p : Int) d l b w = some (v, s, (sk s p : Int), d, b, w) := by
  have h1 : ∀ m, dragomanref10_eval_is.f k s (p : Int) d l b w m = some (false, s, (sk s p : Int), d, b, w) := fun m => is_bad hb hb0 hp hk
  have h2 : ∀ m, dragomanref10_eval_is.f k s (sk s p : Int) d l b w m = some (false, s, (sk s p : Int), d, b, w) := fun m => by rw [is_bad hb hb0 (sk_le s p hp) hk, sk_sk]
  rw [dragomanref10_eval_or.l0, h1, Option.bind_some]
  dsimp only
  rw [if_neg (by decide)]
theorem none_or (h0 : hasAt s (sk s p) (⟨#[124, 124]⟩ : ByteArray) = false) : dragomanref10_eval_or.l0 (k + 1) live v s (p : Int) d l 0 w = some (v, s, (sk s p : Int), d, 0, w) := by
  have i1 : ∀ m : ByteArray, m.size ≤ 100 → hasAt s (sk s p) m = false → dragomanref10_eval_is.f k s (p : Int) d l 0 w m = some (false, s, (sk s p : Int), d, 0, w) := fun m hm h => is_no hb hp hm hk h
  have i2 : ∀ m : ByteArray, m.size ≤ 100 → hasAt s (sk s p) m = false → dragomanref10_eval_is.f k s (sk s p : Int) d l 0 w m = some (false, s, (sk s p : Int), d, 0, w) := fun m hm h => by have e := is_no hb (l := l) (d := d) (w := w) (sk_le s p hp) hm hk (by rw [sk_sk]; exact h); rw [sk_sk] at e; exact e
  rw [dragomanref10_eval_or.l0, i1 _ (by decide) h0, Option.bind_some]
  dsimp only
  rw [if_neg (by decide)]
theorem some_lor  (h0 : hasAt s (sk s p) (⟨#[124, 124]⟩ : ByteArray) = true) : dragomanref10_eval_or.l0 (k + 1) live v s (p : Int) d l 0 w = (dragomanref10_eval_and.f k s ((sk s p + (⟨#[124, 124]⟩ : ByteArray).size : Nat) : Int) d l 0 w (liveB .lor live v)).bind fun r => dragomanref10_eval_or.l0 k live (val2 .lor v r.1) r.2.1 r.2.2.1 r.2.2.2.1 l r.2.2.2.2.1 (bad2 .lor live r.1 r.2.2.2.2.2) := by
  have i1 : ∀ m : ByteArray, m.size ≤ 100 → hasAt s (sk s p) m = false → dragomanref10_eval_is.f k s (p : Int) d l 0 w m = some (false, s, (sk s p : Int), d, 0, w) := fun m hm h => is_no hb hp hm hk h
  have i2 : ∀ m : ByteArray, m.size ≤ 100 → hasAt s (sk s p) m = false → dragomanref10_eval_is.f k s (sk s p : Int) d l 0 w m = some (false, s, (sk s p : Int), d, 0, w) := fun m hm h => by have e := is_no hb (l := l) (d := d) (w := w) (sk_le s p hp) hm hk (by rw [sk_sk]; exact h); rw [sk_sk] at e; exact e
  rw [dragomanref10_eval_or.l0, is_yes hb hp (by decide) hk h0, Option.bind_some]
  dsimp only
  rw [if_pos rfl]
  cases live with
  | true =>
    rw [if_pos rfl]
    refine congrArg (Option.bind _) (funext fun r => ?_)
    rw [one_f, one_f, Option.bind_some, Option.bind_some]
    by_cases hv : v = 0
    · rw [if_pos hv, hv]; rfl
    · rw [if_neg hv]; have : (v != 0) = true := bne_iff_ne.2 hv; simp only [val2, bad2, this, Bool.true_or, Bool.true_and]
  | false =>
    rw [if_neg (by decide)]
    refine congrArg (Option.bind _) (funext fun r => ?_)
    rw [one_f, one_f, Option.bind_some, Option.bind_some]
    by_cases hv : v = 0
    · rw [if_pos hv, hv]; rfl
    · rw [if_neg hv]; have : (v != 0) = true := bne_iff_ne.2 hv; simp only [val2, bad2, this, Bool.true_or, Bool.true_and]
theorem bad_and (hb0 : b ≠ 0) : dragomanref10_eval_and.l0 (k + 1) live v s (p : Int) d l b w = some (v, s, (sk s p : Int), d, b, w) := by
  have h1 : ∀ m, dragomanref10_eval_is.f k s (p : Int) d l b w m = some (false, s, (sk s p : Int), d, b, w) := fun m => is_bad hb hb0 hp hk
  have h2 : ∀ m, dragomanref10_eval_is.f k s (sk s p : Int) d l b w m = some (false, s, (sk s p : Int), d, b, w) := fun m => by rw [is_bad hb hb0 (sk_le s p hp) hk, sk_sk]
  rw [dragomanref10_eval_and.l0, h1, Option.bind_some]
  dsimp only
  rw [if_neg (by decide)]
theorem none_and (h0 : hasAt s (sk s p) (⟨#[38, 38]⟩ : ByteArray) = false) : dragomanref10_eval_and.l0 (k + 1) live v s (p : Int) d l 0 w = some (v, s, (sk s p : Int), d, 0, w) := by
  have i1 : ∀ m : ByteArray, m.size ≤ 100 → hasAt s (sk s p) m = false → dragomanref10_eval_is.f k s (p : Int) d l 0 w m = some (false, s, (sk s p : Int), d, 0, w) := fun m hm h => is_no hb hp hm hk h
  have i2 : ∀ m : ByteArray, m.size ≤ 100 → hasAt s (sk s p) m = false → dragomanref10_eval_is.f k s (sk s p : Int) d l 0 w m = some (false, s, (sk s p : Int), d, 0, w) := fun m hm h => by have e := is_no hb (l := l) (d := d) (w := w) (sk_le s p hp) hm hk (by rw [sk_sk]; exact h); rw [sk_sk] at e; exact e
  rw [dragomanref10_eval_and.l0, i1 _ (by decide) h0, Option.bind_some]
  dsimp only
  rw [if_neg (by decide)]
theorem some_land  (h0 : hasAt s (sk s p) (⟨#[38, 38]⟩ : ByteArray) = true) : dragomanref10_eval_and.l0 (k + 1) live v s (p : Int) d l 0 w = (dragomanref10_eval_equal.f k s ((sk s p + (⟨#[38, 38]⟩ : ByteArray).size : Nat) : Int) d l 0 w (liveB .land live v)).bind fun r => dragomanref10_eval_and.l0 k live (val2 .land v r.1) r.2.1 r.2.2.1 r.2.2.2.1 l r.2.2.2.2.1 (bad2 .land live r.1 r.2.2.2.2.2) := by
  have i1 : ∀ m : ByteArray, m.size ≤ 100 → hasAt s (sk s p) m = false → dragomanref10_eval_is.f k s (p : Int) d l 0 w m = some (false, s, (sk s p : Int), d, 0, w) := fun m hm h => is_no hb hp hm hk h
  have i2 : ∀ m : ByteArray, m.size ≤ 100 → hasAt s (sk s p) m = false → dragomanref10_eval_is.f k s (sk s p : Int) d l 0 w m = some (false, s, (sk s p : Int), d, 0, w) := fun m hm h => by have e := is_no hb (l := l) (d := d) (w := w) (sk_le s p hp) hm hk (by rw [sk_sk]; exact h); rw [sk_sk] at e; exact e
  rw [dragomanref10_eval_and.l0, is_yes hb hp (by decide) hk h0, Option.bind_some]
  dsimp only
  rw [if_pos rfl]
  cases live with
  | true =>
    rw [if_pos rfl]
    refine congrArg (Option.bind _) (funext fun r => ?_)
    rw [one_f, one_f, Option.bind_some, Option.bind_some]
    by_cases hv : v = 0
    · rw [if_pos hv, hv]; rfl
    · rw [if_neg hv]; have : (v != 0) = true := bne_iff_ne.2 hv; simp only [val2, bad2, this, Bool.true_or, Bool.true_and]
  | false =>
    rw [if_neg (by decide)]
    refine congrArg (Option.bind _) (funext fun r => ?_)
    rw [one_f, one_f, Option.bind_some, Option.bind_some]
    by_cases hv : v = 0
    · rw [if_pos hv, hv]; rfl
    · rw [if_neg hv]; have : (v != 0) = true := bne_iff_ne.2 hv; simp only [val2, bad2, this, Bool.true_or, Bool.true_and]
theorem bad_equal (hb0 : b ≠ 0) : dragomanref10_eval_equal.l0 (k + 1) live v s (p : Int) d l b w = some (v, s, (sk s p : Int), d, b, w) := by
  have h1 : ∀ m, dragomanref10_eval_is.f k s (p : Int) d l b w m = some (false, s, (sk s p : Int), d, b, w) := fun m => is_bad hb hb0 hp hk
  have h2 : ∀ m, dragomanref10_eval_is.f k s (sk s p : Int) d l b w m = some (false, s, (sk s p : Int), d, b, w) := fun m => by rw [is_bad hb hb0 (sk_le s p hp) hk, sk_sk]
  rw [dragomanref10_eval_equal.l0, h1, Option.bind_some]
  dsimp only
  rw [if_neg (by decide)]
  rw [h2, Option.bind_some]
  dsimp only
  rw [if_neg (by decide)]
theorem none_equal (h0 : hasAt s (sk s p) (⟨#[61, 61]⟩ : ByteArray) = false) (h1 : hasAt s (sk s p) (⟨#[33, 61]⟩ : ByteArray) = false) : dragomanref10_eval_equal.l0 (k + 1) live v s (p : Int) d l 0 w = some (v, s, (sk s p : Int), d, 0, w) := by
  have i1 : ∀ m : ByteArray, m.size ≤ 100 → hasAt s (sk s p) m = false → dragomanref10_eval_is.f k s (p : Int) d l 0 w m = some (false, s, (sk s p : Int), d, 0, w) := fun m hm h => is_no hb hp hm hk h
  have i2 : ∀ m : ByteArray, m.size ≤ 100 → hasAt s (sk s p) m = false → dragomanref10_eval_is.f k s (sk s p : Int) d l 0 w m = some (false, s, (sk s p : Int), d, 0, w) := fun m hm h => by have e := is_no hb (l := l) (d := d) (w := w) (sk_le s p hp) hm hk (by rw [sk_sk]; exact h); rw [sk_sk] at e; exact e
  rw [dragomanref10_eval_equal.l0, i1 _ (by decide) h0, Option.bind_some]
  dsimp only
  rw [if_neg (by decide)]
  rw [i2 _ (by decide) h1, Option.bind_some]
  dsimp only
  rw [if_neg (by decide)]
theorem some_eq  (h0 : hasAt s (sk s p) (⟨#[61, 61]⟩ : ByteArray) = true) : dragomanref10_eval_equal.l0 (k + 1) live v s (p : Int) d l 0 w = (dragomanref10_eval_less.f k s ((sk s p + (⟨#[61, 61]⟩ : ByteArray).size : Nat) : Int) d l 0 w (liveB .eq live v)).bind fun r => dragomanref10_eval_equal.l0 k live (val2 .eq v r.1) r.2.1 r.2.2.1 r.2.2.2.1 l r.2.2.2.2.1 (bad2 .eq live r.1 r.2.2.2.2.2) := by
  have i1 : ∀ m : ByteArray, m.size ≤ 100 → hasAt s (sk s p) m = false → dragomanref10_eval_is.f k s (p : Int) d l 0 w m = some (false, s, (sk s p : Int), d, 0, w) := fun m hm h => is_no hb hp hm hk h
  have i2 : ∀ m : ByteArray, m.size ≤ 100 → hasAt s (sk s p) m = false → dragomanref10_eval_is.f k s (sk s p : Int) d l 0 w m = some (false, s, (sk s p : Int), d, 0, w) := fun m hm h => by have e := is_no hb (l := l) (d := d) (w := w) (sk_le s p hp) hm hk (by rw [sk_sk]; exact h); rw [sk_sk] at e; exact e
  rw [dragomanref10_eval_equal.l0, is_yes hb hp (by decide) hk h0, Option.bind_some]
  dsimp only
  rw [if_pos rfl]
  refine congrArg (Option.bind _) (funext fun r => ?_)
  rw [one_f, Option.bind_some]
  rfl
theorem some_ne (h0 : hasAt s (sk s p) (⟨#[61, 61]⟩ : ByteArray) = false) (h1 : hasAt s (sk s p) (⟨#[33, 61]⟩ : ByteArray) = true) : dragomanref10_eval_equal.l0 (k + 1) live v s (p : Int) d l 0 w = (dragomanref10_eval_less.f k s ((sk s p + (⟨#[33, 61]⟩ : ByteArray).size : Nat) : Int) d l 0 w (liveB .ne live v)).bind fun r => dragomanref10_eval_equal.l0 k live (val2 .ne v r.1) r.2.1 r.2.2.1 r.2.2.2.1 l r.2.2.2.2.1 (bad2 .ne live r.1 r.2.2.2.2.2) := by
  have i1 : ∀ m : ByteArray, m.size ≤ 100 → hasAt s (sk s p) m = false → dragomanref10_eval_is.f k s (p : Int) d l 0 w m = some (false, s, (sk s p : Int), d, 0, w) := fun m hm h => is_no hb hp hm hk h
  have i2 : ∀ m : ByteArray, m.size ≤ 100 → hasAt s (sk s p) m = false → dragomanref10_eval_is.f k s (sk s p : Int) d l 0 w m = some (false, s, (sk s p : Int), d, 0, w) := fun m hm h => by have e := is_no hb (l := l) (d := d) (w := w) (sk_le s p hp) hm hk (by rw [sk_sk]; exact h); rw [sk_sk] at e; exact e
  rw [dragomanref10_eval_equal.l0, i1 _ (by decide) h0, Option.bind_some]
  dsimp only
  rw [if_neg (by decide)]
  have iy : dragomanref10_eval_is.f k s (sk s p : Int) d l 0 w (⟨#[33, 61]⟩ : ByteArray) = some (true, s, ((sk s p + (⟨#[33, 61]⟩ : ByteArray).size : Nat) : Int), d, 0, w) := by have e := is_yes hb (l := l) (d := d) (w := w) (m := (⟨#[33, 61]⟩ : ByteArray)) (sk_le s p hp) (by decide) hk (by rw [sk_sk]; exact h1); rw [sk_sk] at e; exact e
  rw [iy, Option.bind_some]
  dsimp only
  rw [if_pos rfl]
  refine congrArg (Option.bind _) (funext fun r => ?_)
  rw [one_f, Option.bind_some]
  rfl
theorem bad_less (hb0 : b ≠ 0) : dragomanref10_eval_less.l0 (k + 1) live v s (p : Int) d l b w = some (v, s, (sk s p : Int), d, b, w) := by
  have h1 : ∀ m, dragomanref10_eval_is.f k s (p : Int) d l b w m = some (false, s, (sk s p : Int), d, b, w) := fun m => is_bad hb hb0 hp hk
  have h2 : ∀ m, dragomanref10_eval_is.f k s (sk s p : Int) d l b w m = some (false, s, (sk s p : Int), d, b, w) := fun m => by rw [is_bad hb hb0 (sk_le s p hp) hk, sk_sk]
  rw [dragomanref10_eval_less.l0, h1, Option.bind_some]
  dsimp only
  rw [if_neg (by decide)]
  rw [h2, Option.bind_some]
  dsimp only
  rw [if_neg (by decide)]
  rw [h2, Option.bind_some]
  dsimp only
  rw [if_neg (by decide)]
  rw [h2, Option.bind_some]
  dsimp only
  rw [if_neg (by decide)]
theorem none_less (h0 : hasAt s (sk s p) (⟨#[60, 61]⟩ : ByteArray) = false) (h1 : hasAt s (sk s p) (⟨#[62, 61]⟩ : ByteArray) = false) (h2 : hasAt s (sk s p) (⟨#[60]⟩ : ByteArray) = false) (h3 : hasAt s (sk s p) (⟨#[62]⟩ : ByteArray) = false) : dragomanref10_eval_less.l0 (k + 1) live v s (p : Int) d l 0 w = some (v, s, (sk s p : Int), d, 0, w) := by
  have i1 : ∀ m : ByteArray, m.size ≤ 100 → hasAt s (sk s p) m = false → dragomanref10_eval_is.f k s (p : Int) d l 0 w m = some (false, s, (sk s p : Int), d, 0, w) := fun m hm h => is_no hb hp hm hk h
  have i2 : ∀ m : ByteArray, m.size ≤ 100 → hasAt s (sk s p) m = false → dragomanref10_eval_is.f k s (sk s p : Int) d l 0 w m = some (false, s, (sk s p : Int), d, 0, w) := fun m hm h => by have e := is_no hb (l := l) (d := d) (w := w) (sk_le s p hp) hm hk (by rw [sk_sk]; exact h); rw [sk_sk] at e; exact e
  rw [dragomanref10_eval_less.l0, i1 _ (by decide) h0, Option.bind_some]
  dsimp only
  rw [if_neg (by decide)]
  rw [i2 _ (by decide) h1, Option.bind_some]
  dsimp only
  rw [if_neg (by decide)]
  rw [i2 _ (by decide) h2, Option.bind_some]
  dsimp only
  rw [if_neg (by decide)]
  rw [i2 _ (by decide) h3, Option.bind_some]
  dsimp only
  rw [if_neg (by decide)]
theorem some_le  (h0 : hasAt s (sk s p) (⟨#[60, 61]⟩ : ByteArray) = true) : dragomanref10_eval_less.l0 (k + 1) live v s (p : Int) d l 0 w = (dragomanref10_eval_sum.f k s ((sk s p + (⟨#[60, 61]⟩ : ByteArray).size : Nat) : Int) d l 0 w (liveB .le live v)).bind fun r => dragomanref10_eval_less.l0 k live (val2 .le v r.1) r.2.1 r.2.2.1 r.2.2.2.1 l r.2.2.2.2.1 (bad2 .le live r.1 r.2.2.2.2.2) := by
  have i1 : ∀ m : ByteArray, m.size ≤ 100 → hasAt s (sk s p) m = false → dragomanref10_eval_is.f k s (p : Int) d l 0 w m = some (false, s, (sk s p : Int), d, 0, w) := fun m hm h => is_no hb hp hm hk h
  have i2 : ∀ m : ByteArray, m.size ≤ 100 → hasAt s (sk s p) m = false → dragomanref10_eval_is.f k s (sk s p : Int) d l 0 w m = some (false, s, (sk s p : Int), d, 0, w) := fun m hm h => by have e := is_no hb (l := l) (d := d) (w := w) (sk_le s p hp) hm hk (by rw [sk_sk]; exact h); rw [sk_sk] at e; exact e
  rw [dragomanref10_eval_less.l0, is_yes hb hp (by decide) hk h0, Option.bind_some]
  dsimp only
  rw [if_pos rfl]
  refine congrArg (Option.bind _) (funext fun r => ?_)
  rw [one_f, Option.bind_some]
  rfl
theorem some_ge (h0 : hasAt s (sk s p) (⟨#[60, 61]⟩ : ByteArray) = false) (h1 : hasAt s (sk s p) (⟨#[62, 61]⟩ : ByteArray) = true) : dragomanref10_eval_less.l0 (k + 1) live v s (p : Int) d l 0 w = (dragomanref10_eval_sum.f k s ((sk s p + (⟨#[62, 61]⟩ : ByteArray).size : Nat) : Int) d l 0 w (liveB .ge live v)).bind fun r => dragomanref10_eval_less.l0 k live (val2 .ge v r.1) r.2.1 r.2.2.1 r.2.2.2.1 l r.2.2.2.2.1 (bad2 .ge live r.1 r.2.2.2.2.2) := by
  have i1 : ∀ m : ByteArray, m.size ≤ 100 → hasAt s (sk s p) m = false → dragomanref10_eval_is.f k s (p : Int) d l 0 w m = some (false, s, (sk s p : Int), d, 0, w) := fun m hm h => is_no hb hp hm hk h
  have i2 : ∀ m : ByteArray, m.size ≤ 100 → hasAt s (sk s p) m = false → dragomanref10_eval_is.f k s (sk s p : Int) d l 0 w m = some (false, s, (sk s p : Int), d, 0, w) := fun m hm h => by have e := is_no hb (l := l) (d := d) (w := w) (sk_le s p hp) hm hk (by rw [sk_sk]; exact h); rw [sk_sk] at e; exact e
  rw [dragomanref10_eval_less.l0, i1 _ (by decide) h0, Option.bind_some]
  dsimp only
  rw [if_neg (by decide)]
  have iy : dragomanref10_eval_is.f k s (sk s p : Int) d l 0 w (⟨#[62, 61]⟩ : ByteArray) = some (true, s, ((sk s p + (⟨#[62, 61]⟩ : ByteArray).size : Nat) : Int), d, 0, w) := by have e := is_yes hb (l := l) (d := d) (w := w) (m := (⟨#[62, 61]⟩ : ByteArray)) (sk_le s p hp) (by decide) hk (by rw [sk_sk]; exact h1); rw [sk_sk] at e; exact e
  rw [iy, Option.bind_some]
  dsimp only
  rw [if_pos rfl]
  refine congrArg (Option.bind _) (funext fun r => ?_)
  rw [one_f, Option.bind_some]
  rfl
theorem some_lt (h0 : hasAt s (sk s p) (⟨#[60, 61]⟩ : ByteArray) = false) (h1 : hasAt s (sk s p) (⟨#[62, 61]⟩ : ByteArray) = false) (h2 : hasAt s (sk s p) (⟨#[60]⟩ : ByteArray) = true) : dragomanref10_eval_less.l0 (k + 1) live v s (p : Int) d l 0 w = (dragomanref10_eval_sum.f k s ((sk s p + (⟨#[60]⟩ : ByteArray).size : Nat) : Int) d l 0 w (liveB .lt live v)).bind fun r => dragomanref10_eval_less.l0 k live (val2 .lt v r.1) r.2.1 r.2.2.1 r.2.2.2.1 l r.2.2.2.2.1 (bad2 .lt live r.1 r.2.2.2.2.2) := by
  have i1 : ∀ m : ByteArray, m.size ≤ 100 → hasAt s (sk s p) m = false → dragomanref10_eval_is.f k s (p : Int) d l 0 w m = some (false, s, (sk s p : Int), d, 0, w) := fun m hm h => is_no hb hp hm hk h
  have i2 : ∀ m : ByteArray, m.size ≤ 100 → hasAt s (sk s p) m = false → dragomanref10_eval_is.f k s (sk s p : Int) d l 0 w m = some (false, s, (sk s p : Int), d, 0, w) := fun m hm h => by have e := is_no hb (l := l) (d := d) (w := w) (sk_le s p hp) hm hk (by rw [sk_sk]; exact h); rw [sk_sk] at e; exact e
  rw [dragomanref10_eval_less.l0, i1 _ (by decide) h0, Option.bind_some]
  dsimp only
  rw [if_neg (by decide)]
  rw [i2 _ (by decide) h1, Option.bind_some]
  dsimp only
  rw [if_neg (by decide)]
  have iy : dragomanref10_eval_is.f k s (sk s p : Int) d l 0 w (⟨#[60]⟩ : ByteArray) = some (true, s, ((sk s p + (⟨#[60]⟩ : ByteArray).size : Nat) : Int), d, 0, w) := by have e := is_yes hb (l := l) (d := d) (w := w) (m := (⟨#[60]⟩ : ByteArray)) (sk_le s p hp) (by decide) hk (by rw [sk_sk]; exact h2); rw [sk_sk] at e; exact e
  rw [iy, Option.bind_some]
  dsimp only
  rw [if_pos rfl]
  refine congrArg (Option.bind _) (funext fun r => ?_)
  rw [one_f, Option.bind_some]
  rfl
theorem some_gt (h0 : hasAt s (sk s p) (⟨#[60, 61]⟩ : ByteArray) = false) (h1 : hasAt s (sk s p) (⟨#[62, 61]⟩ : ByteArray) = false) (h2 : hasAt s (sk s p) (⟨#[60]⟩ : ByteArray) = false) (h3 : hasAt s (sk s p) (⟨#[62]⟩ : ByteArray) = true) : dragomanref10_eval_less.l0 (k + 1) live v s (p : Int) d l 0 w = (dragomanref10_eval_sum.f k s ((sk s p + (⟨#[62]⟩ : ByteArray).size : Nat) : Int) d l 0 w (liveB .gt live v)).bind fun r => dragomanref10_eval_less.l0 k live (val2 .gt v r.1) r.2.1 r.2.2.1 r.2.2.2.1 l r.2.2.2.2.1 (bad2 .gt live r.1 r.2.2.2.2.2) := by
  have i1 : ∀ m : ByteArray, m.size ≤ 100 → hasAt s (sk s p) m = false → dragomanref10_eval_is.f k s (p : Int) d l 0 w m = some (false, s, (sk s p : Int), d, 0, w) := fun m hm h => is_no hb hp hm hk h
  have i2 : ∀ m : ByteArray, m.size ≤ 100 → hasAt s (sk s p) m = false → dragomanref10_eval_is.f k s (sk s p : Int) d l 0 w m = some (false, s, (sk s p : Int), d, 0, w) := fun m hm h => by have e := is_no hb (l := l) (d := d) (w := w) (sk_le s p hp) hm hk (by rw [sk_sk]; exact h); rw [sk_sk] at e; exact e
  rw [dragomanref10_eval_less.l0, i1 _ (by decide) h0, Option.bind_some]
  dsimp only
  rw [if_neg (by decide)]
  rw [i2 _ (by decide) h1, Option.bind_some]
  dsimp only
  rw [if_neg (by decide)]
  rw [i2 _ (by decide) h2, Option.bind_some]
  dsimp only
  rw [if_neg (by decide)]
  have iy : dragomanref10_eval_is.f k s (sk s p : Int) d l 0 w (⟨#[62]⟩ : ByteArray) = some (true, s, ((sk s p + (⟨#[62]⟩ : ByteArray).size : Nat) : Int), d, 0, w) := by have e := is_yes hb (l := l) (d := d) (w := w) (m := (⟨#[62]⟩ : ByteArray)) (sk_le s p hp) (by decide) hk (by rw [sk_sk]; exact h3); rw [sk_sk] at e; exact e
  rw [iy, Option.bind_some]
  dsimp only
  rw [if_pos rfl]
  refine congrArg (Option.bind _) (funext fun r => ?_)
  rw [one_f, Option.bind_some]
  rfl
theorem bad_sum (hb0 : b ≠ 0) : dragomanref10_eval_sum.l0 (k + 1) live v s (p : Int) d l b w = some (v, s, (sk s p : Int), d, b, w) := by
  have h1 : ∀ m, dragomanref10_eval_is.f k s (p : Int) d l b w m = some (false, s, (sk s p : Int), d, b, w) := fun m => is_bad hb hb0 hp hk
  have h2 : ∀ m, dragomanref10_eval_is.f k s (sk s p : Int) d l b w m = some (false, s, (sk s p : Int), d, b, w) := fun m => by rw [is_bad hb hb0 (sk_le s p hp) hk, sk_sk]
  rw [dragomanref10_eval_sum.l0, h1, Option.bind_some]
  dsimp only
  rw [if_neg (by decide)]
  rw [h2, Option.bind_some]
  dsimp only
  rw [if_neg (by decide)]
theorem none_sum (h0 : hasAt s (sk s p) (⟨#[43]⟩ : ByteArray) = false) (h1 : hasAt s (sk s p) (⟨#[45]⟩ : ByteArray) = false) : dragomanref10_eval_sum.l0 (k + 1) live v s (p : Int) d l 0 w = some (v, s, (sk s p : Int), d, 0, w) := by
  have i1 : ∀ m : ByteArray, m.size ≤ 100 → hasAt s (sk s p) m = false → dragomanref10_eval_is.f k s (p : Int) d l 0 w m = some (false, s, (sk s p : Int), d, 0, w) := fun m hm h => is_no hb hp hm hk h
  have i2 : ∀ m : ByteArray, m.size ≤ 100 → hasAt s (sk s p) m = false → dragomanref10_eval_is.f k s (sk s p : Int) d l 0 w m = some (false, s, (sk s p : Int), d, 0, w) := fun m hm h => by have e := is_no hb (l := l) (d := d) (w := w) (sk_le s p hp) hm hk (by rw [sk_sk]; exact h); rw [sk_sk] at e; exact e
  rw [dragomanref10_eval_sum.l0, i1 _ (by decide) h0, Option.bind_some]
  dsimp only
  rw [if_neg (by decide)]
  rw [i2 _ (by decide) h1, Option.bind_some]
  dsimp only
  rw [if_neg (by decide)]
theorem some_add  (h0 : hasAt s (sk s p) (⟨#[43]⟩ : ByteArray) = true) : dragomanref10_eval_sum.l0 (k + 1) live v s (p : Int) d l 0 w = (dragomanref10_eval_product.f k s ((sk s p + (⟨#[43]⟩ : ByteArray).size : Nat) : Int) d l 0 w (liveB .add live v)).bind fun r => dragomanref10_eval_sum.l0 k live (val2 .add v r.1) r.2.1 r.2.2.1 r.2.2.2.1 l r.2.2.2.2.1 (bad2 .add live r.1 r.2.2.2.2.2) := by
  have i1 : ∀ m : ByteArray, m.size ≤ 100 → hasAt s (sk s p) m = false → dragomanref10_eval_is.f k s (p : Int) d l 0 w m = some (false, s, (sk s p : Int), d, 0, w) := fun m hm h => is_no hb hp hm hk h
  have i2 : ∀ m : ByteArray, m.size ≤ 100 → hasAt s (sk s p) m = false → dragomanref10_eval_is.f k s (sk s p : Int) d l 0 w m = some (false, s, (sk s p : Int), d, 0, w) := fun m hm h => by have e := is_no hb (l := l) (d := d) (w := w) (sk_le s p hp) hm hk (by rw [sk_sk]; exact h); rw [sk_sk] at e; exact e
  rw [dragomanref10_eval_sum.l0, is_yes hb hp (by decide) hk h0, Option.bind_some]
  dsimp only
  rw [if_pos rfl]
  rfl
theorem some_sub (h0 : hasAt s (sk s p) (⟨#[43]⟩ : ByteArray) = false) (h1 : hasAt s (sk s p) (⟨#[45]⟩ : ByteArray) = true) : dragomanref10_eval_sum.l0 (k + 1) live v s (p : Int) d l 0 w = (dragomanref10_eval_product.f k s ((sk s p + (⟨#[45]⟩ : ByteArray).size : Nat) : Int) d l 0 w (liveB .sub live v)).bind fun r => dragomanref10_eval_sum.l0 k live (val2 .sub v r.1) r.2.1 r.2.2.1 r.2.2.2.1 l r.2.2.2.2.1 (bad2 .sub live r.1 r.2.2.2.2.2) := by
  have i1 : ∀ m : ByteArray, m.size ≤ 100 → hasAt s (sk s p) m = false → dragomanref10_eval_is.f k s (p : Int) d l 0 w m = some (false, s, (sk s p : Int), d, 0, w) := fun m hm h => is_no hb hp hm hk h
  have i2 : ∀ m : ByteArray, m.size ≤ 100 → hasAt s (sk s p) m = false → dragomanref10_eval_is.f k s (sk s p : Int) d l 0 w m = some (false, s, (sk s p : Int), d, 0, w) := fun m hm h => by have e := is_no hb (l := l) (d := d) (w := w) (sk_le s p hp) hm hk (by rw [sk_sk]; exact h); rw [sk_sk] at e; exact e
  rw [dragomanref10_eval_sum.l0, i1 _ (by decide) h0, Option.bind_some]
  dsimp only
  rw [if_neg (by decide)]
  have iy : dragomanref10_eval_is.f k s (sk s p : Int) d l 0 w (⟨#[45]⟩ : ByteArray) = some (true, s, ((sk s p + (⟨#[45]⟩ : ByteArray).size : Nat) : Int), d, 0, w) := by have e := is_yes hb (l := l) (d := d) (w := w) (m := (⟨#[45]⟩ : ByteArray)) (sk_le s p hp) (by decide) hk (by rw [sk_sk]; exact h1); rw [sk_sk] at e; exact e
  rw [iy, Option.bind_some]
  dsimp only
  rw [if_pos rfl]
  rfl
theorem bad_product (hb0 : b ≠ 0) : dragomanref10_eval_product.l0 (k + 1) live v s (p : Int) d l b w = some (v, s, (sk s p : Int), d, b, w) := by
  have h1 : ∀ m, dragomanref10_eval_is.f k s (p : Int) d l b w m = some (false, s, (sk s p : Int), d, b, w) := fun m => is_bad hb hb0 hp hk
  have h2 : ∀ m, dragomanref10_eval_is.f k s (sk s p : Int) d l b w m = some (false, s, (sk s p : Int), d, b, w) := fun m => by rw [is_bad hb hb0 (sk_le s p hp) hk, sk_sk]
  rw [dragomanref10_eval_product.l0, h1, Option.bind_some]
  dsimp only
  rw [if_neg (by decide)]
  rw [h2, Option.bind_some]
  dsimp only
  rw [if_neg (by decide)]
  rw [h2, Option.bind_some]
  dsimp only
  rw [if_neg (by decide)]
theorem none_product (h0 : hasAt s (sk s p) (⟨#[42]⟩ : ByteArray) = false) (h1 : hasAt s (sk s p) (⟨#[47]⟩ : ByteArray) = false) (h2 : hasAt s (sk s p) (⟨#[37]⟩ : ByteArray) = false) : dragomanref10_eval_product.l0 (k + 1) live v s (p : Int) d l 0 w = some (v, s, (sk s p : Int), d, 0, w) := by
  have i1 : ∀ m : ByteArray, m.size ≤ 100 → hasAt s (sk s p) m = false → dragomanref10_eval_is.f k s (p : Int) d l 0 w m = some (false, s, (sk s p : Int), d, 0, w) := fun m hm h => is_no hb hp hm hk h
  have i2 : ∀ m : ByteArray, m.size ≤ 100 → hasAt s (sk s p) m = false → dragomanref10_eval_is.f k s (sk s p : Int) d l 0 w m = some (false, s, (sk s p : Int), d, 0, w) := fun m hm h => by have e := is_no hb (l := l) (d := d) (w := w) (sk_le s p hp) hm hk (by rw [sk_sk]; exact h); rw [sk_sk] at e; exact e
  rw [dragomanref10_eval_product.l0, i1 _ (by decide) h0, Option.bind_some]
  dsimp only
  rw [if_neg (by decide)]
  rw [i2 _ (by decide) h1, Option.bind_some]
  dsimp only
  rw [if_neg (by decide)]
  rw [i2 _ (by decide) h2, Option.bind_some]
  dsimp only
  rw [if_neg (by decide)]
theorem some_mul  (h0 : hasAt s (sk s p) (⟨#[42]⟩ : ByteArray) = true) : dragomanref10_eval_product.l0 (k + 1 + 1) live v s (p : Int) d l 0 w = (dragomanref10_eval_unary.f k s ((sk s p + (⟨#[42]⟩ : ByteArray).size : Nat) : Int) d l 0 w (liveB .mul live v)).bind fun r => dragomanref10_eval_product.l0 k live (val2 .mul v r.1) r.2.1 r.2.2.1 r.2.2.2.1 l r.2.2.2.2.1 (bad2 .mul live r.1 r.2.2.2.2.2) := by
  have hk : s.size < k + 1 := Nat.lt_succ_of_lt hk
  have i1 : ∀ m : ByteArray, m.size ≤ 100 → hasAt s (sk s p) m = false → dragomanref10_eval_is.f (k + 1) s (p : Int) d l 0 w m = some (false, s, (sk s p : Int), d, 0, w) := fun m hm h => is_no hb hp hm hk h
  have i2 : ∀ m : ByteArray, m.size ≤ 100 → hasAt s (sk s p) m = false → dragomanref10_eval_is.f (k + 1) s (sk s p : Int) d l 0 w m = some (false, s, (sk s p : Int), d, 0, w) := fun m hm h => by have e := is_no hb (l := l) (d := d) (w := w) (sk_le s p hp) hm hk (by rw [sk_sk]; exact h); rw [sk_sk] at e; exact e
  rw [dragomanref10_eval_product.l0, is_yes hb hp (by decide) hk h0, Option.bind_some]
  dsimp only
  rw [if_pos rfl]
  rw [dragomanref10_eval_product.j1]
  refine congrArg (Option.bind _) (funext fun r => ?_)
  rw [if_pos rfl]
  rfl
theorem some_div (h0 : hasAt s (sk s p) (⟨#[42]⟩ : ByteArray) = false) (h1 : hasAt s (sk s p) (⟨#[47]⟩ : ByteArray) = true) : dragomanref10_eval_product.l0 (k + 1 + 1) live v s (p : Int) d l 0 w = (dragomanref10_eval_unary.f k s ((sk s p + (⟨#[47]⟩ : ByteArray).size : Nat) : Int) d l 0 w (liveB .div live v)).bind fun r => dragomanref10_eval_product.l0 k live (val2 .div v r.1) r.2.1 r.2.2.1 r.2.2.2.1 l r.2.2.2.2.1 (bad2 .div live r.1 r.2.2.2.2.2) := by
  have hk : s.size < k + 1 := Nat.lt_succ_of_lt hk
  have i1 : ∀ m : ByteArray, m.size ≤ 100 → hasAt s (sk s p) m = false → dragomanref10_eval_is.f (k + 1) s (p : Int) d l 0 w m = some (false, s, (sk s p : Int), d, 0, w) := fun m hm h => is_no hb hp hm hk h
  have i2 : ∀ m : ByteArray, m.size ≤ 100 → hasAt s (sk s p) m = false → dragomanref10_eval_is.f (k + 1) s (sk s p : Int) d l 0 w m = some (false, s, (sk s p : Int), d, 0, w) := fun m hm h => by have e := is_no hb (l := l) (d := d) (w := w) (sk_le s p hp) hm hk (by rw [sk_sk]; exact h); rw [sk_sk] at e; exact e
  rw [dragomanref10_eval_product.l0, i1 _ (by decide) h0, Option.bind_some]
  dsimp only
  rw [if_neg (by decide)]
  have iy : dragomanref10_eval_is.f (k + 1) s (sk s p : Int) d l 0 w (⟨#[47]⟩ : ByteArray) = some (true, s, ((sk s p + (⟨#[47]⟩ : ByteArray).size : Nat) : Int), d, 0, w) := by have e := is_yes hb (l := l) (d := d) (w := w) (m := (⟨#[47]⟩ : ByteArray)) (sk_le s p hp) (by decide) hk (by rw [sk_sk]; exact h1); rw [sk_sk] at e; exact e
  rw [iy, Option.bind_some]
  dsimp only
  rw [if_pos rfl]
  rw [dragomanref10_eval_product.j1]
  refine congrArg (Option.bind _) (funext fun r => ?_)
  rw [if_neg (by decide)]
  by_cases h0 : r.1 = 0
  · rw [if_pos h0, comes_f, Option.bind_some]
    simp only [val2, bad2, h0, if_true]
  · rw [if_neg h0, if_pos rfl]
    simp only [val2, bad2, h0, if_false]
theorem some_mod (h0 : hasAt s (sk s p) (⟨#[42]⟩ : ByteArray) = false) (h1 : hasAt s (sk s p) (⟨#[47]⟩ : ByteArray) = false) (h2 : hasAt s (sk s p) (⟨#[37]⟩ : ByteArray) = true) : dragomanref10_eval_product.l0 (k + 1 + 1) live v s (p : Int) d l 0 w = (dragomanref10_eval_unary.f k s ((sk s p + (⟨#[37]⟩ : ByteArray).size : Nat) : Int) d l 0 w (liveB .mod live v)).bind fun r => dragomanref10_eval_product.l0 k live (val2 .mod v r.1) r.2.1 r.2.2.1 r.2.2.2.1 l r.2.2.2.2.1 (bad2 .mod live r.1 r.2.2.2.2.2) := by
  have hk : s.size < k + 1 := Nat.lt_succ_of_lt hk
  have i1 : ∀ m : ByteArray, m.size ≤ 100 → hasAt s (sk s p) m = false → dragomanref10_eval_is.f (k + 1) s (p : Int) d l 0 w m = some (false, s, (sk s p : Int), d, 0, w) := fun m hm h => is_no hb hp hm hk h
  have i2 : ∀ m : ByteArray, m.size ≤ 100 → hasAt s (sk s p) m = false → dragomanref10_eval_is.f (k + 1) s (sk s p : Int) d l 0 w m = some (false, s, (sk s p : Int), d, 0, w) := fun m hm h => by have e := is_no hb (l := l) (d := d) (w := w) (sk_le s p hp) hm hk (by rw [sk_sk]; exact h); rw [sk_sk] at e; exact e
  rw [dragomanref10_eval_product.l0, i1 _ (by decide) h0, Option.bind_some]
  dsimp only
  rw [if_neg (by decide)]
  rw [i2 _ (by decide) h1, Option.bind_some]
  dsimp only
  rw [if_neg (by decide)]
  have iy : dragomanref10_eval_is.f (k + 1) s (sk s p : Int) d l 0 w (⟨#[37]⟩ : ByteArray) = some (true, s, ((sk s p + (⟨#[37]⟩ : ByteArray).size : Nat) : Int), d, 0, w) := by have e := is_yes hb (l := l) (d := d) (w := w) (m := (⟨#[37]⟩ : ByteArray)) (sk_le s p hp) (by decide) hk (by rw [sk_sk]; exact h2); rw [sk_sk] at e; exact e
  rw [iy, Option.bind_some]
  dsimp only
  rw [if_pos rfl]
  rw [dragomanref10_eval_product.j1]
  refine congrArg (Option.bind _) (funext fun r => ?_)
  rw [if_neg (by decide)]
  by_cases h0 : r.1 = 0
  · rw [if_pos h0, comes_f, Option.bind_some]
    simp only [val2, bad2, h0, if_true]
  · rw [if_neg h0, if_neg (by decide)]
    simp only [val2, bad2, h0, if_false]
theorem loop_bad {n : Nat} (hn : n < 6) (hb0 : b ≠ 0) : LPf n (k + 1) live v s (p : Int) d l b w = some (v, s, (sk s p : Int), d, b, w) := by
  match n, hn with
  | 0, _ => exact bad_or hb hp hk hb0
  | 1, _ => exact bad_and hb hp hk hb0
  | 2, _ => exact bad_equal hb hp hk hb0
  | 3, _ => exact bad_less hb hp hk hb0
  | 4, _ => exact bad_sum hb hp hk hb0
  | 5, _ => exact bad_product hb hp hk hb0
  | n + 6, h => omega
theorem loop_none {n : Nat} (hn : n < 6) (h : find1 Bop.str s (sk s p) (opsOf n) = none) : LPf n (k + 1) live v s (p : Int) d l 0 w = some (v, s, (sk s p : Int), d, 0, w) := by
  have hh := find_none h
  match n, hn with
  | 0, _ => exact none_or hb hp hk (hh .lor (by decide))
  | 1, _ => exact none_and hb hp hk (hh .land (by decide))
  | 2, _ => exact none_equal hb hp hk (hh .eq (by decide)) (hh .ne (by decide))
  | 3, _ => exact none_less hb hp hk (hh .le (by decide)) (hh .ge (by decide)) (hh .lt (by decide)) (hh .gt (by decide))
  | 4, _ => exact none_sum hb hp hk (hh .add (by decide)) (hh .sub (by decide))
  | 5, _ => exact none_product hb hp hk (hh .mul (by decide)) (hh .div (by decide)) (hh .mod (by decide))
  | n + 6, h => omega
/-- One round: the second one is read, then the loop goes on. -/
theorem loop_some {n : Nat} (hn : n < 6) {o : Bop} (h : find1 Bop.str s (sk s p) (opsOf n) = some o) : ∃ k1, k ≤ k1 ∧ LPf n (k + 1 + 1) live v s (p : Int) d l 0 w = (LVf (n + 1) k1 s ((sk s p + o.str.size : Nat) : Int) d l 0 w (liveB o live v)).bind fun r => LPf n k1 live (val2 o v r.1) r.2.1 r.2.2.1 r.2.2.2.1 l r.2.2.2.2.1 (bad2 o live r.1 r.2.2.2.2.2) := by
  have hk2 : s.size < k + 1 := Nat.lt_succ_of_lt hk
  match n, hn with
  | 0, _ =>
    change find1 Bop.str s (sk s p) [.lor] = some o at h
    rw [find1] at h
    cases e0 : hasAt s (sk s p) (Bop.str .lor) with
    | true => rw [e0, if_pos rfl] at h; cases h; exact ⟨k + 1, by omega, some_lor hb hp hk2 e0⟩
    | false =>
      rw [e0, if_neg (by decide)] at h
      rw [find1] at h; cases h
  | 1, _ =>
    change find1 Bop.str s (sk s p) [.land] = some o at h
    rw [find1] at h
    cases e0 : hasAt s (sk s p) (Bop.str .land) with
    | true => rw [e0, if_pos rfl] at h; cases h; exact ⟨k + 1, by omega, some_land hb hp hk2 e0⟩
    | false =>
      rw [e0, if_neg (by decide)] at h
      rw [find1] at h; cases h
  | 2, _ =>
    change find1 Bop.str s (sk s p) [.eq, .ne] = some o at h
    rw [find1] at h
    cases e0 : hasAt s (sk s p) (Bop.str .eq) with
    | true => rw [e0, if_pos rfl] at h; cases h; exact ⟨k + 1, by omega, some_eq hb hp hk2 e0⟩
    | false =>
      rw [e0, if_neg (by decide)] at h
      rw [find1] at h
      cases e1 : hasAt s (sk s p) (Bop.str .ne) with
      | true => rw [e1, if_pos rfl] at h; cases h; exact ⟨k + 1, by omega, some_ne hb hp hk2 e0 e1⟩
      | false =>
        rw [e1, if_neg (by decide)] at h
        rw [find1] at h; cases h
  | 3, _ =>
    change find1 Bop.str s (sk s p) [.le, .ge, .lt, .gt] = some o at h
    rw [find1] at h
    cases e0 : hasAt s (sk s p) (Bop.str .le) with
    | true => rw [e0, if_pos rfl] at h; cases h; exact ⟨k + 1, by omega, some_le hb hp hk2 e0⟩
    | false =>
      rw [e0, if_neg (by decide)] at h
      rw [find1] at h
      cases e1 : hasAt s (sk s p) (Bop.str .ge) with
      | true => rw [e1, if_pos rfl] at h; cases h; exact ⟨k + 1, by omega, some_ge hb hp hk2 e0 e1⟩
      | false =>
        rw [e1, if_neg (by decide)] at h
        rw [find1] at h
        cases e2 : hasAt s (sk s p) (Bop.str .lt) with
        | true => rw [e2, if_pos rfl] at h; cases h; exact ⟨k + 1, by omega, some_lt hb hp hk2 e0 e1 e2⟩
        | false =>
          rw [e2, if_neg (by decide)] at h
          rw [find1] at h
          cases e3 : hasAt s (sk s p) (Bop.str .gt) with
          | true => rw [e3, if_pos rfl] at h; cases h; exact ⟨k + 1, by omega, some_gt hb hp hk2 e0 e1 e2 e3⟩
          | false =>
            rw [e3, if_neg (by decide)] at h
            rw [find1] at h; cases h
  | 4, _ =>
    change find1 Bop.str s (sk s p) [.add, .sub] = some o at h
    rw [find1] at h
    cases e0 : hasAt s (sk s p) (Bop.str .add) with
    | true => rw [e0, if_pos rfl] at h; cases h; exact ⟨k + 1, by omega, some_add hb hp hk2 e0⟩
    | false =>
      rw [e0, if_neg (by decide)] at h
      rw [find1] at h
      cases e1 : hasAt s (sk s p) (Bop.str .sub) with
      | true => rw [e1, if_pos rfl] at h; cases h; exact ⟨k + 1, by omega, some_sub hb hp hk2 e0 e1⟩
      | false =>
        rw [e1, if_neg (by decide)] at h
        rw [find1] at h; cases h
  | 5, _ =>
    change find1 Bop.str s (sk s p) [.mul, .div, .mod] = some o at h
    rw [find1] at h
    cases e0 : hasAt s (sk s p) (Bop.str .mul) with
    | true => rw [e0, if_pos rfl] at h; cases h; exact ⟨k, by omega, some_mul hb hp hk e0⟩
    | false =>
      rw [e0, if_neg (by decide)] at h
      rw [find1] at h
      cases e1 : hasAt s (sk s p) (Bop.str .div) with
      | true => rw [e1, if_pos rfl] at h; cases h; exact ⟨k, by omega, some_div hb hp hk e0 e1⟩
      | false =>
        rw [e1, if_neg (by decide)] at h
        rw [find1] at h
        cases e2 : hasAt s (sk s p) (Bop.str .mod) with
        | true => rw [e2, if_pos rfl] at h; cases h; exact ⟨k, by omega, some_mod hb hp hk e0 e1 e2⟩
        | false =>
          rw [e2, if_neg (by decide)] at h
          rw [find1] at h; cases h
  | n + 6, h => omega
end
end Go.Proofs.YtambnodgfhlpfaaDoor.P

/- The document's reckoner reads as the program's reader does, and comes to what the tree comes to. -/
set_option linter.unusedVariables false
set_option linter.unusedSimpArgs false
namespace Go.Proofs.YtambnodgfhlpfaaDoor.P
open Go.RowKit Go.Proofs.YtambnodgfhlpfaaDoorW.PrintWords Go.Proofs.YtambnodgfhlpfaaDoorW.PrintLast Go.Proofs.YtambnodgfhlpfaaDoor.G Go.Proofs.YtambnodgfhlpfaaDoor.QA Go.Proofs.YtambnodgfhlpfaaDoor.A Go.Proofs.YtambnodgfhlpfaaDoor.QG Go.Proofs.YtambnodgfhlpfaaDoor.QH Go.Proofs.YtambnodgfhlpfaaDoor.QI

/-! ### What is reckoned -/
theorem ev_un {l : Vars} {live : Bool} {w0 w1 v : Int} {u : Uop} {a : A.Node} (h : Evl l live w0 a v w1) : Evl l live w0 (.un u a) (oneV u v) w1 := by
  unfold Evl at h ⊢
  by_cases hl : live = true ∧ w0 = 0
  · rw [if_pos hl] at h ⊢
    simp only [valueV]
    cases hv : valueV l a with
    | error e => rw [hv] at h; exact h
    | ok x => rw [hv] at h; exact ⟨h.1, by rw [h.2]⟩
  · rw [if_neg hl] at h ⊢; exact h
theorem bad2_keep {o : Bop} {live : Bool} {b w : Int} (h : ¬ (live = true ∧ w = 0)) : bad2 o live b w = w := by
  cases o <;> simp only [bad2] <;> (try rfl)
  all_goals
    by_cases hz : b = 0
    · rw [if_pos hz, if_neg h]
    · rw [if_neg hz]
theorem ev_bin {l : Vars} {live : Bool} {w0 w w1 v vb : Int} {o : Bop} {a b : A.Node} (h1 : Evl l live w0 a v w) (h2 : Evl l (liveB o live v) w b vb w1) : Evl l live w0 (.bin o a b) (val2 o v vb) (bad2 o live vb w1) := by
  unfold Evl at h1 h2 ⊢
  by_cases hl : live = true ∧ w0 = 0
  · rw [if_pos hl] at h1 ⊢
    obtain ⟨rfl, rfl⟩ := hl
    simp only [valueV]
    cases ha : valueV l a with
    | error e =>
      rw [ha] at h1
      obtain ⟨rfl, he⟩ := h1
      rw [if_neg (fun h => he h.2)] at h2
      dsimp only
      rw [bad2_keep (fun h => he (h2 ▸ h.2))]
      exact ⟨h2, he⟩
    | ok x =>
      rw [ha] at h1
      obtain ⟨rfl, rfl⟩ := h1
      dsimp only
      by_cases hs : o = .lor ∧ v ≠ 0 ∨ o = .land ∧ v = 0
      · rw [if_pos hs]
        rcases hs with ⟨rfl, hv⟩ | ⟨rfl, rfl⟩
        · have e1 : (v == 0) = false := beq_eq_false_iff_ne.2 hv
          have e2 : (v != 0) = true := bne_iff_ne.2 hv
          simp only [liveB, e1, Bool.and_false, Bool.false_eq_true, false_and, if_false] at h2
          simp only [bad2, val2, e2, Bool.true_or]
          exact ⟨h2, trivial⟩
        · simp only [liveB, bne_self_eq_false, Bool.and_false, Bool.false_eq_true, false_and, if_false] at h2
          simp only [bad2, val2, bne_self_eq_false, Bool.false_and]
          exact ⟨h2, trivial⟩
      · rw [if_neg hs]
        have hb : liveB o true v = true := by
          cases o <;> simp only [liveB, Bool.true_and] <;> (try rfl)
          · by_cases hv : v = 0
            · rw [hv]; rfl
            · exact absurd (Or.inl ⟨rfl, hv⟩) hs
          · by_cases hv : v = 0
            · exact absurd (Or.inr ⟨rfl, hv⟩) hs
            · exact bne_iff_ne.2 hv
        rw [if_pos ⟨hb, rfl⟩] at h2
        cases hvb : valueV l b with
        | error e =>
          rw [hvb] at h2
          obtain ⟨rfl, he⟩ := h2
          dsimp only
          rw [bad2_keep (fun h => he h.2)]
          exact ⟨rfl, he⟩
        | ok y =>
          rw [hvb] at h2
          obtain ⟨rfl, rfl⟩ := h2
          dsimp only
          cases o with
          | lor =>
            have hv : v = 0 := by
              by_cases hv : v = 0
              · exact hv
              · exact absurd (Or.inl ⟨rfl, hv⟩) hs
            subst hv
            exact ⟨rfl, rfl⟩
          | land =>
            have hv : v ≠ 0 := fun hv => absurd (Or.inr ⟨rfl, hv⟩) hs
            have e2 : (v != 0) = true := bne_iff_ne.2 hv
            simp only [bad2, val2, twoV, e2, Bool.true_and]
            exact ⟨trivial, trivial⟩
          | div =>
            by_cases h0 : vb = 0
            · simp only [twoV, bad2, val2, h0, if_true]; exact ⟨rfl, by decide⟩
            · simp only [twoV, bad2, val2, h0, if_false]; exact ⟨trivial, trivial⟩
          | mod =>
            by_cases h0 : vb = 0
            · simp only [twoV, bad2, val2, h0, if_true]; exact ⟨rfl, by decide⟩
            · simp only [twoV, bad2, val2, h0, if_false]; exact ⟨trivial, trivial⟩
          | _ => exact ⟨rfl, rfl⟩
  · rw [if_neg hl] at h1 ⊢
    subst h1
    have hn : ¬ (liveB o live v = true ∧ w = 0) := by
      rintro ⟨hb, hw⟩
      apply hl
      refine ⟨?_, hw⟩
      cases o <;> simp only [liveB, Bool.and_eq_true] at hb <;> first | exact hb.1 | exact hb
    rw [if_neg hn] at h2
    subst h2
    exact bad2_keep hl

/-! ### What stands ahead of one -/
section
variable [Inhabited OrG]
variable {s : ByteArray} (hb : s.size ≤ 1000000) {l : List S39} {d w : Int} {live : Bool} {p k : Nat} (hp : p ≤ s.size) (hk : s.size < k)
include hb hp hk
omit [Inhabited OrG] hb hp hk in
theorem deep_f {q : Int} : dragomanref10_eval_deeper.f s q d l 0 w = if d = 30 then some (false, s, q, d, 7, w) else some (true, s, q, wrap64 (d + 1), 0, w) := by
  unfold dragomanref10_eval_deeper.f
  rw [fails_f, Option.bind_some]
omit [Inhabited OrG] hp hk in
theorem is_next {m : ByteArray} (hp : p ≤ s.size) (hk : s.size < k) (hm : m.size ≤ 100) (h : hasAt s (sk s p) m = false) : dragomanref10_eval_is.f k s (sk s p : Int) d l 0 w m = some (false, s, (sk s p : Int), d, 0, w) := by
  have e := is_no hb (l := l) (d := d) (w := w) (sk_le s p hp) hm hk (by rw [sk_sk]; exact h)
  rw [sk_sk] at e; exact e
omit [Inhabited OrG] hp hk in
theorem is_hit {m : ByteArray} (hp : p ≤ s.size) (hk : s.size < k) (hm : m.size ≤ 100) (h : hasAt s (sk s p) m = true) : dragomanref10_eval_is.f k s (sk s p : Int) d l 0 w m = some (true, s, ((sk s p + m.size : Nat) : Int), d, 0, w) := by
  have e := is_yes hb (l := l) (d := d) (w := w) (sk_le s p hp) hm hk (by rw [sk_sk]; exact h)
  rw [sk_sk] at e; exact e
/-- What is told of one sign ahead. -/
def unD (u : Uop) (k : Nat) (s : ByteArray) (q : Nat) (d : Int) (l : List S39) (w : Int) (live : Bool) : DRes :=
  if d = 30 then some (0, s, (q : Int), d, 7, w) else (dragomanref10_eval_unary.f k s (q : Int) (wrap64 (d + 1)) l 0 w live).bind fun r => some (oneV u r.1, r.2.1, r.2.2.1, wrap64 (r.2.2.2.1 - 1), r.2.2.2.2.1, r.2.2.2.2.2)
theorem un_neg (h0 : hasAt s (sk s p) (⟨#[45]⟩ : ByteArray) = true) : dragomanref10_eval_unary.f (k + 1) s (p : Int) d l 0 w live = unD .neg k s (sk s p + 1) d l w live := by
  rw [dragomanref10_eval_unary.f, is_yes hb hp (by decide) hk h0, Option.bind_some]
  dsimp only
  rw [if_pos rfl, deep_f]
  unfold unD
  by_cases hd : d = 30
  · rw [if_pos hd, if_pos hd, Option.bind_some]; rfl
  · rw [if_neg hd, if_neg hd, Option.bind_some]; rfl
theorem un_pos (h0 : hasAt s (sk s p) (⟨#[45]⟩ : ByteArray) = false) (h1 : hasAt s (sk s p) (⟨#[43]⟩ : ByteArray) = true) : dragomanref10_eval_unary.f (k + 1) s (p : Int) d l 0 w live = unD .pos k s (sk s p + 1) d l w live := by
  rw [dragomanref10_eval_unary.f, is_no hb hp (by decide) hk h0, Option.bind_some]
  dsimp only
  rw [if_neg (by decide), is_hit hb hp hk (m := ⟨#[43]⟩) (by decide) h1, Option.bind_some]
  dsimp only
  rw [if_pos rfl, deep_f]
  unfold unD
  by_cases hd : d = 30
  · rw [if_pos hd, if_pos hd, Option.bind_some]; rfl
  · rw [if_neg hd, if_neg hd, Option.bind_some]; rfl
theorem un_not (h0 : hasAt s (sk s p) (⟨#[45]⟩ : ByteArray) = false) (h1 : hasAt s (sk s p) (⟨#[43]⟩ : ByteArray) = false) (h2 : hasAt s (sk s p) (⟨#[33]⟩ : ByteArray) = true) : dragomanref10_eval_unary.f (k + 1) s (p : Int) d l 0 w live = unD .not k s (sk s p + 1) d l w live := by
  rw [dragomanref10_eval_unary.f, is_no hb hp (by decide) hk h0, Option.bind_some]
  dsimp only
  rw [if_neg (by decide), is_next hb hp hk (m := ⟨#[43]⟩) (by decide) h1, Option.bind_some]
  dsimp only
  rw [if_neg (by decide), is_hit hb hp hk (m := ⟨#[33]⟩) (by decide) h2, Option.bind_some]
  dsimp only
  rw [if_pos rfl, deep_f]
  unfold unD
  by_cases hd : d = 30
  · rw [if_pos hd, if_pos hd, Option.bind_some]; rfl
  · rw [if_neg hd, if_neg hd, Option.bind_some]
    dsimp only
    rw [if_pos rfl]
    refine congrArg (Option.bind _) (funext fun r => ?_)
    rw [one_f]; rfl
/-- What is told of brackets. -/
def parD (k : Nat) (s : ByteArray) (q : Nat) (d : Int) (l : List S39) (w : Int) (live : Bool) : DRes :=
  if d = 30 then some (0, s, (q : Int), d, 7, w) else (eor.f k s (q : Int) (wrap64 (d + 1)) l 0 w live).bind fun r => (dragomanref10_eval_is.f k r.2.1 r.2.2.1 (wrap64 (r.2.2.2.1 - 1)) l r.2.2.2.2.1 r.2.2.2.2.2 (⟨#[41]⟩ : ByteArray)).bind fun t =>
    if t.1 = true then some (r.1, t.2.1, t.2.2.1, t.2.2.2.1, t.2.2.2.2.1, t.2.2.2.2.2) else (dragomanref10_eval_fails.f t.2.1 t.2.2.1 t.2.2.2.1 l t.2.2.2.2.1 t.2.2.2.2.2 9).bind fun e => some (r.1, e.1, e.2.1, e.2.2.1, e.2.2.2.1, e.2.2.2.2)
theorem un_none (h0 : hasAt s (sk s p) (⟨#[45]⟩ : ByteArray) = false) (h1 : hasAt s (sk s p) (⟨#[43]⟩ : ByteArray) = false) (h2 : hasAt s (sk s p) (⟨#[33]⟩ : ByteArray) = false) : dragomanref10_eval_unary.f (k + 1) s (p : Int) d l 0 w live =
    if hasAt s (sk s p) (⟨#[40]⟩ : ByteArray) = true then parD k s (sk s p + 1) d l w live else (dragomanref10_eval_operand.f k s (sk s p : Int) d l 0 w live).bind fun r => some (r.1, r.2.1, r.2.2.1, r.2.2.2.1, r.2.2.2.2.1, r.2.2.2.2.2) := by
  rw [dragomanref10_eval_unary.f, is_no hb hp (by decide) hk h0, Option.bind_some]
  dsimp only
  rw [if_neg (by decide), is_next hb hp hk (m := ⟨#[43]⟩) (by decide) h1, Option.bind_some]
  dsimp only
  rw [if_neg (by decide), is_next hb hp hk (m := ⟨#[33]⟩) (by decide) h2, Option.bind_some]
  dsimp only
  rw [if_neg (by decide)]
  cases h3 : hasAt s (sk s p) (⟨#[40]⟩ : ByteArray) with
  | true =>
    rw [is_hit hb hp hk (m := ⟨#[40]⟩) (by decide) h3, Option.bind_some]
    dsimp only
    rw [if_pos rfl, deep_f, if_pos rfl]
    unfold parD
    by_cases hd : d = 30
    · rw [if_pos hd, if_pos hd, Option.bind_some]; rfl
    · rw [if_neg hd, if_neg hd, Option.bind_some]; rfl
  | false =>
    rw [is_next hb hp hk (m := ⟨#[40]⟩) (by decide) h3, Option.bind_some]
    dsimp only
    rw [if_neg (by decide), if_neg (by decide)]
end
end Go.Proofs.YtambnodgfhlpfaaDoor.P

/- The document's reckoner and the program's, whole: by the rounds of the reading. -/
set_option linter.unusedVariables false
set_option linter.unusedSimpArgs false
namespace Go.Proofs.YtambnodgfhlpfaaDoor.P
open Go.RowKit Go.Proofs.YtambnodgfhlpfaaDoorW.PrintWords Go.Proofs.YtambnodgfhlpfaaDoorW.PrintLast Go.Proofs.YtambnodgfhlpfaaDoor.G Go.Proofs.YtambnodgfhlpfaaDoor.QA Go.Proofs.YtambnodgfhlpfaaDoor.A Go.Proofs.YtambnodgfhlpfaaDoor.QG Go.Proofs.YtambnodgfhlpfaaDoor.QH Go.Proofs.YtambnodgfhlpfaaDoor.QI

/-- What is told fits what was read. -/
def Good (s : ByteArray) (l : Vars) (r : Res) (D : DRes) (dp : Nat) (live : Bool) (w0 : Int) : Prop :=
  match r with
  | .ok (x, q) => ∃ v w1, D = some (v, s, (q : Int), (dp : Int), 0, w1) ∧ q ≤ s.size ∧ Evl l live w0 x v w1
  | .error e => ∃ (v : Int) (q : Nat) (d w1 : Int), D = some (v, s, (q : Int), d, e, w1) ∧ q ≤ s.size ∧ e ≠ 0
section
variable [Inhabited OrG]
structure GoodAll (s : ByteArray) (l : Vars) (K k : Nat) : Prop where
  lev : ∀ (p dp : Nat) (live : Bool) (w : Int), p ≤ s.size → dp ≤ 30 → ∀ n r, n ≤ 6 → run s K (.lev n) p dp = some r → Good s l r (LVf n k s (p : Int) (dp : Int) l 0 w live) dp live w
  loop : ∀ (p dp : Nat) (live : Bool) (w : Int), p ≤ s.size → dp ≤ 30 → ∀ n a v w0 r, n < 6 → Evl l live w0 a v w → run s K (.loop n a) p dp = some r → Good s l r (LPf n k live v s (p : Int) (dp : Int) l 0 w) dp live w0
  una : ∀ (p dp : Nat) (live : Bool) (w : Int), p ≤ s.size → dp ≤ 30 → ∀ r, run s K .una p dp = some r → Good s l r (dragomanref10_eval_unary.f k s (p : Int) (dp : Int) l 0 w live) dp live w
variable {s : ByteArray} {l : Vars} (hf : Fit s l) {K : Nat} (h : ∀ k, 2 * K + 5000 ≤ k → GoodAll s l K k)
include hf h
theorem step_lev {k : Nat} (hk : 2 * (K + 1) + 5000 ≤ k) (p dp : Nat) (live : Bool) (w : Int) (hp : p ≤ s.size) (hd : dp ≤ 30) (n : Nat) (r : Res) (hn : n ≤ 6) (hr : run s (K + 1) (.lev n) p dp = some r) : Good s l r (LVf n k s (p : Int) (dp : Int) l 0 w live) dp live w := by
  have hz := hf.size
  have ih := h k (by omega)
  rw [run] at hr
  by_cases h6 : n = 6
  · rw [if_pos h6] at hr
    subst h6
    exact ih.una p dp live w hp hd r hr
  · rw [if_neg h6] at hr
    have hn6 : n < 6 := by omega
    rw [lev_eq hn6]
    cases hx : run s K (.lev (n + 1)) p dp with
    | none => rw [hx] at hr; cases hr
    | some r1 =>
      rw [hx] at hr
      have h1 := ih.lev p dp live w hp hd (n + 1) r1 (by omega) hx
      cases r1 with
      | error e =>
        cases hr
        obtain ⟨v, q, d, w1, hD, hq, he⟩ := h1
        rw [hD, Option.bind_some]
        obtain ⟨k, rfl⟩ : ∃ m, k = m + 1 := ⟨k - 1, by omega⟩
        dsimp only
        rw [loop_bad (by omega) hq (by omega) hn6 he]
        exact ⟨_, _, _, _, rfl, sk_le s q hq, he⟩
      | ok r3 =>
        obtain ⟨a, q⟩ := r3
        obtain ⟨v, w1, hD, hq, hev⟩ := h1
        rw [hD, Option.bind_some]
        exact ih.loop q dp live w1 hq hd n a v w r hn6 hev hr
theorem step_loop {k : Nat} (hk : 2 * (K + 1) + 5000 ≤ k) (p dp : Nat) (live : Bool) (w : Int) (hp : p ≤ s.size) (hd : dp ≤ 30) (n : Nat) (a : A.Node) (v w0 : Int) (r : Res) (hn : n < 6) (hev : Evl l live w0 a v w) (hr : run s (K + 1) (.loop n a) p dp = some r) : Good s l r (LPf n k live v s (p : Int) (dp : Int) l 0 w) dp live w0 := by
  have hz := hf.size
  have hs := sk_le s p hp
  obtain ⟨k, rfl⟩ : ∃ m, k = m + 1 + 1 := ⟨k - 2, by omega⟩
  rw [run] at hr
  cases hfi : find1 Bop.str s (sk s p) (A.opsOf n) with
  | none =>
    rw [hfi] at hr
    cases hr
    rw [loop_none (by omega) hp (by omega) hn hfi]
    exact ⟨_, _, rfl, hs, hev⟩
  | some o =>
    rw [hfi] at hr
    dsimp only at hr
    obtain ⟨k1, hk1, hL⟩ := loop_some (l := l) (d := (dp : Int)) (w := w) (v := v) (live := live) (by omega : s.size ≤ 1000000) hp (by omega : s.size < k) hn hfi
    rw [hL]
    have hsz := find_size hfi
    have ih := h k1 (by omega)
    cases hx : run s K (.lev (n + 1)) (sk s p + o.str.size) dp with
    | none => rw [hx] at hr; cases hr
    | some r1 =>
      rw [hx] at hr
      have h1 := ih.lev (sk s p + o.str.size) dp (liveB o live v) w (by omega) hd (n + 1) r1 (by omega) hx
      cases r1 with
      | error e =>
        cases hr
        obtain ⟨v1, q, d, w1, hD, hq, he⟩ := h1
        rw [hD, Option.bind_some]
        obtain ⟨k1, rfl⟩ : ∃ m, k1 = m + 1 := ⟨k1 - 1, by omega⟩
        dsimp only
        rw [loop_bad (by omega) hq (by omega) hn he]
        exact ⟨_, _, _, _, rfl, sk_le s q hq, he⟩
      | ok r3 =>
        obtain ⟨b, q⟩ := r3
        obtain ⟨v1, w1, hD, hq, hev1⟩ := h1
        rw [hD, Option.bind_some]
        exact ih.loop q dp live _ hq hd n (.bin o a b) _ w0 r hn (ev_bin hev hev1) hr
omit hf h [Inhabited OrG] in
theorem dp_up {dp : Nat} (h : ¬ 30 ≤ dp) : wrap64 ((dp : Int) + 1) = ((dp + 1 : Nat) : Int) := by rw [wrap_id (by omega) (by omega)]; omega
omit hf h [Inhabited OrG] in
theorem dp_down {dp : Nat} (h : ¬ 30 ≤ dp) : wrap64 (((dp + 1 : Nat) : Int) - 1) = (dp : Int) := by rw [wrap_id (by omega) (by omega)]; omega
omit hf in
/-- One sign ahead. -/
theorem step_sign {k : Nat} (hk : 2 * (K + 1) + 4999 ≤ k) (p dp : Nat) (live : Bool) (w : Int) (hp : p ≤ s.size) (hd : dp ≤ 30) (u : Uop) (r : Res)
    (hr : (if 30 ≤ dp then some (.error 7) else match run s K .una p (dp + 1) with | some (.ok (a, q)) => some (.ok (.un u a, q)) | r => r) = some r) :
    Good s l r (unD u k s p (dp : Int) l w live) dp live w := by
  unfold unD
  by_cases h30 : 30 ≤ dp
  · rw [if_pos h30] at hr
    cases hr
    rw [if_pos (by omega)]
    exact ⟨_, _, _, _, rfl, hp, by decide⟩
  · rw [if_neg h30] at hr
    rw [if_neg (by omega), dp_up h30]
    have ih := h k (by omega)
    cases hx : run s K .una p (dp + 1) with
    | none => rw [hx] at hr; cases hr
    | some r1 =>
      rw [hx] at hr
      have h1 := ih.una p (dp + 1) live w hp (by omega) r1 hx
      cases r1 with
      | error e =>
        cases hr
        obtain ⟨v1, q, d, w1, hD, hq, he⟩ := h1
        rw [hD, Option.bind_some]
        exact ⟨_, _, _, _, rfl, hq, he⟩
      | ok r3 =>
        obtain ⟨b, q⟩ := r3
        cases hr
        obtain ⟨v1, w1, hD, hq, hev⟩ := h1
        rw [hD, Option.bind_some]
        dsimp only
        rw [dp_down h30]
        exact ⟨_, _, rfl, hq, ev_un hev⟩
variable (hor : ∀ k, 2 * K + 5000 ≤ k → ∀ (p dp : Nat) (live : Bool) (w : Int), p ≤ s.size → dp ≤ 30 → ∀ r, run s K (.lev 0) p dp = some r → Good s l r (eor.f k s (p : Int) (dp : Int) l 0 w live) dp live w)
include hor
omit h in
/-- Brackets. -/
theorem step_par {k : Nat} (hk : 2 * (K + 1) + 4999 ≤ k) (p dp : Nat) (live : Bool) (w : Int) (hp : p ≤ s.size) (hd : dp ≤ 30) (r : Res)
    (hr : (if 30 ≤ dp then some (.error 7) else match run s K (.lev 0) p (dp + 1) with | some (.ok (a, q)) => if hasAt s (sk s q) rpar then some (.ok (a, sk s q + 1)) else some (.error 9) | r => r) = some r) :
    Good s l r (parD k s p (dp : Int) l w live) dp live w := by
  have hz := hf.size
  unfold parD
  by_cases h30 : 30 ≤ dp
  · rw [if_pos h30] at hr
    cases hr
    rw [if_pos (by omega)]
    exact ⟨_, _, _, _, rfl, hp, by decide⟩
  · rw [if_neg h30] at hr
    rw [if_neg (by omega), dp_up h30]
    cases hx : run s K (.lev 0) p (dp + 1) with
    | none => rw [hx] at hr; cases hr
    | some r1 =>
      rw [hx] at hr
      have h1 := hor k (by omega) p (dp + 1) live w hp (by omega) r1 hx
      cases r1 with
      | error e =>
        cases hr
        obtain ⟨v1, q, d, w1, hD, hq, he⟩ := h1
        rw [hD, Option.bind_some]
        dsimp only
        rw [is_bad (by omega) he hq (by omega), Option.bind_some]
        dsimp only
        rw [if_neg (by decide)]
        have hfa : ∀ x y : Int, dragomanref10_eval_fails.f s x y l e w1 9 = some (s, x, y, e, w1) := fun x y => by unfold dragomanref10_eval_fails.f; rw [if_neg he]
        rw [hfa, Option.bind_some]
        exact ⟨_, _, _, _, rfl, sk_le s q hq, he⟩
      | ok r3 =>
        obtain ⟨b, q⟩ := r3
        obtain ⟨v1, w1, hD, hq, hev⟩ := h1
        dsimp only at hr
        rw [hD, Option.bind_some]
        dsimp only
        rw [dp_down h30]
        have hs := sk_le s q hq
        cases hc : hasAt s (sk s q) rpar with
        | true =>
          rw [hc, if_pos rfl] at hr
          cases hr
          have hsz := hasAt_size hc
          have hr1 : rpar.size = 1 := rfl
          rw [is_yes (by omega) hq (m := ⟨#[41]⟩) (by decide) (by omega) hc, Option.bind_some]
          dsimp only
          rw [if_pos rfl]
          exact ⟨_, _, rfl, by omega, hev⟩
        | false =>
          rw [hc, if_neg (by decide)] at hr
          cases hr
          rw [is_no (by omega) hq (m := ⟨#[41]⟩) (by decide) (by omega) hc, Option.bind_some]
          dsimp only
          rw [if_neg (by decide), fails_f, Option.bind_some]
          exact ⟨_, _, _, _, rfl, hs, by decide⟩
theorem step_una {k : Nat} (hk : 2 * (K + 1) + 5000 ≤ k) (p dp : Nat) (live : Bool) (w : Int) (hp : p ≤ s.size) (hd : dp ≤ 30) (r : Res) (hr : run s (K + 1) .una p dp = some r) : Good s l r (dragomanref10_eval_unary.f k s (p : Int) (dp : Int) l 0 w live) dp live w := by
  have hz := hf.size
  have hs := sk_le s p hp
  have hb : s.size ≤ 1000000 := by omega
  obtain ⟨k, rfl⟩ : ∃ m, k = m + 1 := ⟨k - 1, by omega⟩
  have hks : s.size < k := by omega
  rw [run] at hr
  have hu : find1 Uop.str s (sk s p) uops = if hasAt s (sk s p) (⟨#[45]⟩ : ByteArray) = true then some .neg else if hasAt s (sk s p) (⟨#[43]⟩ : ByteArray) = true then some .pos else if hasAt s (sk s p) (⟨#[33]⟩ : ByteArray) = true then some .not else none := rfl
  rw [hu] at hr
  cases h0 : hasAt s (sk s p) (⟨#[45]⟩ : ByteArray) with
  | true =>
    rw [h0, if_pos rfl] at hr
    have hsz := hasAt_size h0
    have h1z : (⟨#[45]⟩ : ByteArray).size = 1 := rfl
    rw [un_neg hb hp hks h0]
    exact step_sign h (by omega) (sk s p + 1) dp live w (by omega) hd .neg r hr
  | false =>
    rw [h0, if_neg (by decide)] at hr
    cases h1 : hasAt s (sk s p) (⟨#[43]⟩ : ByteArray) with
    | true =>
      rw [h1, if_pos rfl] at hr
      have hsz := hasAt_size h1
      have h1z : (⟨#[43]⟩ : ByteArray).size = 1 := rfl
      rw [un_pos hb hp hks h0 h1]
      exact step_sign h (by omega) (sk s p + 1) dp live w (by omega) hd .pos r hr
    | false =>
      rw [h1, if_neg (by decide)] at hr
      cases h2 : hasAt s (sk s p) (⟨#[33]⟩ : ByteArray) with
      | true =>
        rw [h2, if_pos rfl] at hr
        have hsz := hasAt_size h2
        have h1z : (⟨#[33]⟩ : ByteArray).size = 1 := rfl
        rw [un_not hb hp hks h0 h1 h2]
        exact step_sign h (by omega) (sk s p + 1) dp live w (by omega) hd .not r hr
      | false =>
        rw [h2, if_neg (by decide)] at hr
        dsimp only at hr
        rw [un_none hb hp hks h0 h1 h2]
        by_cases h3 : hasAt s (sk s p) lpar = true
        · rw [if_pos h3] at hr
          have hsz := hasAt_size h3
          have h1z : lpar.size = 1 := rfl
          have h3' : hasAt s (sk s p) (⟨#[40]⟩ : ByteArray) = true := h3
          rw [if_pos h3']
          exact step_par hf hor (by omega) (sk s p + 1) dp live w (by omega) hd r hr
        · rw [if_neg h3] at hr
          have h3' : ¬ hasAt s (sk s p) (⟨#[40]⟩ : ByteArray) = true := h3
          rw [if_neg h3']
          obtain ⟨o1, o2, o3⟩ := operand_f hf (d := (dp : Int)) (w := w) (live := live) hs (by omega : 4000 ≤ k)
          have hwe := word_le s hs
          cases hn : nameB (s.extract (sk s p) (wordEnd s (sk s p))) with
          | true =>
            rw [hn, if_pos rfl] at hr
            cases hr
            obtain ⟨v, w', hv, hev⟩ := o1 hn
            rw [hv, Option.bind_some]
            exact ⟨_, _, rfl, hwe.2, hev⟩
          | false =>
            rw [hn, if_neg (by decide)] at hr
            by_cases hw : (wholeV (s.extract (sk s p) (wordEnd s (sk s p)))).2.2 = 0
            · rw [if_pos hw] at hr
              cases hr
              rw [o2 hn hw, Option.bind_some]
              refine ⟨_, _, rfl, hwe.2, ?_⟩
              unfold Evl
              split
              · rename_i hl; exact ⟨hl.2, rfl⟩
              · rfl
            · rw [if_neg hw] at hr
              cases hr
              obtain ⟨v, q, hq, hv⟩ := o3 hn hw
              rw [hv, Option.bind_some]
              exact ⟨_, _, _, _, rfl, hq, by decide⟩
end
/-- Read alike, at every depth. -/
theorem alike {s : ByteArray} {l : Vars} (hf : Fit s l) : ∀ K N, K ≤ N → ∀ k, 2 * K + 5000 ≤ k → @GoodAll (orI N) s l K k
  | 0, N, _, k, _ => @GoodAll.mk (orI N) s l 0 k (fun _ _ _ _ _ _ _ _ _ hr => by simp [run] at hr) (fun _ _ _ _ _ _ _ _ _ _ _ _ _ hr => by simp [run] at hr) (fun _ _ _ _ _ _ _ hr => by simp [run] at hr)
  | K + 1, 0, hN, _, _ => by omega
  | K + 1, N + 1, hN, k, hk => by
    have h := fun k hk => alike hf K (N + 1) (by omega) k hk
    have hor : ∀ k, 2 * K + 5000 ≤ k → ∀ (p dp : Nat) (live : Bool) (w : Int), p ≤ s.size → dp ≤ 30 → ∀ r, run s K (.lev 0) p dp = some r → Good s l r (@eor.f (orI (N + 1)) k s (p : Int) (dp : Int) l 0 w live) dp live w :=
      fun k hk p dp live w hp hd r hr => @GoodAll.lev (orI N) s l K k (alike hf K N (by omega) k hk) p dp live w hp hd 0 r (by omega) hr
    exact @GoodAll.mk (orI (N + 1)) s l (K + 1) k
      (fun p dp live w hp hd n r hn hr => @step_lev (orI (N + 1)) s l hf K h k hk p dp live w hp hd n r hn hr)
      (fun p dp live w hp hd n a v w0 r hn hev hr => @step_loop (orI (N + 1)) s l hf K h k hk p dp live w hp hd n a v w0 r hn hev hr)
      (fun p dp live w hp hd r hr => @step_una (orI (N + 1)) s l hf K h hor k hk p dp live w hp hd r hr)
/-- What is told of what was read. -/
def toldV (s : ByteArray) (l : Vars) (r : Res) : Int × Int :=
  match r with
  | .error e => (0, e)
  | .ok (x, q) => if sk s q < s.size then (0, 9) else match valueV l x with | .ok n => (n, 0) | .error e => (0, e)
/-- The document's Eval comes to what the program's does. -/
theorem eval_doc {s : ByteArray} {l : Vars} (hf : Fit s l) {K k : Nat} (hK : 2 * K + 5001 ≤ k) {r : Res} (hr : run s K (.lev 0) 0 0 = some r) :
    dragomanref10_Eval.f k s l = some (toldV s l r) := by
  have hz := hf.size
  obtain ⟨k, rfl⟩ : ∃ m, k = m + 1 := ⟨k - 1, by omega⟩
  unfold dragomanref10_Eval.f evalD
  have h := @GoodAll.lev (orI k) s l K (k + 1) (alike hf K k (by omega) (k + 1) (by omega)) 0 0 true 0 (Nat.zero_le _) (by omega) 0 r (by omega) hr
  have e0 : @eor.f (orI (k + 1)) (k + 1) s 0 0 l 0 0 true = @LVf (orI k) 0 (k + 1) s ((0 : Nat) : Int) ((0 : Nat) : Int) l 0 0 true := rfl
  rw [e0]
  unfold toldV
  cases r with
  | error e =>
    obtain ⟨v, q, d, w1, hD, hq, he⟩ := h
    rw [hD, Option.bind_some]
    dsimp only
    rw [blanks_f (by omega) hq (by omega), Option.bind_some]
    dsimp only
    have hfa : ∀ x y : Int, dragomanref10_eval_fails.f s x y l e w1 9 = some (s, x, y, e, w1) := fun x y => by unfold dragomanref10_eval_fails.f; rw [if_neg he]
    rw [hfa, Option.bind_some]
    unfold evalEnd
    dsimp only
    rw [if_neg he]
    split <;> rfl
  | ok r3 =>
    obtain ⟨x, q⟩ := r3
    obtain ⟨v, w1, hD, hq, hev⟩ := h
    rw [hD, Option.bind_some]
    dsimp only
    rw [blanks_f (by omega) hq (by omega), Option.bind_some]
    dsimp only
    by_cases hlt : sk s q < s.size
    · rw [if_pos (by omega), if_pos hlt, fails_f, Option.bind_some]
      rfl
    · rw [if_neg (by omega), if_neg hlt]
      unfold Evl at hev
      rw [if_pos ⟨rfl, rfl⟩] at hev
      unfold evalEnd
      rw [if_pos rfl]
      cases hv : valueV l x with
      | error e =>
        rw [hv] at hev
        obtain ⟨rfl, he⟩ := hev
        rw [if_neg he]
      | ok n =>
        rw [hv] at hev
        obtain ⟨rfl, rfl⟩ := hev
        rw [if_pos rfl]
end Go.Proofs.YtambnodgfhlpfaaDoor.P

/- What a text comes to is as the document says: the statement in plain words. -/
set_option linter.unusedVariables false
set_option linter.unusedSimpArgs false
namespace Go.Proofs.YtambnodgfhlpfaaDoor.P.EvalsLaw
open Go.RowKit Go.Proofs.YtambnodgfhlpfaaDoorW.PrintWords Go.Proofs.YtambnodgfhlpfaaDoorW.PrintLast Go.Proofs.YtambnodgfhlpfaaDoor.G Go.Proofs.YtambnodgfhlpfaaDoor.QA Go.Proofs.YtambnodgfhlpfaaDoor.A Go.Proofs.YtambnodgfhlpfaaDoor.QB Go.Proofs.YtambnodgfhlpfaaDoor.QK Go.Proofs.YtambnodgfhlpfaaDoor.P

theorem few_right {l : Vars} (hl : l.length ≤ 100000) : ∀ (k i : Nat), dragomanlaw10_few.l0 k l (i : Int) = some true → ∃ j, dragomanref10_Right.f j l = some true
  | 0, i, h => by simp [dragomanlaw10_few.l0] at h
  | k + 1, i, h => by
    rw [dragomanlaw10_few.l0] at h
    by_cases hi : (i : Int) < (l.length : Int)
    · rw [if_pos hi, if_pos (by omega), succ_id (by omega)] at h
      split at h
      · cases h
      · exact few_right hl k (i + 1) h
    · rw [if_neg hi] at h
      cases hr : dragomanref10_Right.f k l with
      | none => rw [hr] at h; cases h
      | some b => rw [hr] at h; cases h; exact ⟨k, hr⟩
theorem few_rightP {l : Vars} {k : Nat} (h : dragomanlaw10_few.f k l = some true) (hl : l.length ≤ 30) (hs : ∀ x, x ∈ l → x.f0.size + x.f1.size ≤ 200) : RightP l := by
  unfold dragomanlaw10_few.f at h
  rw [if_neg (by omega)] at h
  obtain ⟨j, hj⟩ := few_right (by omega) k 0 h
  exact fun i hi => right_true (by omega) (fun x hx => by have := hs x hx; omega) j 0 hj i (Nat.zero_le _) hi
theorem late {K : Nat} {s : ByteArray} {l : Vars} (x : Bool) : dragomanlaw10_ArithEvals.j0 (K + 1) s l x true = some x := by rw [dragomanlaw10_ArithEvals.j0, if_pos rfl]
theorem evals (s : ByteArray) (l : Vars) (hs : s.size ≤ 140737488351232) (hok : OkV l) : ∃ k, dragomanlaw10_ArithEvals.f k s l = some true := by
  obtain ⟨K0, r, hrun⟩ := (term s (s.size + 1) 0 (by omega)).2.1 0 (by omega) 0
  refine ⟨2 * K0 + 6000 + 1, ?_⟩
  have hsh : dragomanlaw10_shown.f (2 * K0 + 6000 + 1) = some true := leo_up (fun j => dragomanlaw10_shown.mono j) shown_f (by omega)
  obtain ⟨b, hb, hbs⟩ := few_f hok 1000 (by omega)
  have hb2 : dragomanlaw10_few.f (2 * K0 + 6000 + 1) l = some b := leo_up (fun j => dragomanlaw10_few.mono l j) hb (by omega)
  unfold dragomanlaw10_ArithEvals.f
  rw [hsh, Option.bind_some, hb2, Option.bind_some]
  cases b with
  | false => rw [if_neg (by decide)]; exact late true
  | true =>
    rw [if_pos rfl]
    obtain ⟨hl, hsm⟩ := hbs rfl
    by_cases hz : (s.size : Int) > 1000
    · rw [decide_eq_true hz]; exact late true
    · rw [decide_eq_false hz, dragomanlaw10_ArithEvals.j0, if_neg (by decide)]
      have hfit : Fit s l := ⟨by omega, hl, (few_rightP hb hl hsm).sorted, hsm⟩
      have hd := eval_doc hfit (k := 2 * K0 + 6000) (by omega) hrun
      have he : arith_Eval.f (2 * K0 + 6000) s l = some (toldV s l r) := by
        unfold arith_Eval.f evalV toldV
        rw [if_pos ⟨by omega, by omega, fit_few hsm⟩, run_ge hrun (by omega)]
        cases r with
        | error e => rfl
        | ok r3 =>
          dsimp only
          split
          · rfl
          · cases valueV l r3.1 <;> rfl
      rw [he, Option.bind_some, hd, Option.bind_some, if_pos rfl, if_pos rfl]
      simp
end Go.Proofs.YtambnodgfhlpfaaDoor.P.EvalsLaw
