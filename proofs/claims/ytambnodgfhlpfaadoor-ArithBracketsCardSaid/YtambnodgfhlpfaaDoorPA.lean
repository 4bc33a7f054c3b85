/- The plain law of a number's figures: what is read of a text, here and by the document. No Go and no memory stands here. -/
import Derived.Test.YtambnodgfhlpfaaDoorAV
import Derived.Test.YtambnodgfhlpfaaDoorQAx6
set_option linter.unusedVariables false
set_option linter.unusedSimpArgs false
namespace Go.Proofs.YtambnodgfhlpfaaDoor.P
open Go.RowKit Go.Proofs.YtambnodgfhlpfaaDoorW.PrintWords Go.Proofs.YtambnodgfhlpfaaDoorW.PrintLast Go.Proofs.YtambnodgfhlpfaaDoor.G Go.Proofs.YtambnodgfhlpfaaDoor.QA Go.Proofs.YtambnodgfhlpfaaDoor.A

/-! ### bytes -/
def Bytes (l : List Int) : Prop := ∀ b ∈ l, 0 ≤ b ∧ b ≤ 255
theorem bytes_of (s : ByteArray) : Bytes (bytesOf s) := by
  intro b hb
  simp only [bytesOf, List.mem_map] at hb
  obtain ⟨x, _, rfl⟩ := hb
  have := x.toNat_lt
  omega
theorem bytesOf_strOfNums (l : List Int) (h : Bytes l) : bytesOf (strOfNums l) = l := by
  unfold bytesOf strOfNums
  rw [show (ByteArray.mk (List.map (fun n => UInt8.ofNat n.toNat) l).toArray).data.toList = l.map fun n => UInt8.ofNat n.toNat from rfl, List.map_map]
  conv => rhs; rw [← List.map_id l]
  apply List.map_congr_left
  intro b hb
  obtain ⟨h0, h1⟩ := h b hb
  simp only [Function.comp, id, UInt8.toNat_ofNat']
  omega
theorem ext_bytes {a b : ByteArray} (h : bytesOf a = bytesOf b) : a = b := by
  unfold bytesOf at h
  have h2 : a.data.toList = b.data.toList := by
    refine List.map_inj_right (f := fun b : UInt8 => (b.toNat : Int)) ?_ |>.1 h
    intro x y hxy
    exact UInt8.toNat_inj.1 (Int.ofNat.inj hxy)
  exact ByteArray.ext (Array.ext' h2)
theorem strOfNums_bytesOf (s : ByteArray) : strOfNums (bytesOf s) = s := ext_bytes (bytesOf_strOfNums _ (bytes_of s))
theorem bytesOf_append (a b : ByteArray) : bytesOf (a ++ b) = bytesOf a ++ bytesOf b := by
  unfold bytesOf
  rw [ByteArray.data_append, Array.toList_append, List.map_append]
theorem bt_get (s : ByteArray) (i : Nat) (h : i < s.size) : bt s i = (bytesOf s)[i]'(by rw [bytesOf_length]; exact h) := by
  unfold bt bytesOf
  simp [h]
  rfl
theorem toList_inj {a b : ByteArray} : a.toList = b.toList ↔ a = b := by
  constructor
  · intro h
    rw [ByteArray.toList_eq, ByteArray.toList_eq] at h
    exact ByteArray.ext (Array.ext' h)
  · rintro rfl; rfl

theorem wrap_id {x : Int} (h0 : -9223372036854775808 ≤ x) (h1 : x ≤ 9223372036854775807) : wrap64 x = x := by unfold wrap64; omega
/-! ### figures in a row -/
def isD (c : Int) : Bool := decide (48 ≤ c) && decide (c ≤ 57)
theorem isD_iff (c : Int) : isD c = true ↔ 48 ≤ c ∧ c ≤ 57 := by simp [isD]
def val (acc : Nat) : List Int → Nat
  | [] => acc
  | c :: r => val (10 * acc + (c - 48).toNat) r
theorem val_ge : ∀ l acc, acc ≤ val acc l
  | [], acc => Nat.le_refl _
  | c :: r, acc => Nat.le_trans (by omega) (val_ge r _)
theorem val_append : ∀ a b acc, val acc (a ++ b) = val (val acc a) b
  | [], b, acc => rfl
  | c :: r, b, acc => val_append r b _
/-- A number at the beginning of a row of bytes. -/
def sgn (l : List Int) : Nat := if l.head? = some 45 then 1 else 0
def figs (l : List Int) : List Int := (l.drop (sgn l)).takeWhile isD
def outc (s e v : Nat) : Int × Int × Int :=
  if e = s then (0, 0, 2) else
  if s = 0 then (if v < 9223372036854775808 then ((v : Int), (e : Int), 0) else (0, 0, 3))
  else if v ≤ 9223372036854775808 then (-(v : Int), (e : Int), 0) else (0, 0, 3)
def wholeL (l : List Int) : Int × Int × Int := outc (sgn l) (sgn l + (figs l).length) (val 0 (figs l))

/-! ### the walked function -/
theorem drop_cons (s : ByteArray) (i : Nat) (h : i < s.size) : (bytesOf s).drop i = bt s i :: (bytesOf s).drop (i + 1) := by
  have hl : i < (bytesOf s).length := by rw [bytesOf_length]; exact h
  rw [List.drop_eq_getElem_cons hl, ← bt_get s i h]
theorem scan_eq (s : ByteArray) : ∀ d i, i + d = s.size → scan s i d = i + (((bytesOf s).drop i).takeWhile isD).length
  | 0, i, h => by rw [List.drop_eq_nil_of_le (by rw [bytesOf_length]; omega)]; rfl
  | d + 1, i, h => by
    rw [drop_cons s i (by omega), scan, List.takeWhile_cons]
    by_cases hd : 48 ≤ bt s i ∧ bt s i ≤ 57
    · rw [if_pos hd, (isD_iff _).2 hd, scan_eq s d (i + 1) (by omega)]
      simp; omega
    · have : isD (bt s i) = false := by rw [Bool.eq_false_iff, ne_eq, isD_iff]; exact hd
      rw [if_neg hd, this]; rfl
theorem sgn_eq (s : ByteArray) : signAt s = sgn (bytesOf s) := by
  unfold signAt sgn
  by_cases h : 0 < s.size
  · have := drop_cons s 0 h
    rw [List.drop_zero] at this
    rw [this]
    simp only [List.head?_cons, Option.some.injEq]
    by_cases q : bt s 0 = 45
    · rw [if_pos ⟨h, q⟩]; exact (if_pos q).symm
    · rw [if_neg (fun z => q z.2)]; exact (if_neg q).symm
  · have : bytesOf s = [] := List.eq_nil_of_length_eq_zero (by rw [bytesOf_length]; omega)
    rw [this, if_neg (fun z => h z.1)]; rfl
theorem end_eq (s : ByteArray) : endAt s = sgn (bytesOf s) + (figs (bytesOf s)).length := by
  unfold endAt figs
  have h := signAt_le s
  rw [scan_eq s _ _ (by omega), sgn_eq]
theorem u8_digit (c : UInt8) : (48 ≤ c.toNat ∧ c.toNat ≤ 57) ↔ (48 ≤ (c.toNat : Int) ∧ (c.toNat : Int) ≤ 57) := by omega
theorem parseM (M : Nat) (hM : M = 18446744073709551615) : ∀ (l : List UInt8) (acc : Nat), (∀ c ∈ l, isD (c.toNat : Int) = true) → acc ≤ M →
    Lib.parseUintM M acc l = if val acc (l.map fun c => (c.toNat : Int)) ≤ M then .ok (val acc (l.map fun c => (c.toNat : Int))) else .range
  | [], acc, _, h => by simp only [Lib.parseUintM, List.map_nil, val]; rw [if_pos h]
  | c :: r, acc, hd, h => by
    have hc := (isD_iff _).1 (hd c (by simp))
    have e1 : 10 * acc + ((c.toNat : Int) - 48).toNat = acc * 10 + (c.toNat - 48) := by omega
    have hg := val_ge (r.map fun c => (c.toNat : Int)) (acc * 10 + (c.toNat - 48))
    simp only [Lib.parseUintM, List.map_cons, val, e1]
    rw [if_pos (by omega : 48 ≤ c.toNat ∧ c.toNat ≤ 57)]
    by_cases h1 : 1844674407370955162 ≤ acc
    · rw [if_pos h1, if_neg (by omega)]
    · rw [if_neg h1]
      by_cases h2 : M < acc * 10 + (c.toNat - 48)
      · rw [if_pos h2, if_neg (by omega)]
      · rw [if_neg h2]
        exact parseM M hM r _ (fun x hx => hd x (by simp [hx])) (by omega)
theorem takeWhile_all {p : Int → Bool} : ∀ l : List Int, ∀ x ∈ l.takeWhile p, p x = true
  | [], x, h => by simp at h
  | c :: r, x, h => by
    rw [List.takeWhile_cons] at h
    cases hp : p c with
    | true =>
      rw [hp] at h
      rcases List.mem_cons.1 h with rfl | h
      · exact hp
      · exact takeWhile_all r x h
    | false => rw [hp] at h; simp at h
theorem take_takeWhile {p : Int → Bool} : ∀ l : List Int, l.take (l.takeWhile p).length = l.takeWhile p
  | [] => rfl
  | c :: r => by
    rw [List.takeWhile_cons]
    cases p c with
    | true => simp [take_takeWhile r]
    | false => rfl
theorem pow64 : (2 : Nat) ^ 64 - 1 = 18446744073709551615 := by decide
theorem pow63 : (2 : Nat) ^ (64 - 1) = 9223372036854775808 := by decide
theorem parse_eq (s : ByteArray) (hne : (figs (bytesOf s)).length ≠ 0) :
    parseV (s.extract 0 (endAt s)) = (let v := val 0 (figs (bytesOf s)); if sgn (bytesOf s) = 0 then (if v < 9223372036854775808 then some (v : Int) else none) else if v ≤ 9223372036854775808 then some (-(v : Int)) else none) := by
  have hb : (s.extract 0 (endAt s)).data.toList.map (fun c => (c.toNat : Int)) = (bytesOf s).take (endAt s) := by
    show bytesOf (s.extract 0 (endAt s)) = _
    unfold bytesOf
    rw [ByteArray.data_extract, Array.toList_extract, List.extract_eq_take_drop, List.drop_zero, Nat.sub_zero, List.map_take]
  have he := end_eq s
  have hfl : ∀ x ∈ figs (bytesOf s), isD x = true := takeWhile_all _
  unfold parseV
  generalize (s.extract 0 (endAt s)).data.toList = l at *
  -- the row of figures
  have hsplit : (bytesOf s).take (endAt s) = (bytesOf s).take (sgn (bytesOf s)) ++ figs (bytesOf s) := by
    rw [he, List.take_add]
    congr 1
    exact take_takeWhile _
  rw [hsplit] at hb
  clear hsplit he
  generalize hF : figs (bytesOf s) = F at *
  have key : ∀ m : List UInt8, m.map (fun c => (c.toNat : Int)) = F → Lib.parseUintB 64 m = if val 0 F ≤ 18446744073709551615 then .ok (val 0 F) else .range := by
    intro m hm
    have hme : m ≠ [] := by rintro rfl; rw [← hm] at hne; exact hne rfl
    unfold Lib.parseUintB
    rw [if_neg hme, parseM _ pow64 m 0 (fun c hc => hfl _ (by rw [← hm]; exact List.mem_map_of_mem hc)) (Nat.zero_le _), hm, pow64]
  have hcase : sgn (bytesOf s) = 0 ∨ (sgn (bytesOf s) = 1 ∧ (bytesOf s).head? = some 45) := by
    unfold sgn; split
    · exact .inr ⟨rfl, by assumption⟩
    · exact .inl rfl
  rcases hcase with h0 | ⟨h1, hh⟩
  · rw [h0, List.take_zero, List.nil_append] at hb
    have hk := key l hb
    cases l with
    | nil => rw [List.map_nil] at hb; rw [← hb] at hne; exact absurd rfl hne
    | cons c r =>
      have hc : isD (c.toNat : Int) = true := hfl _ (by rw [← hb]; simp)
      rw [isD_iff] at hc
      simp only [Lib.parseIntB]
      rw [if_neg (by omega : ¬ (c.toNat = 43 ∨ c.toNat = 45)), hk, h0, if_pos rfl, pow63]
      by_cases hv : val 0 F ≤ 18446744073709551615
      · rw [if_pos hv]
        simp only
        by_cases hw : val 0 F < 9223372036854775808
        · rw [if_neg (fun z => absurd z.2 (by omega)), if_neg (fun z => absurd z.1 (by omega)), if_neg (by omega), if_pos hw]
        · rw [if_pos ⟨by omega, by omega⟩, if_neg hw]
      · rw [if_neg hv, if_neg (by omega)]
  · rw [h1] at hb
    cases hbs : bytesOf s with
    | nil => rw [hbs] at hh; cases hh
    | cons d q =>
      rw [hbs] at hh hb
      obtain rfl : d = 45 := by simpa using hh
      simp only [List.take_succ_cons, List.take_zero, List.cons_append, List.nil_append] at hb
      cases l with
      | nil => cases hb
      | cons c r =>
        simp only [List.map_cons, List.cons.injEq] at hb
        have hk := key r hb.2
        have hc : c.toNat = 45 := by omega
        rw [← hbs, h1]
        simp only [Lib.parseIntB]
        rw [if_pos (Or.inr hc), hk, if_neg (by decide : ¬ (1 : Nat) = 0), pow63]
        by_cases hv : val 0 F ≤ 18446744073709551615
        · rw [if_pos hv]
          simp only
          rw [if_neg (fun z => z.1 hc)]
          by_cases hw : val 0 F ≤ 9223372036854775808
          · rw [if_neg (fun z => absurd z.2 (by omega)), if_pos hc, if_pos hw]
          · rw [if_pos ⟨hc, by omega⟩, if_neg hw]
        · rw [if_neg hv, if_neg (by omega)]
theorem wholeV_eq (s : ByteArray) : wholeV s = wholeL (bytesOf s) := by
  unfold wholeV wholeL outc
  by_cases hne : (figs (bytesOf s)).length = 0
  · rw [if_pos (by rw [end_eq, sgn_eq, hne]; rfl), if_pos (by omega)]
  · have hp := parse_eq s hne
    rw [if_neg (by rw [end_eq, sgn_eq]; omega), if_neg (by omega), hp, end_eq]
    simp only
    generalize val 0 (figs (bytesOf s)) = v
    by_cases h0 : sgn (bytesOf s) = 0
    · rw [if_pos h0, if_pos h0]
      by_cases hv : v < 9223372036854775808
      · rw [if_pos hv, if_pos hv]
      · rw [if_neg hv, if_neg hv]
    · rw [if_neg h0, if_neg h0]
      by_cases hv : v ≤ 9223372036854775808
      · rw [if_pos hv, if_pos hv]
      · rw [if_neg hv, if_neg hv]

/-! ### the reference reads -/
theorem r_j3 (k : Nat) (s e v : Nat) (n : Int) (over : Bool) (hs : s = 0 ∨ s = 1) (h0 : over = false → n = -(v : Int) ∧ v ≤ 9223372036854775808) (h1 : over = true → 9223372036854775808 < v) :
    dragomanref01_Whole.j3 (k + 3) e s n over = some (outc s e v) := by
  unfold outc
  simp only [dragomanref01_Whole.j3]
  by_cases he : e = s
  · subst he; rw [if_pos rfl, if_pos rfl]
  · rw [if_neg (by omega : ¬ (e : Int) = (s : Int)), if_neg he]
    cases over with
    | true =>
      have hv := h1 rfl
      have J : ∀ q, dragomanref01_Whole.j4 (k + 2) e s n true q = some (0, 0, 3) := by
        intro q; simp only [dragomanref01_Whole.j4, dragomanref01_Whole.j5]
        cases q <;> rfl
      simp only [J, ite_self]
      rcases hs with rfl | rfl
      · rw [if_pos rfl, if_neg (by omega)]
      · rw [if_neg (show ¬ (1 : Nat) = 0 by decide), if_neg (by omega)]
    | false =>
      obtain ⟨hn, hv⟩ := h0 rfl
      rcases hs with rfl | rfl
      · rw [if_pos rfl]
        by_cases hm : v < 9223372036854775808
        · have hq : (n == -9223372036854775808) = false := by rw [beq_eq_false_iff_ne]; omega
          have hw : wrap64 (-n) = v := by rw [hn, Int.neg_neg]; exact wrap_id (by omega) (by omega)
          rw [if_pos hm, if_pos (show ((0 : Nat) : Int) = 0 from rfl), hq]
          simp only [dragomanref01_Whole.j4, dragomanref01_Whole.j5, hw]
          rfl
        · have hq : (n == -9223372036854775808) = true := by rw [beq_iff_eq]; omega
          rw [if_neg hm, if_pos (show ((0 : Nat) : Int) = 0 from rfl), hq]
          simp only [dragomanref01_Whole.j4, dragomanref01_Whole.j5]
          rfl
      · rw [if_neg (show ¬ ((1 : Nat) : Int) = 0 by decide), if_neg (show ¬ (1 : Nat) = 0 by decide), if_pos hv]
        simp only [dragomanref01_Whole.j4, dragomanref01_Whole.j5, Bool.false_eq_true, if_false]
        rw [if_neg (show ¬ ((1 : Nat) : Int) = 0 by decide), hn]
theorem r_step (d v : Nat) (hd : d ≤ 9) (hv : v ≤ 9223372036854775808) :
    (-(v : Int) < wrap64 (Int.tdiv (wrap64 (-9223372036854775808 + (d : Int))) 10)) ↔ 9223372036854775808 < 10 * v + d := by
  have e1 : wrap64 (-9223372036854775808 + (d : Int)) = -((9223372036854775808 - d : Nat) : Int) := by rw [wrap_id (by omega) (by omega)]; omega
  rw [e1, Int.neg_tdiv, Int.tdiv_eq_ediv_of_nonneg (by omega), wrap_id (by omega) (by omega)]
  omega
theorem r_loop (s : ByteArray) (hs : s.size ≤ 70368744177000) (g : Nat) (hg : g = 0 ∨ g = 1) : ∀ (d i k : Nat) (n : Int) (over : Bool) (v : Nat), i + d = s.size → d + 10 < k →
    (over = false → n = -(v : Int) ∧ v ≤ 9223372036854775808) → (over = true → 9223372036854775808 < v) →
    dragomanref01_Whole.l0 k s i g n over = some (outc g (i + (((bytesOf s).drop i).takeWhile isD).length) (val v (((bytesOf s).drop i).takeWhile isD))) := by
  intro d
  induction d with
  | zero =>
    intro i k n over v hi hk h0 h1
    obtain ⟨k, rfl⟩ : ∃ m, k = m + 1 := ⟨k - 1, by omega⟩
    obtain ⟨m, hm⟩ : ∃ m, k = m + 3 := ⟨k - 3, by omega⟩
    have hfin : dragomanref01_Whole.j3 k i g n over = some (outc g i v) := by rw [hm]; exact r_j3 m g i v n over hg h0 h1
    rw [List.drop_eq_nil_of_le (by rw [bytesOf_length]; omega)]
    simp only [dragomanref01_Whole.l0]
    rw [if_neg (by omega)]
    exact hfin
  | succ d ih =>
    intro i k n over v hi hk h0 h1
    obtain ⟨k, rfl⟩ : ∃ m, k = m + 1 := ⟨k - 1, by omega⟩
    obtain ⟨m, hm⟩ : ∃ m, k = m + 3 := ⟨k - 3, by omega⟩
    have hfin : dragomanref01_Whole.j3 k i g n over = some (outc g i v) := by rw [hm]; exact r_j3 m g i v n over hg h0 h1
    have p1 : (i : Int) < (s.size : Int) := by omega
    have p2 : (0 : Int) ≤ i := Int.natCast_nonneg i
    have w3 : wrap64 ((i : Int) + 1) = ((i + 1 : Nat) : Int) := by rw [wrap_id (by omega) (by omega)]; rfl
    obtain ⟨b0, b1⟩ := bt_range s i
    rw [drop_cons s i (by omega), List.takeWhile_cons]
    by_cases hd : 48 ≤ bt s i ∧ bt s i ≤ 57
    · rw [(isD_iff _).2 hd]
      obtain ⟨x, hx⟩ : ∃ x : Nat, bt s i = 48 + x := ⟨(bt s i - 48).toNat, by omega⟩
      have hx9 : x ≤ 9 := by omega
      have w1 : wrap64 (wrap64 (bt s i) - 48) = (x : Int) := by rw [wrap_id (x := bt s i) (by omega) (by omega), wrap_id (by omega) (by omega)]; omega
      have hval : val v (bt s i :: ((bytesOf s).drop (i + 1)).takeWhile isD) = val (10 * v + x) (((bytesOf s).drop (i + 1)).takeWhile isD) := by
        rw [val]; congr 1; omega
      simp only [dragomanref01_Whole.l0, w1, w3, if_true]
      rw [if_pos p1, if_pos p2, if_pos hd.1, if_pos hd.2, hval]
      have hlen : i + (bt s i :: ((bytesOf s).drop (i + 1)).takeWhile isD).length = (i + 1) + (((bytesOf s).drop (i + 1)).takeWhile isD).length := by simp; omega
      rw [hlen]
      cases over with
      | true =>
        have hv := h1 rfl
        rw [if_pos rfl]
        exact ih (i + 1) k _ true (10 * v + x) (by omega) (by omega) (fun h => by cases h) (fun _ => by omega)
      | false =>
        obtain ⟨hn, hv⟩ := h0 rfl
        rw [if_neg (by decide), hn]
        by_cases ho : 9223372036854775808 < 10 * v + x
        · rw [if_pos ((r_step x v hx9 hv).2 ho)]
          exact ih (i + 1) k _ true (10 * v + x) (by omega) (by omega) (fun h => by cases h) (fun _ => ho)
        · have hnext : wrap64 (wrap64 (10 * -(v : Int)) - (x : Int)) = -((10 * v + x : Nat) : Int) := by
            rw [wrap_id (x := 10 * -(v : Int)) (by omega) (by omega), wrap_id (by omega) (by omega)]; omega
          rw [if_neg (fun z => ho ((r_step x v hx9 hv).1 z)), hnext]
          have hq : -(v : Int) = -922337203685477580 → ((x : Int) == 9) = false := by
            intro hz; rw [beq_eq_false_iff_ne]; omega
          by_cases hz : -(v : Int) = -922337203685477580
          · rw [if_pos hz, hq hz]
            exact ih (i + 1) k _ false (10 * v + x) (by omega) (by omega) (fun _ => ⟨rfl, by omega⟩) (fun h => by cases h)
          · rw [if_neg hz]
            exact ih (i + 1) k _ false (10 * v + x) (by omega) (by omega) (fun _ => ⟨rfl, by omega⟩) (fun h => by cases h)
    · have hD : isD (bt s i) = false := by rw [Bool.eq_false_iff, ne_eq, isD_iff]; exact hd
      rw [hD]
      simp only [dragomanref01_Whole.l0, Bool.false_eq_true, if_false, val, List.length_nil, Nat.add_zero]
      rw [if_pos p1, if_pos p2]
      by_cases q : bt s i ≥ 48
      · rw [if_pos q, if_neg (by omega)]; exact hfin
      · rw [if_neg q]; exact hfin
theorem rwhole_f (s : ByteArray) (k : Nat) (hs : s.size ≤ 70368744177000) (hk : s.size + 20 < k) : dragomanref01_Whole.f k s = some (wholeL (bytesOf s)) := by
  obtain ⟨k, rfl⟩ : ∃ m, k = m + 2 := ⟨k - 2, by omega⟩
  have J : ∀ q g : Nat, (q = 0 ∨ q = 1) → q ≤ s.size → dragomanref01_Whole.j1 (k + 1) s q = some (outc q (q + (((bytesOf s).drop q).takeWhile isD).length) (val 0 (((bytesOf s).drop q).takeWhile isD))) := by
    intro q _ hq hle
    simp only [dragomanref01_Whole.j1]
    exact r_loop s hs q hq (s.size - q) q k 0 false 0 (by omega) (by omega) (fun _ => ⟨rfl, by omega⟩) (fun h => by cases h)
  have hsg := sgn_eq s
  have hsl := signAt_le s
  unfold dragomanref01_Whole.f wholeL figs
  unfold signAt at hsg hsl
  by_cases h : 0 < s.size
  · rw [if_pos (by omega), if_pos (by omega)]
    simp only [dragomanref01_Whole.j0]
    by_cases q : bt s 0 = 45
    · rw [if_pos ⟨h, q⟩] at hsg
      have : (bt s 0 == 45) = true := by rw [beq_iff_eq]; exact q
      rw [this, if_pos rfl, ← hsg]
      exact J 1 0 (.inr rfl) (by omega)
    · rw [if_neg (fun z => q z.2)] at hsg
      have : (bt s 0 == 45) = false := by rw [beq_eq_false_iff_ne]; exact q
      rw [this, if_neg (by decide), ← hsg]
      exact J 0 0 (.inl rfl) (by omega)
  · rw [if_neg (fun z => h z.1)] at hsg
    rw [if_neg (by omega)]
    simp only [dragomanref01_Whole.j0]
    rw [if_neg (by decide), ← hsg]
    exact J 0 0 (.inl rfl) (by omega)
end Go.Proofs.YtambnodgfhlpfaaDoor.P
