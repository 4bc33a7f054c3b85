/- The plain law of layer 1: what texts in digits are, and that they are read as they were. No Go and no memory stands here. -/
import Derived.Test.YtldagaiphggnnaaDoorQAx
namespace Go.Proofs.YtldagaiphggnnaaDoor.PA
open Go.RowKit Go.Proofs.YtldagaiphggnnaaDoorW.PrintWords Go.Proofs.YtldagaiphggnnaaDoorW.PrintLast Go.Proofs.YtldagaiphggnnaaDoor.G Go.Proofs.YtldagaiphggnnaaDoor.GA Go.Proofs.YtldagaiphggnnaaDoor.QA

/-! ### bytes -/
def Bytes (l : List Int) : Prop := ∀ b ∈ l, 0 ≤ b ∧ b ≤ 255
theorem bytes_of (s : ByteArray) : Bytes (bytesOf s) := by
  intro b hb
  simp only [bytesOf, List.mem_map] at hb
  obtain ⟨x, _, rfl⟩ := hb
  have := x.toNat_lt
  omega
theorem bytesOf_strOfNums (l : List Int) (h : Bytes l) : bytesOf (strOfNums l) = l := by
  unfold bytesOf strOfNums
  rw [show (ByteArray.mk (List.map (fun n => UInt8.ofNat n.toNat) l).toArray).data.toList = l.map fun n => UInt8.ofNat n.toNat from rfl, List.map_map]
  conv => rhs; rw [← List.map_id l]
  apply List.map_congr_left
  intro b hb
  obtain ⟨h0, h1⟩ := h b hb
  simp only [Function.comp, id, UInt8.toNat_ofNat']
  omega
theorem ext_bytes {a b : ByteArray} (h : bytesOf a = bytesOf b) : a = b := by
  unfold bytesOf at h
  have h2 : a.data.toList = b.data.toList := by
    refine List.map_inj_right (f := fun b : UInt8 => (b.toNat : Int)) ?_ |>.1 h
    intro x y hxy
    exact UInt8.toNat_inj.1 (Int.ofNat.inj hxy)
  exact ByteArray.ext (Array.ext' h2)
theorem strOfNums_bytesOf (s : ByteArray) : strOfNums (bytesOf s) = s := ext_bytes (bytesOf_strOfNums _ (bytes_of s))
theorem bytesOf_append (a b : ByteArray) : bytesOf (a ++ b) = bytesOf a ++ bytesOf b := by
  unfold bytesOf
  rw [ByteArray.data_append, Array.toList_append, List.map_append]
theorem bt_get (s : ByteArray) (i : Nat) (h : i < s.size) : bt s i = (bytesOf s)[i]'(by rw [bytesOf_length]; exact h) := by
  unfold bt bytesOf
  simp [h]
  rfl
theorem toList_inj {a b : ByteArray} : a.toList = b.toList ↔ a = b := by
  constructor
  · intro h
    rw [ByteArray.toList_eq, ByteArray.toList_eq] at h
    exact ByteArray.ext (Array.ext' h)
  · rintro rfl; rfl

/-! ### digits -/
def enc (l : List Int) : List Int := l.flatMap fun b => [dg (b / 16), dg (b % 16)]
def hd (c : Int) : Option Int := if 48 ≤ c ∧ c ≤ 57 then some (c - 48) else if 97 ≤ c ∧ c ≤ 102 then some (c - 87) else none
def un : List Int → Option (List Int)
  | [] => some []
  | [_] => none
  | a :: b :: r => match hd a, hd b with
    | some x, some y => (un r).map ((16 * x + y) :: ·)
    | _, _ => none
theorem hd_dg (d : Int) (h0 : 0 ≤ d) (h1 : d < 16) : hd (dg d) = some d := by
  unfold hd dg
  by_cases h : d < 10
  · rw [if_pos h, if_pos (by omega)]; congr 1; omega
  · rw [if_neg h, if_neg (by omega), if_pos (by omega)]; congr 1; omega
theorem dg_hd {c x : Int} (h : hd c = some x) : dg x = c ∧ 0 ≤ x ∧ x < 16 := by
  unfold hd at h
  split at h
  · obtain rfl := Option.some.inj h
    unfold dg; rw [if_pos (by omega)]; omega
  · split at h
    · obtain rfl := Option.some.inj h
      unfold dg; rw [if_neg (by omega)]; omega
    · cases h
theorem un_enc : ∀ l, Bytes l → un (enc l) = some l
  | [], _ => rfl
  | b :: r, h => by
    have hb := h b (by simp)
    have e : enc (b :: r) = dg (b / 16) :: dg (b % 16) :: enc r := by simp [enc]
    rw [e, un, hd_dg _ (by omega) (by omega), hd_dg _ (by omega) (by omega), un_enc r (fun x hx => h x (by simp [hx]))]
    simp only [Option.map_some]
    congr 2
    omega
theorem enc_un : ∀ r l, un r = some l → enc l = r ∧ Bytes l
  | [], l, h => by simp only [un] at h; obtain rfl := Option.some.inj h; exact ⟨rfl, fun _ h => by simp at h⟩
  | [_], l, h => by simp [un] at h
  | a :: b :: r, l, h => by
    simp only [un] at h
    cases ha : hd a with
    | none => simp [ha] at h
    | some x => cases hb : hd b with
      | none => simp [ha, hb] at h
      | some y =>
        simp only [ha, hb, Option.map_eq_some_iff] at h
        obtain ⟨l', hl, rfl⟩ := h
        obtain ⟨e1, e2⟩ := enc_un r l' hl
        obtain ⟨d1, d2, d3⟩ := dg_hd ha
        obtain ⟨f1, f2, f3⟩ := dg_hd hb
        have q1 : (16 * x + y) / 16 = x := by omega
        have q2 : (16 * x + y) % 16 = y := by omega
        refine ⟨by simp [enc, q1, q2, d1, f1]; exact e1, ?_⟩
        intro z hz
        rcases List.mem_cons.1 hz with rfl | hz
        · omega
        · exact e2 z hz
theorem enc_append (a b : List Int) : enc (a ++ b) = enc a ++ enc b := by simp [enc]
theorem enc_length : ∀ l, (enc l).length = 2 * l.length
  | [] => rfl
  | b :: r => by
    have e : enc (b :: r) = dg (b / 16) :: dg (b % 16) :: enc r := by simp [enc]
    rw [e]; simp [enc_length r]; omega
theorem enc_bytes (l : List Int) (h : Bytes l) : Bytes (enc l) := by
  intro c hc
  simp only [enc, List.mem_flatMap, List.mem_cons, List.not_mem_nil, or_false] at hc
  obtain ⟨b, hb, rfl | rfl⟩ := hc <;> (have := h b hb; unfold dg; split <;> omega)

/-! ### a text in digits -/
theorem hexL_enc (s : ByteArray) : ∀ k, k ≤ s.size → hexL s k = 120 :: enc ((bytesOf s).take k)
  | 0, _ => by simp [hexL, enc]
  | k + 1, h => by
    have hk : k < (bytesOf s).length := by rw [bytesOf_length]; omega
    rw [hexL, hexL_enc s k (by omega), List.take_succ_eq_append_getElem hk, enc_append, bt_get s k (by omega)]
    simp [enc]
def hexV (s : ByteArray) : ByteArray := strOfNums (120 :: enc (bytesOf s))
theorem hex_f (s : ByteArray) (h : s.size ≤ 70368744177000) : hex_Hex.f s = some (hexV s) := by
  unfold hex_Hex.f hexV
  rw [if_pos h, hexL_enc s _ (Nat.le_refl _), List.take_of_length_le (by rw [bytesOf_length]; exact Nat.le_refl _)]
theorem bytes_hexV (s : ByteArray) : bytesOf (hexV s) = 120 :: enc (bytesOf s) := by
  unfold hexV
  apply bytesOf_strOfNums
  intro b hb
  rcases List.mem_cons.1 hb with rfl | hb
  · omega
  · exact enc_bytes _ (bytes_of s) b hb
theorem size_hexV (s : ByteArray) : (hexV s).size = 1 + 2 * s.size := by
  rw [← bytesOf_length, bytes_hexV]; simp [enc_length, bytesOf_length]; omega

/-! ### a digit -/
def dig (c : Int) : Int := if 48 ≤ c ∧ c ≤ 57 then c - 48 else if 97 ≤ c ∧ c ≤ 102 then c - 87 else if 65 ≤ c ∧ c ≤ 70 then c - 55 else -1
theorem digit_f (c : Int) (k : Nat) (h0 : 0 ≤ c) (h1 : c ≤ 255) : hex_Digit.f (k + 2) c = some (dig c) := by
  unfold hex_Digit.f dig
  by_cases a : c ≥ 48
  · rw [if_pos a]
    by_cases b : c ≤ 57
    · simp only [hex_Digit.j0, b, decide_true, if_true]; rw [if_pos ⟨a, trivial⟩]; congr 1; omega
    · simp only [hex_Digit.j0, b, decide_false, Bool.false_eq_true, if_false]
      rw [if_neg (fun h : 48 ≤ c ∧ False => h.2)]
      by_cases d : c ≥ 97
      · rw [if_pos d]
        by_cases e : c ≤ 102
        · simp only [hex_Digit.j1, e, decide_true, if_true]; rw [if_pos ⟨d, trivial⟩]; congr 1; omega
        · simp only [hex_Digit.j1, e, decide_false, Bool.false_eq_true, if_false]
          rw [if_neg (fun h : 97 ≤ c ∧ False => h.2), if_pos (by omega), if_neg (by omega), if_neg (by omega)]
      · rw [if_neg d]
        simp only [hex_Digit.j1, Bool.false_eq_true, if_false]
        rw [if_neg (by omega : ¬ (97 ≤ c ∧ c ≤ 102))]
        by_cases e : c ≥ 65
        · rw [if_pos e]
          by_cases g : c ≤ 70
          · rw [if_pos g, if_pos ⟨e, g⟩]; congr 1; omega
          · rw [if_neg g, if_neg (by omega)]
        · rw [if_neg e, if_neg (by omega)]
  · rw [if_neg a]
    simp only [hex_Digit.j0, hex_Digit.j1, Bool.false_eq_true, if_false]
    rw [if_neg (by omega), if_neg (by omega), if_neg (by omega), if_neg (by omega), if_neg (by omega)]

/-! ### the text of digits -/
theorem or16 (x y : Int) (x0 : 0 ≤ x) (x1 : x < 16) (y0 : 0 ≤ y) (y1 : y < 16) : (Go.bits .or .i64 (wrap64 (x * 16)) y) % 256 = 16 * x + y := by
  obtain ⟨n, rfl⟩ := Int.eq_ofNat_of_zero_le x0
  obtain ⟨m, rfl⟩ := Int.eq_ofNat_of_zero_le y0
  have key : ∀ (a b : Fin 16), (Go.bits .or .i64 (wrap64 (((a.val : Nat) : Int) * 16)) ((b.val : Nat) : Int)) % 256 = 16 * ((a.val : Nat) : Int) + ((b.val : Nat) : Int) := by decide +kernel
  exact key ⟨n, by omega⟩ ⟨m, by omega⟩
theorem hd_some {c x : Int} (h : hd c = some x) : dig c = x ∧ ¬ dig c < 0 ∧ (c < 97 → ¬ c > 57) := by
  obtain ⟨h1, h2, h3⟩ := dg_hd h
  have : dig c = x := by
    unfold hd at h; unfold dig
    split at h
    · rename_i q; rw [if_pos q]; exact Option.some.inj h
    · rename_i q
      rw [if_neg q]
      split at h
      · rename_i q2; rw [if_pos q2]; exact Option.some.inj h
      · cases h
  refine ⟨this, by omega, ?_⟩
  unfold hd at h
  split at h
  · omega
  · split at h
    · omega
    · cases h
theorem hd_none {c : Int} (h : hd c = none) : dig c < 0 ∨ (c < 97 ∧ c > 57) := by
  unfold hd at h
  split at h
  · cases h
  · split at h
    · cases h
    · unfold dig
      rename_i q1 q2
      rw [if_neg q1, if_neg q2]
      split <;> omega
theorem un_step (s : ByteArray) (n i k : Nat) (acc : List Int) (hs : s.size = 2 * n + 1) (hn : s.size ≤ 70368744177000) (hi : i < n) (hk : 6 ≤ k) (hl : acc.length < 140737488355328) :
    hex_Unhex.l0 (k + 2) s acc n i = match hd (bt s (1 + 2 * i)), hd (bt s (2 + 2 * i)) with
      | some x, some y => hex_Unhex.l0 k s (acc ++ [16 * x + y]) n (i + 1)
      | _, _ => some (⟨#[]⟩, 2) := by
  obtain ⟨k, rfl⟩ : ∃ m, k = m + 6 := ⟨k - 6, by omega⟩
  have w1 : wrap64 (1 + wrap64 (2 * (i : Int))) = 1 + 2 * i := by unfold wrap64; omega
  have w2 : wrap64 (2 + wrap64 (2 * (i : Int))) = 2 + 2 * i := by unfold wrap64; omega
  have w3 : wrap64 ((i : Int) + 1) = i + 1 := by unfold wrap64; omega
  obtain ⟨a0, a1⟩ := bt_range s (1 + 2 * i)
  obtain ⟨b0, b1⟩ := bt_range s (2 + 2 * i)
  simp only [hex_Unhex.l0, w1, w2]
  rw [if_pos (by omega), if_pos (by omega), if_pos (by omega), if_pos (by omega), if_pos (by omega)]
  simp only [show k + 6 + 1 = (k + 5) + 2 from rfl, digit_f _ _ a0 a1, digit_f _ _ b0 b1, Option.bind_some]
  have J : ∀ q, hex_Unhex.j2 (k + 5 + 2) s acc (bt s (1 + 2 * i)) (bt s (2 + 2 * i)) n i q = if q = true then some (⟨#[]⟩, 2) else hex_Unhex.l0 (k + 6) s (acc ++ [(Go.bits .or .i64 (wrap64 (dig (bt s (1 + 2 * i)) * 16)) (dig (bt s (2 + 2 * i)))) % 256]) n (i + 1) := by
    intro q
    simp only [hex_Unhex.j2]
    simp only [show k + 5 + 1 = (k + 4) + 2 from rfl, digit_f _ _ a0 a1, digit_f _ _ b0 b1, Option.bind_some, w3]
    rw [if_pos hl]
  have Jt := (J true).trans (if_pos rfl)
  have Jf := (J false).trans (if_neg (by decide))
  clear J
  cases ha : hd (bt s (1 + 2 * i)) with
  | none =>
    rcases hd_none ha with h | ⟨h1, h2⟩
    · rw [if_pos h]; exact Jt
    · by_cases qa : dig (bt s (1 + 2 * i)) < 0
      · rw [if_pos qa]; exact Jt
      · rw [if_neg qa]
        by_cases qb : dig (bt s (2 + 2 * i)) < 0
        · rw [if_pos qb]; exact Jt
        · rw [if_neg qb, if_pos h1, if_pos h2]; exact Jt
  | some x =>
    obtain ⟨e1, e2, e3⟩ := hd_some ha
    rw [if_neg e2]
    cases hb : hd (bt s (2 + 2 * i)) with
    | none =>
      rcases hd_none hb with h | ⟨h1, h2⟩
      · rw [if_pos h]; exact Jt
      · have h2' : decide (bt s (2 + 2 * i) > 57) = true := decide_eq_true h2
        by_cases qb : dig (bt s (2 + 2 * i)) < 0
        · rw [if_pos qb]; exact Jt
        · rw [if_neg qb]
          by_cases qc : bt s (1 + 2 * i) < 97
          · rw [if_pos qc, if_neg (e3 qc), if_pos h1, h2']; exact Jt
          · rw [if_neg qc, if_pos h1, h2']; exact Jt
    | some y =>
      obtain ⟨f1, f2, f3⟩ := hd_some hb
      obtain ⟨_, x0, x1⟩ := dg_hd ha
      obtain ⟨_, y0, y1⟩ := dg_hd hb
      rw [e1, f1, or16 x y x0 x1 y0 y1] at Jf
      rw [if_neg f2]
      have h2' : bt s (2 + 2 * i) < 97 → decide (bt s (2 + 2 * i) > 57) = false := fun h => decide_eq_false (f3 h)
      by_cases qc : bt s (1 + 2 * i) < 97
      · rw [if_pos qc, if_neg (e3 qc)]
        by_cases qd : bt s (2 + 2 * i) < 97
        · rw [if_pos qd, h2' qd]; exact Jf
        · rw [if_neg qd]; exact Jf
      · rw [if_neg qc]
        by_cases qd : bt s (2 + 2 * i) < 97
        · rw [if_pos qd, h2' qd]; exact Jf
        · rw [if_neg qd]; exact Jf
/-- What Unhex comes to. -/
def unV (s : ByteArray) : ByteArray × Int := match bytesOf s with
  | [] => (⟨#[]⟩, 2)
  | c :: r => if c = 120 then match un r with
    | some l => (strOfNums l, 0)
    | none => (⟨#[]⟩, 2) else (⟨#[]⟩, 2)
theorem un_loop (s : ByteArray) (n : Nat) (hs : s.size = 2 * n + 1) (hn : s.size ≤ 70368744177000) : ∀ d i k acc, i + d = n → 2 * d + 8 ≤ k → acc.length + d ≤ 70368744177000 →
    hex_Unhex.l0 k s acc n i = some (match un ((bytesOf s).drop (1 + 2 * i)) with
      | some l => (strOfNums (acc ++ l), 0)
      | none => (⟨#[]⟩, 2))
  | 0, i, k, acc, hi, hk, ha => by
    obtain ⟨k, rfl⟩ : ∃ m, k = m + 1 := ⟨k - 1, by omega⟩
    rw [List.drop_eq_nil_of_le (by rw [bytesOf_length]; omega)]
    simp only [hex_Unhex.l0, un, List.append_nil]
    rw [if_neg (by omega)]
  | d + 1, i, k, acc, hi, hk, ha => by
    obtain ⟨k, rfl⟩ : ∃ m, k = m + 2 := ⟨k - 2, by omega⟩
    rw [un_step s n i k acc hs hn (by omega) (by omega) (by omega)]
    have l1 : 1 + 2 * i < (bytesOf s).length := by rw [bytesOf_length]; omega
    have l2 : 1 + 2 * i + 1 < (bytesOf s).length := by rw [bytesOf_length]; omega
    rw [List.drop_eq_getElem_cons l1, List.drop_eq_getElem_cons l2, ← bt_get s (1 + 2 * i) (by omega), ← bt_get s (1 + 2 * i + 1) (by omega)]
    have c1 : ((1 + 2 * i : Nat) : Int) = 1 + 2 * (i : Int) := by omega
    have c2 : ((1 + 2 * i + 1 : Nat) : Int) = 2 + 2 * (i : Int) := by omega
    rw [c1, c2]
    simp only [un]
    cases hx : hd (bt s (1 + 2 * i)) with
    | none => rfl
    | some x => cases hy : hd (bt s (2 + 2 * i)) with
      | none => rfl
      | some y =>
        have ih := un_loop s n hs hn d (i + 1) k (acc ++ [16 * x + y]) (by omega) (by omega) (by simp; omega)
        rw [show ((i + 1 : Nat) : Int) = (i : Int) + 1 by omega, show 1 + 2 * (i + 1) = 1 + 2 * i + 1 + 1 by omega] at ih
        show hex_Unhex.l0 k s (acc ++ [16 * x + y]) n (i + 1) = _
        rw [ih]
        cases un ((bytesOf s).drop (1 + 2 * i + 1 + 1)) with
        | none => rfl
        | some l =>
          show some (strOfNums (acc ++ [16 * x + y] ++ l), (0 : Int)) = some (strOfNums (acc ++ (16 * x + y) :: l), 0)
          rw [List.append_assoc]; rfl
theorem un_odd : ∀ l, l.length % 2 = 1 → un l = none
  | [_], _ => rfl
  | a :: b :: r, h => by
    simp only [List.length_cons] at h
    simp only [un, un_odd r (by omega)]
    cases hd a <;> cases hd b <;> rfl
theorem unhex_f (s : ByteArray) (k : Nat) (h : s.size ≤ 70368744177000) (hk : s.size + 20 ≤ k) : hex_Unhex.f k s = some (unV s) := by
  obtain ⟨k, rfl⟩ : ∃ m, k = m + 1 := ⟨k - 1, by omega⟩
  have hl := bytesOf_length s
  unfold hex_Unhex.f unV
  by_cases he : s.size % 2 = 0
  · rw [if_pos (by omega)]
    simp only [hex_Unhex.j0, if_true]
    cases hb : bytesOf s with
    | nil => rfl
    | cons c r =>
      rw [hb] at hl
      simp only [List.length_cons] at hl
      simp only [un_odd r (by omega)]
      split <;> rfl
  · rw [if_neg (by omega), if_pos (by omega)]
    have hb : bytesOf s = bt s 0 :: (bytesOf s).drop 1 := by
      have := List.drop_eq_getElem_cons (l := bytesOf s) (i := 0) (by omega)
      rw [List.drop_zero] at this
      rw [this]
      rw [← bt_get s 0 (by omega)]
      rfl
    rw [hb]
    simp only
    by_cases hc : bt s 0 = 120
    · have h1 : (bt s 0 != 120) = false := by rw [bne_eq_false_iff_eq]; exact hc
      have hw : wrap64 ((s.size : Int) / 2) = ((s.size / 2 : Nat) : Int) := by unfold wrap64; omega
      have hz : ((0 : Nat) : Int) = 0 := rfl
      simp only [h1, hex_Unhex.j0, Bool.false_eq_true, if_false, hw]
      rw [← hz, un_loop s (s.size / 2) (by omega) h (s.size / 2) 0 k [] (by omega) (by omega) (by simp; omega), if_pos (by rw [hz]; exact hc)]
      rfl
    · have h1 : (bt s 0 != 120) = true := by rw [bne_iff_ne]; exact hc
      simp only [h1, hex_Unhex.j0, if_true]
      rw [if_neg hc]
/-- What is told is read. -/
theorem unV_hexV (s : ByteArray) : unV (hexV s) = (s, 0) := by
  unfold unV
  rw [bytes_hexV]
  simp only [if_true, un_enc _ (bytes_of s), strOfNums_bytesOf]
theorem unV_of {s b : ByteArray} (h : unV s = (b, 0)) : hexV b = s := by
  unfold unV at h
  cases hb : bytesOf s with
  | nil => rw [hb] at h; simp at h
  | cons c r =>
    rw [hb] at h
    simp only at h
    by_cases hc : c = 120
    · subst hc
      rw [if_pos rfl] at h
      cases hu : un r with
      | none => rw [hu] at h; simp at h
      | some l =>
        rw [hu] at h
        simp only [Prod.mk.injEq, and_true] at h
        subst h
        obtain ⟨e1, e2⟩ := enc_un r l hu
        apply ext_bytes
        rw [bytes_hexV, bytesOf_strOfNums _ e2, e1, hb]
    · rw [if_neg hc] at h; simp at h
theorem unV_cases (s : ByteArray) : (∃ b, unV s = (b, 0)) ∨ unV s = (⟨#[]⟩, 2) := by
  unfold unV
  split
  · exact .inr rfl
  · split
    · split
      · exact .inl ⟨_, rfl⟩
      · exact .inr rfl
    · exact .inr rfl
end Go.Proofs.YtldagaiphggnnaaDoor.PA
