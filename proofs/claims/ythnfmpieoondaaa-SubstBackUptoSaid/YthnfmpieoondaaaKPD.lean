/- Texts of this seat, put together: each part tells above it what it proves and on what conditions. -/
import Derived.Test.YthnfmpieoondaaaKPC
/- How a replacement is written and read, in plain words (the laws Texts and Back of Subst). -/
section
set_option linter.unusedVariables false
set_option linter.unusedSimpArgs false
namespace Go.Proofs.Ythnfmpieoondaaa.P
open Go.RowKit Go.Proofs.YthnfmpieoondaaaW.PrintWords Go.Proofs.Ythnfmpieoondaaa.QA Go.Proofs.Ythnfmpieoondaaa.QB Go.Proofs.Ythnfmpieoondaaa.QC Go.Proofs.Ythnfmpieoondaaa.G Go.Proofs.Ythnfmpieoondaaa.Mt
/-- The text of a list of bytes. -/
def B (L : List UInt8) : ByteArray := ⟨L.toArray⟩
theorem B_data (L : List UInt8) : (B L).data.toList = L := by simp [B]
theorem B_of (s : ByteArray) : B s.data.toList = s := by cases s; simp [B]
theorem B_size (L : List UInt8) : (B L).size = L.length := by rw [← data_length, B_data]
theorem B_app (a b : List UInt8) : B a ++ B b = B (a ++ b) := by rw [← B_of (B a ++ B b), app_data, B_data, B_data]
theorem B_ext (L : List UInt8) (i : Nat) : (B L).extract i (B L).size = B (L.drop i) := by
  rw [← B_of ((B L).extract i (B L).size), ext_data, B_data, B_size, List.take_of_length_le (by simp)]
theorem B_bt (L : List UInt8) (i : Nat) : bt (B L) (i : Int) = if h : i < L.length then (L[i].toNat : Int) else 0 := by
  unfold bt
  by_cases h : i < L.length
  · rw [dif_pos (by rw [B_size, Int.toNat_natCast]; exact h), dif_pos h]; rfl
  · rw [dif_neg (by rw [B_size, Int.toNat_natCast]; exact h), dif_neg h]
theorem B_bt0 (a : UInt8) (L : List UInt8) : bt (B (a :: L)) 0 = a.toNat := by rw [show (0 : Int) = ((0 : Nat) : Int) from rfl, B_bt, dif_pos (by simp)]; rfl
/-- How a byte is written. -/
def hx (n : Nat) : UInt8 := if n < 10 then UInt8.ofNat (48 + n) else UInt8.ofNat (87 + n)
def pl (c : UInt8) : List UInt8 :=
  if c.toNat = 32 ∨ c.toNat = 95 ∨ (48 ≤ c.toNat ∧ c.toNat ≤ 57) ∨ (65 ≤ c.toNat ∧ c.toNat ≤ 90) ∨ (97 ≤ c.toNat ∧ c.toNat ≤ 122) then [c] else [92, 120, hx (c.toNat / 16), hx (c.toNat % 16)]
set_option maxRecDepth 100000 in
theorem plain_fin : ∀ n : Fin 256, (class_Plain.f (n.val : Int)).map (fun b => b.data.toList) = some (pl (UInt8.ofNat n.val)) ∧ (dragomanref04_Plain.f 20 (n.val : Int)).map (fun b => b.data.toList) = some (pl (UInt8.ofNat n.val)) := by decide +kernel
theorem map_B {o : Option ByteArray} {L : List UInt8} (h : o.map (fun b => b.data.toList) = some L) : o = some (B L) := by
  cases o with
  | none => simp at h
  | some b => simp only [Option.map_some, Option.some.injEq] at h; rw [← h, B_of]
theorem plain_at (c : UInt8) : class_Plain.f (c.toNat : Int) = some (B (pl c)) ∧ ∀ k, 20 ≤ k → dragomanref04_Plain.f k (c.toNat : Int) = some (B (pl c)) := by
  have h := plain_fin ⟨c.toNat, c.toNat_lt⟩
  dsimp only at h
  rw [UInt8.ofNat_toNat] at h
  exact ⟨map_B h.1, fun k hk => at_rounds (fun k => dragomanref04_Plain.mono _ k) hk (map_B h.2)⟩
theorem pl_len (c : UInt8) : 1 ≤ (pl c).length ∧ (pl c).length ≤ 4 := by unfold pl; split <;> simp
def pls (L : List UInt8) : List UInt8 := L.flatMap pl
theorem pls_len : ∀ L : List UInt8, (pls L).length ≤ 4 * L.length
  | [] => by simp [pls]
  | c :: L => by have := pls_len L; have := pl_len c; simp only [pls, List.flatMap_cons, List.length_append, List.length_cons] at *; omega
theorem bt_mem (s : ByteArray) (j : Nat) (h : j < s.size) : ∃ c : UInt8, bt s (j : Int) = (c.toNat : Int) ∧ s.data.toList.drop j = c :: s.data.toList.drop (j + 1) := by
  refine ⟨s[j]'h, (bt_at s (j : Int) (by rw [Int.toNat_natCast]; exact h)).symm, ?_⟩
  rw [List.drop_eq_getElem_cons (by rw [data_length]; exact h)]
  rfl
/-! ### Text -/
theorem Text_l1 (s : ByteArray) (hs : s.size ≤ 4611686018427387904) : ∀ (d j k : Nat) (t : ByteArray), j + d = s.size → d < k → t.size + 4 * d ≤ 9223372036854775807 → subst_Text.l1 k s t (j : Int) = some (t ++ B (pls (s.data.toList.drop j))) := by
  intro d
  induction d with
  | zero =>
    intro j k t hj hk ht
    obtain ⟨k, rfl⟩ : ∃ m, k = m + 1 := ⟨k - 1, by omega⟩
    rw [subst_Text.l1, if_neg (by omega), List.drop_of_length_le (by rw [data_length]; omega)]
    congr 1
    rw [← B_of t, B_app, pls, List.flatMap_nil, List.append_nil]
  | succ d ih =>
    intro j k t hj hk ht
    obtain ⟨k, rfl⟩ : ∃ m, k = m + 1 := ⟨k - 1, by omega⟩
    obtain ⟨c, hc, hd⟩ := bt_mem s j (by omega)
    have hl := pl_len c
    rw [subst_Text.l1, if_pos (by omega), if_pos (by omega)]
    rw [hc, (plain_at c).1, Option.bind_some, if_pos (by rw [B_size]; omega), wrap_up j (by omega), ih (j + 1) k _ (by omega) (by omega) (by rw [ByteArray.size_append, B_size]; omega), hd]
    congr 1
    rw [← B_of t, B_app, B_app, B_app, pls, pls, List.flatMap_cons, List.append_assoc]
theorem tot_le_drop (l : List ByteArray) : ∀ i : Nat, tot (l.drop i) ≤ tot l := by
  induction l with
  | nil => intro i; simp
  | cons x l ih => intro i; cases i with
    | zero => simp
    | succ i => rw [List.drop_succ_cons]; have := ih i; simp only [tot]; omega
theorem Text_l0 (l : List ByteArray) (hl : l.length + tot l ≤ 1048576) : ∀ (d i k : Nat) (out : List ByteArray), i + d = l.length → d + tot (l.drop i) < k → out.length ≤ i → subst_Text.l0 k l out (i : Int) = some (out ++ (l.drop i).map fun s => B (pls s.data.toList)) := by
  intro d
  induction d with
  | zero =>
    intro i k out hi hk ho
    obtain ⟨k, rfl⟩ : ∃ m, k = m + 1 := ⟨k - 1, by omega⟩
    rw [subst_Text.l0, if_neg (by omega), List.drop_of_length_le (by omega), List.map_nil, List.append_nil]
  | succ d ih =>
    intro i k out hi hk ho
    obtain ⟨k, rfl⟩ : ∃ m, k = m + 1 := ⟨k - 1, by omega⟩
    have ht := tot_drop l i (by omega)
    have hle := tot_le_drop l i
    have hT := Text_l1 (rdOf ByteArray.empty l (i : Int)) (by omega) (rdOf ByteArray.empty l (i : Int)).size 0 k ⟨#[]⟩ (by omega) (by omega) (by rw [show (⟨#[]⟩ : ByteArray).size = 0 from rfl]; omega)
    rw [show ((0 : Nat) : Int) = 0 from rfl] at hT
    rw [subst_Text.l0, if_pos (by omega), if_pos (by omega), if_pos (by omega), if_pos (by omega), hT, Option.bind_some, wrap_up i (by omega), ih (i + 1) k _ (by omega) (by omega) (by rw [List.length_append, List.length_singleton]; omega), rdOf_cons l i (by omega)]
    simp only [List.drop_zero, List.map_cons, List.append_assoc, List.singleton_append]
    have hE : ∀ X : List UInt8, (⟨#[]⟩ : ByteArray) ++ B X = B X := fun X => by rw [show (⟨#[]⟩ : ByteArray) = B [] from rfl, B_app, List.nil_append]
    rw [hE]
def wr (l : List ByteArray) : List ByteArray := l.map fun s => B (pls s.data.toList)
def amp : ByteArray := ⟨#[38]⟩
def txt (l : List ByteArray) : List UInt8 := joinL (wr l) amp
theorem tot_wr : ∀ l : List ByteArray, tot (wr l) ≤ 4 * tot l
  | [] => by simp [wr, tot]
  | s :: l => by
    have := tot_wr l; have h := pls_len s.data.toList
    rw [data_length] at h
    simp only [wr, List.map_cons, tot, B_size] at *; omega
theorem txt_len (l : List ByteArray) : (txt l).length ≤ 4 * tot l + l.length := by
  have h1 := joinL_le (wr l) amp; have h2 := tot_wr l
  have h3 : (wr l).length = l.length := by simp [wr]
  have h4 : amp.size = 1 := rfl
  rw [h3, h4] at h1; unfold txt; omega
theorem Text_is (l : List ByteArray) (hl : l.length + tot l ≤ 1048576) (k : Nat) (hk : l.length + tot l < k) : subst_Text.f k l = some (B (txt l)) := by
  unfold subst_Text.f
  have h := Text_l0 l hl l.length 0 k [] (by omega) (by rw [List.drop_zero]; omega) (by simp)
  rw [show ((0 : Nat) : Int) = 0 from rfl] at h
  rw [h, Option.bind_some, List.nil_append, List.drop_zero]
  have h2 := txt_len l
  unfold strings_Join.f
  rw [if_pos ⟨by simp; omega, by show (txt l).length ≤ _; omega⟩]
  rfl
/-! ### the reference's text -/
end Go.Proofs.Ythnfmpieoondaaa.P
end

/- How a byte's sign and a replacement are read, in plain words (Subst). -/
section
set_option linter.unusedVariables false
set_option linter.unusedSimpArgs false
namespace Go.Proofs.Ythnfmpieoondaaa.P
open Go.RowKit Go.Proofs.YthnfmpieoondaaaW.PrintWords Go.Proofs.Ythnfmpieoondaaa.QA Go.Proofs.Ythnfmpieoondaaa.QB Go.Proofs.Ythnfmpieoondaaa.QC Go.Proofs.Ythnfmpieoondaaa.G Go.Proofs.Ythnfmpieoondaaa.Mt
/-- The number of a digit. -/
def dgv (n : Nat) : Int := if 48 ≤ n ∧ n ≤ 57 then (n : Int) - 48 else if 97 ≤ n ∧ n ≤ 102 then (n : Int) - 87 else if 65 ≤ n ∧ n ≤ 70 then (n : Int) - 55 else -1
set_option maxRecDepth 100000 in
theorem digit_fin : ∀ n : Fin 256, hex_Digit.f 9 (n.val : Int) = some (dgv n.val) ∧ dragomanref01_Digit.f 9 (n.val : Int) = some (dgv n.val) := by decide +kernel
theorem digit_at (s : ByteArray) (i : Int) (k : Nat) (hk : 9 ≤ k) : hex_Digit.f k (bt s i) = some (dgv (bt s i).toNat) ∧ dragomanref01_Digit.f k (bt s i) = some (dgv (bt s i).toNat) := by
  have hr := bt_range s i
  have h := digit_fin ⟨(bt s i).toNat, by omega⟩
  dsimp only at h
  rw [Int.toNat_of_nonneg hr.1] at h
  exact ⟨at_rounds (fun k => hex_Digit.mono _ k) hk h.1, at_rounds (fun k => dragomanref01_Digit.mono _ k) hk h.2⟩
theorem dgv_le (n : Nat) : -1 ≤ dgv n ∧ dgv n ≤ 15 := by unfold dgv; split <;> (try split) <;> (try split) <;> omega
def marks : ByteArray := ⟨#[92, 93, 91, 94, 45, 47, 46, 42, 43, 63, 40, 41, 124, 123, 125, 36]⟩
def isMark (n : Nat) : Bool := n == 92 || n == 93 || n == 91 || n == 94 || n == 45 || n == 47 || n == 46 || n == 42 || n == 43 || n == 63 || n == 40 || n == 41 || n == 124 || n == 123 || n == 125 || n == 36
set_option maxRecDepth 100000 in
theorem marks_fin : ∀ n : Fin 256, decide (0 ≤ Lib.indexByte marks.data.toList (UInt8.ofNat n.val)) = isMark n.val := by decide +kernel
theorem marks_at (s : ByteArray) (i : Int) : ∃ t, strings_IndexByte.f marks (bt s i) = some t ∧ (t ≥ 0 ↔ isMark (bt s i).toNat = true) := by
  have hr := bt_range s i
  refine ⟨_, rfl, ?_⟩
  have h := marks_fin ⟨(bt s i).toNat, by omega⟩
  dsimp only at h
  rw [← h, decide_eq_true_iff]
theorem or_add : ∀ a b : Fin 16, (Go.bits .or .i64 (wrap64 ((a.val : Int) * 16)) (b.val : Int)) % 256 = ((16 * a.val + b.val : Nat) : Int) ∧ (wrap64 ((wrap64 (16 * (a.val : Int))) + (b.val : Int))) % 256 = ((16 * a.val + b.val : Nat) : Int) := by decide +kernel
theorem or_add' (x y : Int) (hx : 0 ≤ x) (hx' : x ≤ 15) (hy : 0 ≤ y) (hy' : y ≤ 15) : (Go.bits .or .i64 (wrap64 (x * 16)) y) % 256 = 16 * x + y ∧ (wrap64 ((wrap64 (16 * x)) + y)) % 256 = 16 * x + y := by
  have h := or_add ⟨x.toNat, by omega⟩ ⟨y.toNat, by omega⟩
  dsimp only at h
  rw [Int.toNat_of_nonneg hx, Int.toNat_of_nonneg hy] at h
  rw [h.1, h.2]; omega
/-- A sign of a byte with \ ahead. -/
def sgn (s : ByteArray) : Int × Int × Int :=
  if s.size < 2 then (0, 0, 2) else if isMark (bt s 1).toNat = true then (bt s 1, 2, 0) else
  if s.size < 4 ∨ bt s 1 ≠ 120 ∨ dgv (bt s 2).toNat < 0 ∨ dgv (bt s 3).toNat < 0 then (0, 0, 2) else (16 * dgv (bt s 2).toNat + dgv (bt s 3).toNat, 4, 0)
theorem cSign_is (s : ByteArray) (h0 : 0 < s.size) (hb : bt s 0 = 92) (k : Nat) (hk : 20 ≤ k) : class_Sign.f k s = some (sgn s) := by
  obtain ⟨k, rfl⟩ : ∃ m, k = m + 2 := ⟨k - 2, by omega⟩
  have hne : ¬ s.toList = ([] : List UInt8) := fun h => by rw [toList_data] at h; have := data_length s; rw [h] at this; simp at this; omega
  unfold class_Sign.f
  rw [if_neg hne, if_pos (by omega), if_pos hb, class_Sign.j0, if_neg (by decide), if_pos (by omega), if_pos hb]
  unfold sgn
  by_cases c2 : s.size < 2
  · rw [if_pos (by omega), if_pos c2]
  rw [if_neg (by omega), if_pos (by omega), if_neg c2]
  obtain ⟨t, ht, hm⟩ := marks_at s 1
  rw [show (⟨#[92, 93, 91, 94, 45, 47, 46, 42, 43, 63, 40, 41, 124, 123, 125, 36]⟩ : ByteArray) = marks from rfl, ht, Option.bind_some]
  by_cases cm : isMark (bt s 1).toNat = true
  · rw [if_pos (hm.2 cm), if_pos cm]
  rw [if_neg (fun h => cm (hm.1 h)), if_neg cm]
  have ht' : ∀ k, class_Sign.j1 (k + 1) s true = some (0, 0, 2) := fun k => by rw [class_Sign.j1, if_pos rfl]
  by_cases c4 : s.size < 4
  · rw [if_pos (by omega), ht', if_pos (.inl c4)]
  rw [if_neg (by omega)]
  by_cases cx : bt s 1 = 120
  · rw [if_pos cx, if_pos (by omega), (digit_at s 2 _ (by omega)).1, Option.bind_some]
    by_cases d2 : dgv (bt s 2).toNat < 0
    · rw [if_pos d2, ht', if_pos (.inr (.inr (.inl d2)))]
    rw [if_neg d2, if_pos (by omega), (digit_at s 3 _ (by omega)).1, Option.bind_some]
    by_cases d3 : dgv (bt s 3).toNat < 0
    · rw [decide_eq_true d3, ht', if_pos (.inr (.inr (.inr d3)))]
    rw [decide_eq_false d3, if_neg (by simp only [not_or]; exact ⟨c4, fun h => h cx, d2, d3⟩), class_Sign.j1, if_neg (by decide), if_pos (by omega), (digit_at s 2 _ (by omega)).1, Option.bind_some, if_pos (by omega), (digit_at s 3 _ (by omega)).1, Option.bind_some]
    have := dgv_le (bt s 2).toNat; have := dgv_le (bt s 3).toNat
    rw [(or_add' _ _ (by omega) (by omega) (by omega) (by omega)).1]
  · rw [if_neg cx, ht', if_pos (.inr (.inl cx))]
theorem cSign_any (s : ByteArray) (h0 : 0 < s.size) (k : Nat) (hk : 20 ≤ k) : ∃ q, class_Sign.f k s = some q := by
  by_cases hb : bt s 0 = 92
  · exact ⟨_, cSign_is s h0 hb k hk⟩
  obtain ⟨k, rfl⟩ : ∃ m, k = m + 2 := ⟨k - 2, by omega⟩
  have hne : ¬ s.toList = ([] : List UInt8) := fun h => by rw [toList_data] at h; have := data_length s; rw [h] at this; simp at this; omega
  unfold class_Sign.f
  rw [if_neg hne, if_pos (by omega), if_neg hb, show strings_IndexByte.f (⟨#[10, 93, 91, 94, 45]⟩ : ByteArray) (bt s 0) = some (Lib.indexByte [10, 93, 91, 94, 45] (bt s 0).toNat.toUInt8) from rfl, Option.bind_some, class_Sign.j0]
  by_cases c : decide (Lib.indexByte [10, 93, 91, 94, 45] (bt s 0).toNat.toUInt8 ≥ 0) = true
  · rw [if_pos c]; exact ⟨_, rfl⟩
  · rw [if_neg c, if_pos (by omega), if_neg hb]; exact ⟨_, rfl⟩
theorem sgn_ok (s : ByteArray) : (sgn s).2.2 = 0 → 0 ≤ (sgn s).1 ∧ (sgn s).1 ≤ 255 ∧ 2 ≤ (sgn s).2.1 ∧ (sgn s).2.1 ≤ 4 ∧ (sgn s).2.1 ≤ s.size := by
  unfold sgn
  have h1 := bt_range s 1
  have := dgv_le (bt s 2).toNat; have := dgv_le (bt s 3).toNat
  split
  · simp
  split
  · intro _; dsimp only; omega
  split
  · simp
  · rename_i h
    simp only [not_or] at h
    intro _; dsimp only; omega
end Go.Proofs.Ythnfmpieoondaaa.P
end

/- Replacements that are read: the program's and the reference's way; what was written is read as it was. -/
section
set_option linter.unusedVariables false
set_option linter.unusedSimpArgs false
namespace Go.Proofs.Ythnfmpieoondaaa.P
open Go.RowKit Go.Proofs.YthnfmpieoondaaaW.PrintWords Go.Proofs.Ythnfmpieoondaaa.QA Go.Proofs.Ythnfmpieoondaaa.QB Go.Proofs.Ythnfmpieoondaaa.QC Go.Proofs.Ythnfmpieoondaaa.G Go.Proofs.Ythnfmpieoondaaa.Mt
theorem ext_tail (s : ByteArray) (i : Nat) : s.extract i s.size = B (s.data.toList.drop i) := by
  rw [← B_of s, B_ext, B_data]
theorem ext_bt (s : ByteArray) (i j : Nat) (h : i + j < s.size) : bt (s.extract i s.size) (j : Int) = bt s ((i + j : Nat) : Int) := by
  rw [ext_tail, ← B_of s, B_bt, B_bt, B_data, dif_pos (by rw [List.length_drop, data_length]; omega), dif_pos (by rw [data_length]; exact h)]
  rw [List.getElem_drop]
theorem ext_ext (s : ByteArray) (i j : Nat) : (s.extract i s.size).extract j (s.extract i s.size).size = s.extract (i + j) s.size := by
  rw [ext_tail (s.extract i s.size), ext_tail s i, ext_tail s (i + j), B_data, List.drop_drop]
theorem pre_amp (s : ByteArray) (h : 0 < s.size) : strings_HasPrefix.f s ⟨#[92, 38]⟩ = some (decide (bt s 0 = 92 ∧ 1 < s.size ∧ bt s 1 = 38)) := by
  unfold strings_HasPrefix.f
  congr 1
  rw [show (⟨#[92, 38]⟩ : ByteArray).data.toList = [92, 38] from rfl]
  have hb0 := B_bt s.data.toList 0
  have hb1 := B_bt s.data.toList 1
  rw [B_of] at hb0 hb1
  have hn := data_length s
  rw [show ((0 : Nat) : Int) = 0 from rfl] at hb0
  rw [show ((1 : Nat) : Int) = 1 from rfl] at hb1
  rw [hb0, hb1]
  generalize s.data.toList = L at hn ⊢
  have key : ∀ (a c : UInt8), ((a == c) = true) ↔ ((c.toNat : Int) = (a.toNat : Int)) := fun a c => by
    rw [beq_iff_eq]
    exact ⟨fun h => by rw [h], fun h => UInt8.toNat_inj.1 (by omega)⟩
  match L, hn with
  | [], hn => simp at hn; omega
  | [a], hn =>
    simp only [List.length_cons, List.length_nil] at hn
    have : ¬ 1 < s.size := by omega
    simp [Lib.hasPrefix, List.isPrefixOf, this]
  | a :: b :: L, hn =>
    simp only [List.length_cons] at hn
    have h1 : 1 < s.size := by omega
    have ka := key 92 a; have kb := key 38 b
    rw [show ((92 : UInt8).toNat : Int) = 92 from rfl] at ka
    rw [show ((38 : UInt8).toNat : Int) = 38 from rfl] at kb
    simp only [Lib.hasPrefix, List.isPrefixOf, Bool.and_true, List.length_cons, Nat.zero_lt_succ, dif_pos, List.getElem_cons_zero, List.getElem_cons_succ, h1, true_and, Nat.succ_lt_succ_iff]
    rw [Bool.eq_iff_iff, decide_eq_true_iff, Bool.and_eq_true, ka, kb]
/-- A round of the program's reading. -/
theorem read_step (s : ByteArray) (h0 : 0 < s.size) (init : List ByteArray) (last : ByteArray) (hi : init.length ≤ 100000) (hl : last.size ≤ 1000000) (k : Nat) (hk : 30 ≤ k) :
    subst_Read.l0 (k + 1) s init last =
      if bt s 0 = 38 then subst_Read.l0 k (s.extract 1 s.size) (init ++ [last]) ⟨#[]⟩ else
      if bt s 0 = 92 ∧ 1 < s.size ∧ bt s 1 = 38 then subst_Read.l0 k (s.extract 2 s.size) init (last ++ strOfNums [38]) else
      if bt s 0 ≠ 92 ∧ bt s 0 ≠ 47 ∧ bt s 0 ≠ 10 then subst_Read.l0 k (s.extract 1 s.size) init (last ++ strOfNums [bt s 0]) else
      if bt s 0 ≠ 92 ∨ (sgn s).2.2 ≠ 0 then some ([], 2) else subst_Read.l0 k (s.extract (sgn s).2.1.toNat s.size) init (last ++ strOfNums [(sgn s).1]) := by
  have hne : ¬ s.toList = ([] : List UInt8) := fun h => by rw [toList_data] at h; have := data_length s; rw [h] at this; simp at this; omega
  rw [subst_Read.l0, if_neg hne, if_neg (by rw [Classical.not_not]; exact ⟨h0, by omega⟩)]
  by_cases c38 : bt s 0 = 38
  · rw [if_pos c38, if_pos (by omega), if_pos c38]
  rw [if_neg c38, if_neg c38, pre_amp s h0, Option.bind_some]
  by_cases ca : bt s 0 = 92 ∧ 1 < s.size ∧ bt s 1 = 38
  · rw [if_pos (decide_eq_true ca), if_pos ca, if_pos ca.2.1]
    have e1 := ext_bt s 1 0 (by omega)
    rw [show ((0 : Nat) : Int) = 0 from rfl, show ((1 + 0 : Nat) : Int) = 1 from rfl] at e1
    rw [e1, ca.2.2, ext_ext]
  rw [if_neg (by rw [decide_eq_true_iff]; exact ca), if_neg ca]
  by_cases cp : bt s 0 ≠ 92 ∧ bt s 0 ≠ 47 ∧ bt s 0 ≠ 10
  · rw [if_pos cp, if_pos cp]
  rw [if_neg cp, if_neg cp]
  by_cases cb : bt s 0 = 92
  · rw [cSign_is s h0 cb k (by omega), Option.bind_some]
    have ho := sgn_ok s
    generalize sgn s = q at ho ⊢
    obtain ⟨q1, q2, q3⟩ := q
    dsimp only at ho ⊢
    by_cases ce : q3 = 0
    · have ho := ho ce
      rw [if_neg (show ¬ (q3 ≠ 0 ∨ bt s 0 ≠ 92) from fun h => h.elim (fun h => h ce) (fun h => h cb)), if_neg (show ¬ (bt s 0 ≠ 92 ∨ q3 ≠ 0) from fun h => h.elim (fun h => h cb) (fun h => h ce)), if_pos ⟨ho.1, ho.2.1, by omega, ho.2.2.2.2⟩]
    · rw [if_pos (.inl ce), if_pos (.inr ce)]
  · obtain ⟨q, hq⟩ := cSign_any s h0 k (by omega)
    rw [hq, Option.bind_some, if_pos (.inr cb), if_pos (.inl cb)]
end Go.Proofs.Ythnfmpieoondaaa.P
end
