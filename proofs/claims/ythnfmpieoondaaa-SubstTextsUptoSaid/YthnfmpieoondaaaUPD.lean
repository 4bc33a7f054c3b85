/- Texts of this seat, put together: each part tells above it what it proves and on what conditions. -/
import Derived.Test.YthnfmpieoondaaaUPC
/- How a replacement is written and read, in plain words (the laws Texts and Back of Subst). -/
section
set_option linter.unusedVariables false
set_option linter.unusedSimpArgs false
namespace Go.Proofs.Ythnfmpieoondaaa.P
open Go.RowKit Go.Proofs.YthnfmpieoondaaaW.PrintWords Go.Proofs.Ythnfmpieoondaaa.QA Go.Proofs.Ythnfmpieoondaaa.QB Go.Proofs.Ythnfmpieoondaaa.QC Go.Proofs.Ythnfmpieoondaaa.G Go.Proofs.Ythnfmpieoondaaa.Mt
/-- The text of a list of bytes. -/
def B (L : List UInt8) : ByteArray := ⟨L.toArray⟩
theorem B_data (L : List UInt8) : (B L).data.toList = L := by simp [B]
theorem B_of (s : ByteArray) : B s.data.toList = s := by cases s; simp [B]
theorem B_size (L : List UInt8) : (B L).size = L.length := by rw [← data_length, B_data]
theorem B_app (a b : List UInt8) : B a ++ B b = B (a ++ b) := by rw [← B_of (B a ++ B b), app_data, B_data, B_data]
theorem B_ext (L : List UInt8) (i : Nat) : (B L).extract i (B L).size = B (L.drop i) := by
  rw [← B_of ((B L).extract i (B L).size), ext_data, B_data, B_size, List.take_of_length_le (by simp)]
theorem B_bt (L : List UInt8) (i : Nat) : bt (B L) (i : Int) = if h : i < L.length then (L[i].toNat : Int) else 0 := by
  unfold bt
  by_cases h : i < L.length
  · rw [dif_pos (by rw [B_size, Int.toNat_natCast]; exact h), dif_pos h]; rfl
  · rw [dif_neg (by rw [B_size, Int.toNat_natCast]; exact h), dif_neg h]
/-- How a byte is written. -/
def hx (n : Nat) : UInt8 := if n < 10 then UInt8.ofNat (48 + n) else UInt8.ofNat (87 + n)
def pl (c : UInt8) : List UInt8 :=
  if c.toNat = 32 ∨ c.toNat = 95 ∨ (48 ≤ c.toNat ∧ c.toNat ≤ 57) ∨ (65 ≤ c.toNat ∧ c.toNat ≤ 90) ∨ (97 ≤ c.toNat ∧ c.toNat ≤ 122) then [c] else [92, 120, hx (c.toNat / 16), hx (c.toNat % 16)]
set_option maxRecDepth 100000 in
theorem plain_fin : ∀ n : Fin 256, (class_Plain.f (n.val : Int)).map (fun b => b.data.toList) = some (pl (UInt8.ofNat n.val)) ∧ (dragomanref04_Plain.f 20 (n.val : Int)).map (fun b => b.data.toList) = some (pl (UInt8.ofNat n.val)) := by decide +kernel
theorem map_B {o : Option ByteArray} {L : List UInt8} (h : o.map (fun b => b.data.toList) = some L) : o = some (B L) := by
  cases o with
  | none => simp at h
  | some b => simp only [Option.map_some, Option.some.injEq] at h; rw [← h, B_of]
theorem plain_at (c : UInt8) : class_Plain.f (c.toNat : Int) = some (B (pl c)) ∧ ∀ k, 20 ≤ k → dragomanref04_Plain.f k (c.toNat : Int) = some (B (pl c)) := by
  have h := plain_fin ⟨c.toNat, c.toNat_lt⟩
  dsimp only at h
  rw [UInt8.ofNat_toNat] at h
  exact ⟨map_B h.1, fun k hk => at_rounds (fun k => dragomanref04_Plain.mono _ k) hk (map_B h.2)⟩
theorem pl_len (c : UInt8) : 1 ≤ (pl c).length ∧ (pl c).length ≤ 4 := by unfold pl; split <;> simp
def pls (L : List UInt8) : List UInt8 := L.flatMap pl
theorem pls_len : ∀ L : List UInt8, (pls L).length ≤ 4 * L.length
  | [] => by simp [pls]
  | c :: L => by have := pls_len L; have := pl_len c; simp only [pls, List.flatMap_cons, List.length_append, List.length_cons] at *; omega
theorem bt_mem (s : ByteArray) (j : Nat) (h : j < s.size) : ∃ c : UInt8, bt s (j : Int) = (c.toNat : Int) ∧ s.data.toList.drop j = c :: s.data.toList.drop (j + 1) := by
  refine ⟨s[j]'h, (bt_at s (j : Int) (by rw [Int.toNat_natCast]; exact h)).symm, ?_⟩
  rw [List.drop_eq_getElem_cons (by rw [data_length]; exact h)]
  rfl
/-! ### Text -/
theorem Text_l1 (s : ByteArray) (hs : s.size ≤ 4611686018427387904) : ∀ (d j k : Nat) (t : ByteArray), j + d = s.size → d < k → t.size + 4 * d ≤ 9223372036854775807 → subst_Text.l1 k s t (j : Int) = some (t ++ B (pls (s.data.toList.drop j))) := by
  intro d
  induction d with
  | zero =>
    intro j k t hj hk ht
    obtain ⟨k, rfl⟩ : ∃ m, k = m + 1 := ⟨k - 1, by omega⟩
    rw [subst_Text.l1, if_neg (by omega), List.drop_of_length_le (by rw [data_length]; omega)]
    congr 1
    rw [← B_of t, B_app, pls, List.flatMap_nil, List.append_nil]
  | succ d ih =>
    intro j k t hj hk ht
    obtain ⟨k, rfl⟩ : ∃ m, k = m + 1 := ⟨k - 1, by omega⟩
    obtain ⟨c, hc, hd⟩ := bt_mem s j (by omega)
    have hl := pl_len c
    rw [subst_Text.l1, if_pos (by omega), if_pos (by omega)]
    rw [hc, (plain_at c).1, Option.bind_some, if_pos (by rw [B_size]; omega), wrap_up j (by omega), ih (j + 1) k _ (by omega) (by omega) (by rw [ByteArray.size_append, B_size]; omega), hd]
    congr 1
    rw [← B_of t, B_app, B_app, B_app, pls, pls, List.flatMap_cons, List.append_assoc]
theorem tot_le_drop (l : List ByteArray) : ∀ i : Nat, tot (l.drop i) ≤ tot l := by
  induction l with
  | nil => intro i; simp
  | cons x l ih => intro i; cases i with
    | zero => simp
    | succ i => rw [List.drop_succ_cons]; have := ih i; simp only [tot]; omega
theorem Text_l0 (l : List ByteArray) (hl : l.length + tot l ≤ 1048576) : ∀ (d i k : Nat) (out : List ByteArray), i + d = l.length → d + tot (l.drop i) < k → out.length ≤ i → subst_Text.l0 k l out (i : Int) = some (out ++ (l.drop i).map fun s => B (pls s.data.toList)) := by
  intro d
  induction d with
  | zero =>
    intro i k out hi hk ho
    obtain ⟨k, rfl⟩ : ∃ m, k = m + 1 := ⟨k - 1, by omega⟩
    rw [subst_Text.l0, if_neg (by omega), List.drop_of_length_le (by omega), List.map_nil, List.append_nil]
  | succ d ih =>
    intro i k out hi hk ho
    obtain ⟨k, rfl⟩ : ∃ m, k = m + 1 := ⟨k - 1, by omega⟩
    have ht := tot_drop l i (by omega)
    have hle := tot_le_drop l i
    have hT := Text_l1 (rdOf ByteArray.empty l (i : Int)) (by omega) (rdOf ByteArray.empty l (i : Int)).size 0 k ⟨#[]⟩ (by omega) (by omega) (by rw [show (⟨#[]⟩ : ByteArray).size = 0 from rfl]; omega)
    rw [show ((0 : Nat) : Int) = 0 from rfl] at hT
    rw [subst_Text.l0, if_pos (by omega), if_pos (by omega), if_pos (by omega), if_pos (by omega), hT, Option.bind_some, wrap_up i (by omega), ih (i + 1) k _ (by omega) (by omega) (by rw [List.length_append, List.length_singleton]; omega), rdOf_cons l i (by omega)]
    simp only [List.drop_zero, List.map_cons, List.append_assoc, List.singleton_append]
    have hE : ∀ X : List UInt8, (⟨#[]⟩ : ByteArray) ++ B X = B X := fun X => by rw [show (⟨#[]⟩ : ByteArray) = B [] from rfl, B_app, List.nil_append]
    rw [hE]
def wr (l : List ByteArray) : List ByteArray := l.map fun s => B (pls s.data.toList)
def amp : ByteArray := ⟨#[38]⟩
def txt (l : List ByteArray) : List UInt8 := joinL (wr l) amp
theorem tot_wr : ∀ l : List ByteArray, tot (wr l) ≤ 4 * tot l
  | [] => by simp [wr, tot]
  | s :: l => by
    have := tot_wr l; have h := pls_len s.data.toList
    rw [data_length] at h
    simp only [wr, List.map_cons, tot, B_size] at *; omega
theorem txt_len (l : List ByteArray) : (txt l).length ≤ 4 * tot l + l.length := by
  have h1 := joinL_le (wr l) amp; have h2 := tot_wr l
  have h3 : (wr l).length = l.length := by simp [wr]
  have h4 : amp.size = 1 := rfl
  rw [h3, h4] at h1; unfold txt; omega
theorem Text_is (l : List ByteArray) (hl : l.length + tot l ≤ 1048576) (k : Nat) (hk : l.length + tot l < k) : subst_Text.f k l = some (B (txt l)) := by
  unfold subst_Text.f
  have h := Text_l0 l hl l.length 0 k [] (by omega) (by rw [List.drop_zero]; omega) (by simp)
  rw [show ((0 : Nat) : Int) = 0 from rfl] at h
  rw [h, Option.bind_some, List.nil_append, List.drop_zero]
  have h2 := txt_len l
  unfold strings_Join.f
  rw [if_pos ⟨by simp; omega, by show (txt l).length ≤ _; omega⟩]
  rfl
/-! ### the reference's text -/
theorem RText_l1 (l : List ByteArray) (i : Nat) (hi : i < l.length) (hs : (rdOf ByteArray.empty l (i : Int)).size ≤ 1048576) : ∀ (d j k : Nat) (t : ByteArray), j + d = (rdOf ByteArray.empty l (i : Int)).size → d + 20 ≤ k → t.size + 4 * d ≤ 9223372036854775807 → dragomanref07_Text.l1 (k + 1) l t (i : Int) (j : Int) = dragomanref07_Text.l0 (k - d) l (t ++ B (pls ((rdOf ByteArray.empty l (i : Int)).data.toList.drop j))) (wrap64 ((i : Int) + 1)) := by
  intro d
  induction d with
  | zero =>
    intro j k t hj hk ht
    rw [dragomanref07_Text.l1, if_pos (by omega), if_pos (by omega), if_neg (by omega), List.drop_of_length_le (by rw [data_length]; omega), Nat.sub_zero]
    congr 1
    rw [← B_of t, B_app, pls, List.flatMap_nil, List.append_nil]
  | succ d ih =>
    intro j k t hj hk ht
    obtain ⟨k, rfl⟩ : ∃ m, k = m + 1 := ⟨k - 1, by omega⟩
    obtain ⟨c, hc, hd⟩ := bt_mem (rdOf ByteArray.empty l (i : Int)) j (by omega)
    have hl := pl_len c
    rw [dragomanref07_Text.l1, if_pos (by omega), if_pos (by omega), if_pos (by omega), if_pos (by omega)]
    rw [hc, (plain_at c).2 _ (by omega), Option.bind_some, if_pos (by rw [B_size]; omega), wrap_up j (by omega), ih (j + 1) k _ (by omega) (by omega) (by rw [ByteArray.size_append, B_size]; omega), hd, show k + 1 - (d + 1) = k - d by omega]
    congr 1
    rw [← B_of t, B_app, B_app, B_app, pls, pls, List.flatMap_cons, List.append_assoc]
theorem RText_l0 (l : List ByteArray) (hl : l.length + tot l ≤ 1048576) : ∀ (d i k : Nat) (t : ByteArray), i + d = l.length → 30 * d + tot (l.drop i) + 30 < k → t.size + 5 * d + 4 * tot (l.drop i) ≤ 9223372036854775807 → 1 ≤ i → dragomanref07_Text.l0 k l t (i : Int) = some (t ++ B (jt amp (wr (l.drop i)))) := by
  intro d
  induction d with
  | zero =>
    intro i k t hi hk ho _
    obtain ⟨k, rfl⟩ : ∃ m, k = m + 1 := ⟨k - 1, by omega⟩
    rw [dragomanref07_Text.l0, if_neg (by omega), List.drop_of_length_le (by omega)]
    congr 1
    rw [← B_of t, wr, List.map_nil, jt, B_app, List.append_nil]
  | succ d ih =>
    intro i k t hi hk ho h1
    obtain ⟨k, rfl⟩ : ∃ m, k = m + 3 := ⟨k - 3, by omega⟩
    have ht := tot_drop l i (by omega)
    have hpl := pls_len (rdOf ByteArray.empty l (i : Int)).data.toList
    rw [data_length] at hpl
    rw [dragomanref07_Text.l0, if_pos (by omega), if_pos (by omega), if_pos (by omega)]
    rw [dragomanref07_Text.j1]
    have hL := RText_l1 l i (by omega) (by have := tot_le_drop l i; omega) (rdOf ByteArray.empty l (i : Int)).size 0 k (t ++ ⟨#[38]⟩) (by omega) (by omega) (by rw [ByteArray.size_append, show (⟨#[38]⟩ : ByteArray).size = 1 from rfl]; omega)
    rw [show ((0 : Nat) : Int) = 0 from rfl] at hL
    rw [hL, wrap_up i (by omega), List.drop_zero, ih (i + 1) _ _ (by omega) (by omega) (by rw [ByteArray.size_append, ByteArray.size_append, B_size, show (⟨#[38]⟩ : ByteArray).size = 1 from rfl]; omega) (by omega), rdOf_cons l i (by omega)]
    congr 1
    rw [← B_of t, show (⟨#[38]⟩ : ByteArray) = B [38] from rfl, B_app, B_app, B_app, B_app, wr, wr, List.map_cons, jt, B_data, List.append_assoc, List.append_assoc, List.append_assoc, show amp.data.toList = [38] from rfl]
theorem RText_is (l : List ByteArray) (hl : l.length + tot l ≤ 1048576) (k : Nat) (hk : 40 * l.length + tot l + 40 < k) : dragomanref07_Text.f k l = some (B (txt l)) := by
  unfold dragomanref07_Text.f
  cases l with
  | nil =>
    obtain ⟨k, rfl⟩ : ∃ m, k = m + 1 := ⟨k - 1, by omega⟩
    rw [dragomanref07_Text.l0, if_neg (by simp)]; rfl
  | cons s l =>
    simp only [List.length_cons, tot] at hl hk
    obtain ⟨k, rfl⟩ : ∃ m, k = m + 3 := ⟨k - 3, by omega⟩
    have hpl := pls_len s.data.toList
    rw [data_length] at hpl
    have hr : rdOf ByteArray.empty (s :: l) ((0 : Nat) : Int) = s := rfl
    have hL := RText_l1 (s :: l) 0 (by simp) (by rw [hr]; omega) s.size 0 k ⟨#[]⟩ (by rw [hr]; omega) (by omega) (by rw [show (⟨#[]⟩ : ByteArray).size = 0 from rfl]; omega)
    rw [hr, wrap_up 0 (by omega), show ((0 : Nat) : Int) = 0 from rfl, List.drop_zero] at hL
    rw [dragomanref07_Text.l0, if_pos (by simp only [List.length_cons]; omega), if_neg (by omega), dragomanref07_Text.j1, hL]
    have hE : ∀ X : List UInt8, (⟨#[]⟩ : ByteArray) ++ B X = B X := fun X => by rw [show (⟨#[]⟩ : ByteArray) = B [] from rfl, B_app, List.nil_append]
    rw [hE, RText_l0 (s :: l) (by simp only [List.length_cons, tot]; omega) l.length 1 _ _ (by simp; omega) (by simp; omega) (by rw [B_size]; simp; omega) (by omega)]
    congr 1
    rw [List.drop_succ_cons, List.drop_zero, B_app, txt, show wr (s :: l) = B (pls s.data.toList) :: wr l from rfl, joinL_jt, B_data]
end Go.Proofs.Ythnfmpieoondaaa.P
end

/- How a byte's sign and a replacement are read, in plain words (Subst). -/
section
set_option linter.unusedVariables false
set_option linter.unusedSimpArgs false
namespace Go.Proofs.Ythnfmpieoondaaa.P
open Go.RowKit Go.Proofs.YthnfmpieoondaaaW.PrintWords Go.Proofs.Ythnfmpieoondaaa.QA Go.Proofs.Ythnfmpieoondaaa.QB Go.Proofs.Ythnfmpieoondaaa.QC Go.Proofs.Ythnfmpieoondaaa.G Go.Proofs.Ythnfmpieoondaaa.Mt
/-- The number of a digit. -/
def dgv (n : Nat) : Int := if 48 ≤ n ∧ n ≤ 57 then (n : Int) - 48 else if 97 ≤ n ∧ n ≤ 102 then (n : Int) - 87 else if 65 ≤ n ∧ n ≤ 70 then (n : Int) - 55 else -1
set_option maxRecDepth 100000 in
theorem digit_fin : ∀ n : Fin 256, hex_Digit.f 9 (n.val : Int) = some (dgv n.val) ∧ dragomanref01_Digit.f 9 (n.val : Int) = some (dgv n.val) := by decide +kernel
theorem digit_at (s : ByteArray) (i : Int) (k : Nat) (hk : 9 ≤ k) : hex_Digit.f k (bt s i) = some (dgv (bt s i).toNat) ∧ dragomanref01_Digit.f k (bt s i) = some (dgv (bt s i).toNat) := by
  have hr := bt_range s i
  have h := digit_fin ⟨(bt s i).toNat, by omega⟩
  dsimp only at h
  rw [Int.toNat_of_nonneg hr.1] at h
  exact ⟨at_rounds (fun k => hex_Digit.mono _ k) hk h.1, at_rounds (fun k => dragomanref01_Digit.mono _ k) hk h.2⟩
theorem dgv_le (n : Nat) : -1 ≤ dgv n ∧ dgv n ≤ 15 := by unfold dgv; split <;> (try split) <;> (try split) <;> omega
def marks : ByteArray := ⟨#[92, 93, 91, 94, 45, 47, 46, 42, 43, 63, 40, 41, 124, 123, 125, 36]⟩
def isMark (n : Nat) : Bool := n == 92 || n == 93 || n == 91 || n == 94 || n == 45 || n == 47 || n == 46 || n == 42 || n == 43 || n == 63 || n == 40 || n == 41 || n == 124 || n == 123 || n == 125 || n == 36
set_option maxRecDepth 100000 in
theorem marks_fin : ∀ n : Fin 256, decide (0 ≤ Lib.indexByte marks.data.toList (UInt8.ofNat n.val)) = isMark n.val := by decide +kernel
theorem marks_at (s : ByteArray) (i : Int) : ∃ t, strings_IndexByte.f marks (bt s i) = some t ∧ (t ≥ 0 ↔ isMark (bt s i).toNat = true) := by
  have hr := bt_range s i
  refine ⟨_, rfl, ?_⟩
  have h := marks_fin ⟨(bt s i).toNat, by omega⟩
  dsimp only at h
  rw [← h, decide_eq_true_iff]
theorem loop_marks (s : ByteArray) (hs : 2 ≤ s.size) (k : Nat) : dragomanref04_Sign.l0 (k + 17) s marks 0 = if isMark (bt s 1).toNat = true then some (bt s 1, 2, 0) else (if (s.size : Int) < 4 then dragomanref04_Sign.j2 k s true else (if 1 < (s.size : Int) then dragomanref04_Sign.j2 k s ((bt s 1) != 120) else none)) := by
  classical
  have hr := bt_range s 1
  have step : ∀ (k : Nat) (i : Nat), i < 16 → dragomanref04_Sign.l0 (k + 1) s marks (i : Int) = if bt s 1 = bt marks (i : Int) then some (bt s 1, 2, 0) else dragomanref04_Sign.l0 k s marks ((i + 1 : Nat) : Int) := fun k i hi => by
    rw [dragomanref04_Sign.l0, if_pos (show (i : Int) < (marks.size : Int) from by show (i : Int) < 16; omega), if_pos (by omega), if_pos (by omega), wrap_up i (by omega)]
  have last : ∀ k, dragomanref04_Sign.l0 (k + 1) s marks ((16 : Nat) : Int) = (if (s.size : Int) < 4 then dragomanref04_Sign.j2 k s true else (if 1 < (s.size : Int) then dragomanref04_Sign.j2 k s ((bt s 1) != 120) else none)) := fun k => by
    rw [dragomanref04_Sign.l0, if_neg (show ¬ ((16 : Nat) : Int) < (marks.size : Int) from by decide)]
  have all : ∀ (d i k : Nat), i + d = 16 → dragomanref04_Sign.l0 (k + 1 + d) s marks (i : Int) = if (∃ j, i ≤ j ∧ j < 16 ∧ bt s 1 = bt marks (j : Int)) then some (bt s 1, 2, 0) else dragomanref04_Sign.l0 (k + 1) s marks ((16 : Nat) : Int) := by
    intro d
    induction d with
    | zero =>
      intro i k hi
      rw [if_neg (by rintro ⟨j, h1, h2, -⟩; omega), show i = 16 by omega]
    | succ d ih =>
      intro i k hi
      rw [show k + 1 + (d + 1) = (k + 1 + d) + 1 by omega, step _ i (by omega)]
      by_cases c : bt s 1 = bt marks (i : Int)
      · rw [if_pos c, if_pos ⟨i, by omega, by omega, c⟩]
      · rw [if_neg c, ih (i + 1) k (by omega)]
        congr 1
        refine propext ⟨fun ⟨j, h1, h2, h3⟩ => ⟨j, by omega, h2, h3⟩, fun ⟨j, h1, h2, h3⟩ => ⟨j, ?_, h2, h3⟩⟩
        rcases Nat.lt_or_ge i j with h | h
        · exact h
        · exact absurd (by rw [show i = j by omega]; exact h3) c
  have hm : (∃ j : Nat, 0 ≤ j ∧ j < 16 ∧ bt s 1 = bt marks (j : Int)) ↔ isMark (bt s 1).toNat = true := by
    have key : ∀ n : Fin 256, (∃ j : Fin 16, (n.val : Int) = bt marks (j.val : Int)) ↔ isMark n.val = true := by decide +kernel
    have h := key ⟨(bt s 1).toNat, by omega⟩
    dsimp only at h
    rw [Int.toNat_of_nonneg hr.1] at h
    rw [← h]
    exact ⟨fun ⟨j, _, h2, h3⟩ => ⟨⟨j, h2⟩, h3⟩, fun ⟨j, h3⟩ => ⟨j.val, Nat.zero_le _, j.isLt, h3⟩⟩
  have h := all 16 0 k (by omega)
  rw [last, show ((0 : Nat) : Int) = 0 from rfl] at h
  rw [show k + 17 = k + 1 + 16 by omega, h]
  by_cases cm : isMark (bt s 1).toNat = true
  · rw [if_pos (hm.2 cm), if_pos cm]
  · rw [if_neg (fun h => cm (hm.1 h)), if_neg cm]
theorem or_add : ∀ a b : Fin 16, (Go.bits .or .i64 (wrap64 ((a.val : Int) * 16)) (b.val : Int)) % 256 = ((16 * a.val + b.val : Nat) : Int) ∧ (wrap64 ((wrap64 (16 * (a.val : Int))) + (b.val : Int))) % 256 = ((16 * a.val + b.val : Nat) : Int) := by decide +kernel
theorem or_add' (x y : Int) (hx : 0 ≤ x) (hx' : x ≤ 15) (hy : 0 ≤ y) (hy' : y ≤ 15) : (Go.bits .or .i64 (wrap64 (x * 16)) y) % 256 = 16 * x + y ∧ (wrap64 ((wrap64 (16 * x)) + y)) % 256 = 16 * x + y := by
  have h := or_add ⟨x.toNat, by omega⟩ ⟨y.toNat, by omega⟩
  dsimp only at h
  rw [Int.toNat_of_nonneg hx, Int.toNat_of_nonneg hy] at h
  rw [h.1, h.2]; omega
/-- A sign of a byte with \ ahead. -/
def sgn (s : ByteArray) : Int × Int × Int :=
  if s.size < 2 then (0, 0, 2) else if isMark (bt s 1).toNat = true then (bt s 1, 2, 0) else
  if s.size < 4 ∨ bt s 1 ≠ 120 ∨ dgv (bt s 2).toNat < 0 ∨ dgv (bt s 3).toNat < 0 then (0, 0, 2) else (16 * dgv (bt s 2).toNat + dgv (bt s 3).toNat, 4, 0)
theorem cSign_is (s : ByteArray) (h0 : 0 < s.size) (hb : bt s 0 = 92) (k : Nat) (hk : 20 ≤ k) : class_Sign.f k s = some (sgn s) := by
  obtain ⟨k, rfl⟩ : ∃ m, k = m + 2 := ⟨k - 2, by omega⟩
  have hne : ¬ s.toList = ([] : List UInt8) := fun h => by rw [toList_data] at h; have := data_length s; rw [h] at this; simp at this; omega
  unfold class_Sign.f
  rw [if_neg hne, if_pos (by omega), if_pos hb, class_Sign.j0, if_neg (by decide), if_pos (by omega), if_pos hb]
  unfold sgn
  by_cases c2 : s.size < 2
  · rw [if_pos (by omega), if_pos c2]
  rw [if_neg (by omega), if_pos (by omega), if_neg c2]
  obtain ⟨t, ht, hm⟩ := marks_at s 1
  rw [show (⟨#[92, 93, 91, 94, 45, 47, 46, 42, 43, 63, 40, 41, 124, 123, 125, 36]⟩ : ByteArray) = marks from rfl, ht, Option.bind_some]
  by_cases cm : isMark (bt s 1).toNat = true
  · rw [if_pos (hm.2 cm), if_pos cm]
  rw [if_neg (fun h => cm (hm.1 h)), if_neg cm]
  have ht' : ∀ k, class_Sign.j1 (k + 1) s true = some (0, 0, 2) := fun k => by rw [class_Sign.j1, if_pos rfl]
  by_cases c4 : s.size < 4
  · rw [if_pos (by omega), ht', if_pos (.inl c4)]
  rw [if_neg (by omega)]
  by_cases cx : bt s 1 = 120
  · rw [if_pos cx, if_pos (by omega), (digit_at s 2 _ (by omega)).1, Option.bind_some]
    by_cases d2 : dgv (bt s 2).toNat < 0
    · rw [if_pos d2, ht', if_pos (.inr (.inr (.inl d2)))]
    rw [if_neg d2, if_pos (by omega), (digit_at s 3 _ (by omega)).1, Option.bind_some]
    by_cases d3 : dgv (bt s 3).toNat < 0
    · rw [decide_eq_true d3, ht', if_pos (.inr (.inr (.inr d3)))]
    rw [decide_eq_false d3, if_neg (by simp only [not_or]; exact ⟨c4, fun h => h cx, d2, d3⟩), class_Sign.j1, if_neg (by decide), if_pos (by omega), (digit_at s 2 _ (by omega)).1, Option.bind_some, if_pos (by omega), (digit_at s 3 _ (by omega)).1, Option.bind_some]
    have := dgv_le (bt s 2).toNat; have := dgv_le (bt s 3).toNat
    rw [(or_add' _ _ (by omega) (by omega) (by omega) (by omega)).1]
  · rw [if_neg cx, ht', if_pos (.inr (.inl cx))]
theorem rSign_is (s : ByteArray) (h0 : 0 < s.size) (hb : bt s 0 = 92) (k : Nat) (hk : 30 ≤ k) : dragomanref04_Sign.f k s = some (sgn s) := by
  obtain ⟨k, rfl⟩ : ∃ m, k = m + 20 := ⟨k - 20, by omega⟩
  unfold dragomanref04_Sign.f
  rw [if_neg (by omega), if_pos (by omega), hb, if_neg (by decide), if_neg (by decide), if_neg (by decide), if_neg (by decide), show ((92 : Int) == 45) = false from rfl, dragomanref04_Sign.j0, if_neg (by decide), if_pos rfl]
  unfold sgn
  by_cases c2 : s.size < 2
  · rw [if_pos (by omega), if_pos c2]
  rw [if_neg (by omega), if_neg c2, show (⟨#[92, 93, 91, 94, 45, 47, 46, 42, 43, 63, 40, 41, 124, 123, 125, 36]⟩ : ByteArray) = marks from rfl, show k + 19 = (k + 2) + 17 by omega, loop_marks s (by omega)]
  by_cases cm : isMark (bt s 1).toNat = true
  · rw [if_pos cm, if_pos cm]
  rw [if_neg cm, if_neg cm]
  have ht' : ∀ k, dragomanref04_Sign.j2 (k + 1) s true = some (0, 0, 2) := fun k => by rw [dragomanref04_Sign.j2, if_pos rfl]
  by_cases c4 : s.size < 4
  · rw [if_pos (by omega), ht', if_pos (.inl c4)]
  rw [if_neg (by omega), if_pos (by omega)]
  by_cases cx : bt s 1 = 120
  · rw [show (bt s 1 != 120) = false from by rw [cx]; rfl, dragomanref04_Sign.j2, if_neg (by decide), if_pos (by omega), (digit_at s 2 _ (by omega)).2, Option.bind_some, if_pos (by omega), (digit_at s 3 _ (by omega)).2, Option.bind_some]
    by_cases d2 : dgv (bt s 2).toNat < 0
    · rw [if_pos d2, if_pos (.inr (.inr (.inl d2)))]
    rw [if_neg d2]
    by_cases d3 : dgv (bt s 3).toNat < 0
    · rw [if_pos d3, if_pos (.inr (.inr (.inr d3)))]
    rw [if_neg d3, if_neg (by simp only [not_or]; exact ⟨c4, fun h => h cx, d2, d3⟩)]
    have := dgv_le (bt s 2).toNat; have := dgv_le (bt s 3).toNat
    rw [(or_add' _ _ (by omega) (by omega) (by omega) (by omega)).2]
  · rw [show (bt s 1 != 120) = true from by simpa using cx, ht', if_pos (.inr (.inl cx))]
theorem cSign_any (s : ByteArray) (h0 : 0 < s.size) (k : Nat) (hk : 20 ≤ k) : ∃ q, class_Sign.f k s = some q := by
  by_cases hb : bt s 0 = 92
  · exact ⟨_, cSign_is s h0 hb k hk⟩
  obtain ⟨k, rfl⟩ : ∃ m, k = m + 2 := ⟨k - 2, by omega⟩
  have hne : ¬ s.toList = ([] : List UInt8) := fun h => by rw [toList_data] at h; have := data_length s; rw [h] at this; simp at this; omega
  unfold class_Sign.f
  rw [if_neg hne, if_pos (by omega), if_neg hb, show strings_IndexByte.f (⟨#[10, 93, 91, 94, 45]⟩ : ByteArray) (bt s 0) = some (Lib.indexByte [10, 93, 91, 94, 45] (bt s 0).toNat.toUInt8) from rfl, Option.bind_some, class_Sign.j0]
  by_cases c : decide (Lib.indexByte [10, 93, 91, 94, 45] (bt s 0).toNat.toUInt8 ≥ 0) = true
  · rw [if_pos c]; exact ⟨_, rfl⟩
  · rw [if_neg c, if_pos (by omega), if_neg hb]; exact ⟨_, rfl⟩
theorem sgn_ok (s : ByteArray) : (sgn s).2.2 = 0 → 0 ≤ (sgn s).1 ∧ (sgn s).1 ≤ 255 ∧ 2 ≤ (sgn s).2.1 ∧ (sgn s).2.1 ≤ 4 ∧ (sgn s).2.1 ≤ s.size := by
  unfold sgn
  have h1 := bt_range s 1
  have := dgv_le (bt s 2).toNat; have := dgv_le (bt s 3).toNat
  split
  · simp
  split
  · intro _; dsimp only; omega
  split
  · simp
  · rename_i h
    simp only [not_or] at h
    intro _; dsimp only; omega
end Go.Proofs.Ythnfmpieoondaaa.P
end

/- Replacements that are read: the program's and the reference's way; what was written is read as it was. -/
section
set_option linter.unusedVariables false
set_option linter.unusedSimpArgs false
namespace Go.Proofs.Ythnfmpieoondaaa.P
open Go.RowKit Go.Proofs.YthnfmpieoondaaaW.PrintWords Go.Proofs.Ythnfmpieoondaaa.QA Go.Proofs.Ythnfmpieoondaaa.QB Go.Proofs.Ythnfmpieoondaaa.QC Go.Proofs.Ythnfmpieoondaaa.G Go.Proofs.Ythnfmpieoondaaa.Mt
theorem ext_tail (s : ByteArray) (i : Nat) : s.extract i s.size = B (s.data.toList.drop i) := by
  rw [← B_of s, B_ext, B_data]
theorem ext_bt (s : ByteArray) (i j : Nat) (h : i + j < s.size) : bt (s.extract i s.size) (j : Int) = bt s ((i + j : Nat) : Int) := by
  rw [ext_tail, ← B_of s, B_bt, B_bt, B_data, dif_pos (by rw [List.length_drop, data_length]; omega), dif_pos (by rw [data_length]; exact h)]
  rw [List.getElem_drop]
theorem ext_len (s : ByteArray) (i : Nat) : (s.extract i s.size).size = s.size - i := by rw [ext_size _ _ _ (Nat.le_refl _)]
theorem ext_ext (s : ByteArray) (i j : Nat) : (s.extract i s.size).extract j (s.extract i s.size).size = s.extract (i + j) s.size := by
  rw [ext_tail (s.extract i s.size), ext_tail s i, ext_tail s (i + j), B_data, List.drop_drop]
theorem pre_amp (s : ByteArray) (h : 0 < s.size) : strings_HasPrefix.f s ⟨#[92, 38]⟩ = some (decide (bt s 0 = 92 ∧ 1 < s.size ∧ bt s 1 = 38)) := by
  unfold strings_HasPrefix.f
  congr 1
  rw [show (⟨#[92, 38]⟩ : ByteArray).data.toList = [92, 38] from rfl]
  have hb0 := B_bt s.data.toList 0
  have hb1 := B_bt s.data.toList 1
  rw [B_of] at hb0 hb1
  have hn := data_length s
  rw [show ((0 : Nat) : Int) = 0 from rfl] at hb0
  rw [show ((1 : Nat) : Int) = 1 from rfl] at hb1
  rw [hb0, hb1]
  generalize s.data.toList = L at hn ⊢
  have key : ∀ (a c : UInt8), ((a == c) = true) ↔ ((c.toNat : Int) = (a.toNat : Int)) := fun a c => by
    rw [beq_iff_eq]
    exact ⟨fun h => by rw [h], fun h => UInt8.toNat_inj.1 (by omega)⟩
  match L, hn with
  | [], hn => simp at hn; omega
  | [a], hn =>
    simp only [List.length_cons, List.length_nil] at hn
    have : ¬ 1 < s.size := by omega
    simp [Lib.hasPrefix, List.isPrefixOf, this]
  | a :: b :: L, hn =>
    simp only [List.length_cons] at hn
    have h1 : 1 < s.size := by omega
    have ka := key 92 a; have kb := key 38 b
    rw [show ((92 : UInt8).toNat : Int) = 92 from rfl] at ka
    rw [show ((38 : UInt8).toNat : Int) = 38 from rfl] at kb
    simp only [Lib.hasPrefix, List.isPrefixOf, Bool.and_true, List.length_cons, Nat.zero_lt_succ, dif_pos, List.getElem_cons_zero, List.getElem_cons_succ, h1, true_and, Nat.succ_lt_succ_iff]
    rw [Bool.eq_iff_iff, decide_eq_true_iff, Bool.and_eq_true, ka, kb]
/-- A round of the program's reading. -/
theorem read_step (s : ByteArray) (h0 : 0 < s.size) (init : List ByteArray) (last : ByteArray) (hi : init.length ≤ 100000) (hl : last.size ≤ 1000000) (k : Nat) (hk : 30 ≤ k) :
    subst_Read.l0 (k + 1) s init last =
      if bt s 0 = 38 then subst_Read.l0 k (s.extract 1 s.size) (init ++ [last]) ⟨#[]⟩ else
      if bt s 0 = 92 ∧ 1 < s.size ∧ bt s 1 = 38 then subst_Read.l0 k (s.extract 2 s.size) init (last ++ strOfNums [38]) else
      if bt s 0 ≠ 92 ∧ bt s 0 ≠ 47 ∧ bt s 0 ≠ 10 then subst_Read.l0 k (s.extract 1 s.size) init (last ++ strOfNums [bt s 0]) else
      if bt s 0 ≠ 92 ∨ (sgn s).2.2 ≠ 0 then some ([], 2) else subst_Read.l0 k (s.extract (sgn s).2.1.toNat s.size) init (last ++ strOfNums [(sgn s).1]) := by
  have hne : ¬ s.toList = ([] : List UInt8) := fun h => by rw [toList_data] at h; have := data_length s; rw [h] at this; simp at this; omega
  rw [subst_Read.l0, if_neg hne, if_neg (by rw [Classical.not_not]; exact ⟨h0, by omega⟩)]
  by_cases c38 : bt s 0 = 38
  · rw [if_pos c38, if_pos (by omega), if_pos c38]
  rw [if_neg c38, if_neg c38, pre_amp s h0, Option.bind_some]
  by_cases ca : bt s 0 = 92 ∧ 1 < s.size ∧ bt s 1 = 38
  · rw [if_pos (decide_eq_true ca), if_pos ca, if_pos ca.2.1]
    have e1 := ext_bt s 1 0 (by omega)
    rw [show ((0 : Nat) : Int) = 0 from rfl, show ((1 + 0 : Nat) : Int) = 1 from rfl] at e1
    rw [e1, ca.2.2, ext_ext]
  rw [if_neg (by rw [decide_eq_true_iff]; exact ca), if_neg ca]
  by_cases cp : bt s 0 ≠ 92 ∧ bt s 0 ≠ 47 ∧ bt s 0 ≠ 10
  · rw [if_pos cp, if_pos cp]
  rw [if_neg cp, if_neg cp]
  by_cases cb : bt s 0 = 92
  · rw [cSign_is s h0 cb k (by omega), Option.bind_some]
    have ho := sgn_ok s
    generalize sgn s = q at ho ⊢
    obtain ⟨q1, q2, q3⟩ := q
    dsimp only at ho ⊢
    by_cases ce : q3 = 0
    · have ho := ho ce
      rw [if_neg (show ¬ (q3 ≠ 0 ∨ bt s 0 ≠ 92) from fun h => h.elim (fun h => h ce) (fun h => h cb)), if_neg (show ¬ (bt s 0 ≠ 92 ∨ q3 ≠ 0) from fun h => h.elim (fun h => h cb) (fun h => h ce)), if_pos ⟨ho.1, ho.2.1, by omega, ho.2.2.2.2⟩]
    · rw [if_pos (.inl ce), if_pos (.inr ce)]
  · obtain ⟨q, hq⟩ := cSign_any s h0 k (by omega)
    rw [hq, Option.bind_some, if_pos (.inr cb), if_pos (.inl cb)]
theorem wrap_by (i : Nat) (q : Int) (h : i ≤ 4611686018427387904) (h0 : 0 ≤ q) (h1 : q ≤ 1000) : wrap64 ((i : Int) + q) = ((i + q.toNat : Nat) : Int) := by unfold wrap64; omega
theorem wrap_by2 (i : Nat) (h : i ≤ 4611686018427387904) : wrap64 ((i : Int) + 2) = ((i + 2 : Nat) : Int) := by unfold wrap64; omega
/-- A round (or more) of the reference's. -/
theorem rread_step (x : ByteArray) (hx : x.size ≤ 100000) (i : Nat) (h : i < x.size) (init : List ByteArray) (last : ByteArray) (hi : init.length ≤ 100000) (hl : last.size ≤ 1000000) (k : Nat) (hk : 40 ≤ k) (s : ByteArray) (hs : x.extract i x.size = s) :
    dragomanref07_Read.l0 (k + 3) x init last (i : Int) =
      if bt s 0 = 38 then dragomanref07_Read.l0 (k + 2) x (init ++ [last]) ⟨#[]⟩ ((i + 1 : Nat) : Int) else
      if bt s 0 = 92 ∧ 1 < s.size ∧ bt s 1 = 38 then dragomanref07_Read.l0 k x init (last ++ strOfNums [38]) ((i + 2 : Nat) : Int) else
      if bt s 0 ≠ 92 ∧ bt s 0 ≠ 47 ∧ bt s 0 ≠ 10 then dragomanref07_Read.l0 (k + 1) x init (last ++ strOfNums [bt s 0]) ((i + 1 : Nat) : Int) else
      if bt s 0 ≠ 92 ∨ (sgn s).2.2 ≠ 0 then some ([], 2) else dragomanref07_Read.l0 k x init (last ++ strOfNums [(sgn s).1]) ((i + (sgn s).2.1.toNat : Nat) : Int) := by
  have e0 := ext_bt x i 0 (by omega)
  rw [Nat.add_zero, show ((0 : Nat) : Int) = 0 from rfl] at e0
  have e1 := ext_bt x i 1
  rw [show ((1 : Nat) : Int) = 1 from rfl] at e1
  have en := ext_len x i
  have hs1 : ∀ n : Int, (strOfNums [n]).size = 1 := fun n => by rw [strOfNums_size]; rfl
  have hi2 : i ≤ 4611686018427387904 := by omega
  have ho := sgn_ok (x.extract i x.size)
  rw [dragomanref07_Read.l0, if_pos (by omega), if_pos (by omega), ← e0]
  rw [hs] at e0 e1 en ho ⊢
  have hS : bt s 0 = 92 → 0 < s.size → ∀ k, 30 ≤ k → dragomanref04_Sign.f k s = some (sgn s) := fun h h' k hk => rSign_is s h' h k hk
  generalize sgn s = q at ho hS ⊢
  obtain ⟨q1, q2, q3⟩ := q
  dsimp only at ho hS ⊢
  by_cases c38 : bt s 0 = 38
  · rw [if_pos c38, if_pos (by omega), if_pos c38, wrap_up i hi2]
  rw [if_neg c38, if_neg c38]
  by_cases c47 : bt s 0 = 47
  · rw [if_pos c47, dragomanref07_Read.j1, if_pos rfl, if_neg (by omega), if_neg (by omega), if_pos (.inl (by omega))]
  rw [if_neg c47]
  by_cases c10 : bt s 0 = 10
  · rw [show (bt s 0 == 10) = true from by rw [c10]; rfl, dragomanref07_Read.j1, if_pos rfl, if_neg (by omega), if_neg (by omega), if_pos (.inl (by omega))]
  rw [show (bt s 0 == 10) = false from by simpa using c10, dragomanref07_Read.j1, if_neg (by decide)]
  by_cases c92 : bt s 0 = 92
  · rw [if_pos c92, wrap_up i hi2]
    have main : ∀ b : Bool, (b = true ↔ (bt s 0 = 92 ∧ 1 < s.size ∧ bt s 1 = 38)) → dragomanref07_Read.j2 (k + 1) x init last (i : Int) b =
      if bt s 0 = 92 ∧ 1 < s.size ∧ bt s 1 = 38 then dragomanref07_Read.l0 k x init (last ++ strOfNums [38]) ((i + 2 : Nat) : Int) else
      if bt s 0 ≠ 92 ∧ bt s 0 ≠ 47 ∧ bt s 0 ≠ 10 then dragomanref07_Read.l0 (k + 1) x init (last ++ strOfNums [bt s 0]) ((i + 1 : Nat) : Int) else
      if bt s 0 ≠ 92 ∨ q3 ≠ 0 then some ([], 2) else dragomanref07_Read.l0 k x init (last ++ strOfNums [q1]) ((i + q2.toNat : Nat) : Int) := by
      intro b hb
      have h0s : 0 < s.size := by omega
      have hi0 : 0 ≤ (i : Int) := by omega
      have hix : (i : Int) ≤ (x.size : Int) := by omega
      rw [dragomanref07_Read.j2]
      by_cases ca : bt s 0 = 92 ∧ 1 < s.size ∧ bt s 1 = 38
      · have hz : last.size + 1 ≤ 9223372036854775807 := by omega
        rw [if_pos (hb.2 ca), if_pos ca, if_pos hz, wrap_by2 i hi2]; rfl
      · rw [if_neg (fun h => ca (hb.1 h)), if_neg ca, if_neg (show ¬ (bt s 0 ≠ 92 ∧ bt s 0 ≠ 47 ∧ bt s 0 ≠ 10) from fun h => h.1 c92), if_pos hi0, if_pos hix, Int.toNat_natCast, hs, hS c92 h0s k (by omega), Option.bind_some]
        dsimp only
        by_cases ce : q3 = 0
        · have ho := ho ce
          have hz : last.size + (strOfNums [q1]).size ≤ 9223372036854775807 := by rw [hs1]; omega
          rw [if_pos ce, Option.bind_some, if_pos hz, if_neg (show ¬ (bt s 0 ≠ 92 ∨ q3 ≠ 0) from fun h => h.elim (fun h => h c92) (fun h => h ce)), wrap_by i q2 hi2 (by omega) (by omega)]
        · rw [if_neg ce, if_pos (.inr ce)]
    by_cases cn : i + 1 < x.size
    · rw [if_pos (by omega), if_pos (by omega), ← e1 cn]
      exact main _ (by rw [beq_iff_eq]; exact ⟨fun h => ⟨c92, by omega, h⟩, fun h => h.2.2⟩)
    · rw [if_neg (by omega)]
      exact main _ (by simp only [Bool.false_eq_true, false_iff]; rintro ⟨-, h, -⟩; omega)
  · rw [if_neg c92, Option.bind_some, if_pos (by rw [hs1]; omega), if_neg (fun h => c92 h.1), if_pos ⟨c92, c47, c10⟩, wrap_up i hi2]
/-- Both read the same. -/
theorem Read_both (x : ByteArray) (hx : x.size ≤ 100000) : ∀ (d i : Nat) (init : List ByteArray) (last : ByteArray), x.size - i ≤ d → i ≤ x.size → init.length ≤ i → last.size ≤ i → ∃ r, r.1.length ≤ x.size + 1 ∧ (∀ k, 3 * d + 50 ≤ k → subst_Read.l0 k (x.extract i x.size) init last = some r) ∧ ∀ k, 3 * d + 50 ≤ k → dragomanref07_Read.l0 k x init last (i : Int) = some r := by
  intro d
  induction d using Nat.strongRecOn with
  | _ d ih =>
  intro i init last hd hi hn hl
  by_cases hlt : i < x.size
  · have hs1 : ∀ n : Int, (strOfNums [n]).size = 1 := fun n => by rw [strOfNums_size]; rfl
    have hz : (x.extract i x.size).size = x.size - i := ext_len x i
    have A := fun k hk => read_step (x.extract i x.size) (by omega) init last (by omega) (by omega) k hk
    have ho := sgn_ok (x.extract i x.size)
    simp only [ext_ext] at A
    generalize hs : x.extract i x.size = s at hz A ho ⊢
    have Bk' := fun k hk => rread_step x hx i hlt init last (by omega) (by omega) k hk s hs
    have fin : ∀ (j : Nat) (init' : List ByteArray) (last' : ByteArray) , i < j → j ≤ x.size → init'.length ≤ j → last'.size ≤ j → ∃ r, r.1.length ≤ x.size + 1 ∧ (∀ k, 3 * d + 47 ≤ k → subst_Read.l0 k (x.extract j x.size) init' last' = some r) ∧ ∀ k, 3 * d + 47 ≤ k → dragomanref07_Read.l0 k x init' last' (j : Int) = some r := by
      intro j init' last' h1 h2 h3 h4
      obtain ⟨r, hq, ha, hb⟩ := ih (d - 1) (by omega) j init' last' (by omega) h2 h3 h4
      exact ⟨r, hq, fun k hk => ha k (by omega), fun k hk => hb k (by omega)⟩
    have pack : ∀ (r : List ByteArray × Int), r.1.length ≤ x.size + 1 → (∀ k, 3 * d + 47 ≤ k → subst_Read.l0 (k + 1) s init last = some r) → (∀ k, 3 * d + 47 ≤ k → dragomanref07_Read.l0 (k + 3) x init last (i : Int) = some r) → ∃ r, r.1.length ≤ x.size + 1 ∧ (∀ k, 3 * d + 50 ≤ k → subst_Read.l0 k s init last = some r) ∧ ∀ k, 3 * d + 50 ≤ k → dragomanref07_Read.l0 k x init last (i : Int) = some r := by
      intro r hq h1 h2
      refine ⟨r, hq, fun k hk => ?_, fun k hk => ?_⟩
      · have := h1 (k - 1) (by omega); rwa [show k - 1 + 1 = k by omega] at this
      · have := h2 (k - 3) (by omega); rwa [show k - 3 + 3 = k by omega] at this
    by_cases c1 : bt s 0 = 38
    · obtain ⟨r, hq, ha, hb⟩ := fin (i + 1) (init ++ [last]) ⟨#[]⟩ (by omega) (by omega) (by rw [List.length_append, List.length_singleton]; omega) (by rw [show (⟨#[]⟩ : ByteArray).size = 0 from rfl]; omega)
      refine pack r hq (fun k hk => ?_) (fun k hk => ?_)
      · rw [A k (by omega), if_pos c1]; exact ha k hk
      · rw [Bk' k (by omega), if_pos c1]; exact hb _ (by omega)
    by_cases c2 : bt s 0 = 92 ∧ 1 < s.size ∧ bt s 1 = 38
    · obtain ⟨r, hq, ha, hb⟩ := fin (i + 2) init (last ++ strOfNums [38]) (by omega) (by omega) (by omega) (by rw [ByteArray.size_append, hs1]; omega)
      refine pack r hq (fun k hk => ?_) (fun k hk => ?_)
      · rw [A k (by omega), if_neg c1, if_pos c2]; exact ha k hk
      · rw [Bk' k (by omega), if_neg c1, if_pos c2]; exact hb _ (by omega)
    by_cases c3 : bt s 0 ≠ 92 ∧ bt s 0 ≠ 47 ∧ bt s 0 ≠ 10
    · obtain ⟨r, hq, ha, hb⟩ := fin (i + 1) init (last ++ strOfNums [bt s 0]) (by omega) (by omega) (by omega) (by rw [ByteArray.size_append, hs1]; omega)
      refine pack r hq (fun k hk => ?_) (fun k hk => ?_)
      · rw [A k (by omega), if_neg c1, if_neg c2, if_pos c3]; exact ha k hk
      · rw [Bk' k (by omega), if_neg c1, if_neg c2, if_pos c3]; exact hb _ (by omega)
    by_cases c4 : bt s 0 ≠ 92 ∨ (sgn s).2.2 ≠ 0
    · refine pack ([], 2) (by simp) (fun k hk => ?_) (fun k hk => ?_)
      · rw [A k (by omega), if_neg c1, if_neg c2, if_neg c3, if_pos c4]
      · rw [Bk' k (by omega), if_neg c1, if_neg c2, if_neg c3, if_pos c4]
    · have ce : (sgn s).2.2 = 0 := Classical.not_not.1 fun h => c4 (.inr h)
      have ho := ho ce
      obtain ⟨r, hq, ha, hb⟩ := fin (i + (sgn s).2.1.toNat) init (last ++ strOfNums [(sgn s).1]) (by omega) (by omega) (by omega) (by rw [ByteArray.size_append, hs1]; omega)
      refine pack r hq (fun k hk => ?_) (fun k hk => ?_)
      · rw [A k (by omega), if_neg c1, if_neg c2, if_neg c3, if_neg c4]; exact ha k hk
      · rw [Bk' k (by omega), if_neg c1, if_neg c2, if_neg c3, if_neg c4]; exact hb _ (by omega)
  · refine ⟨(init ++ [last], 0), by simp; omega, fun k hk => ?_, fun k hk => ?_⟩
    · obtain ⟨k, rfl⟩ : ∃ m, k = m + 1 := ⟨k - 1, by omega⟩
      rw [subst_Read.l0, if_pos (by rw [toList_data, ext_tail, B_data, List.drop_of_length_le (by rw [data_length]; omega)])]
    · obtain ⟨k, rfl⟩ : ∃ m, k = m + 1 := ⟨k - 1, by omega⟩
      rw [dragomanref07_Read.l0, if_neg (by omega), if_pos (by omega)]
end Go.Proofs.Ythnfmpieoondaaa.P
end
