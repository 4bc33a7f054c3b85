/- hex.IsName, walked: it comes to nameB of the text, at every text that is not longer than an int tells. -/
import Derived.Test.YtambnodgfhlpfaaDoorProg
import Derived.Below
import Derived.Deep.Draws
import Derived.OwnWalk
import Derived.Laws.BytesArg
import Derived.Lib.ConvBytes
import Derived.Lib.Hide
import Derived.Outline
import Derived.WalkKit
import Derived.WalkSpells
import Derived.KernelRfl
import Derived.RowKit3
import Derived.Test.YtambnodgfhlpfaaDoorJWWords
namespace Go.Proofs.YtambnodgfhlpfaaDoor.G
open Go.RowKit Go.Proofs.YtambnodgfhlpfaaDoorW.PrintWords

def oddB (c : Int) : Bool := (c != 95) && (decide (c < 48) || decide (57 < c)) && (decide (c < 65) || decide (90 < c)) && (decide (c < 97) || decide (122 < c))

theorem wrapFit {x : Int} (h0 : -9223372036854775808 ≤ x) (h1 : x ≤ 9223372036854775807) : wrap64 x = x := by unfold wrap64; omega
theorem ret_bool {a b : Bool} (h : a = b) : Ending.returned (.bool a) = .returned (.bool b) := by rw [h]
theorem ret_int {k : IntKind} {a b : Int} (h : a = b) : Ending.returned (.int k a) = .returned (.int k b) := by rw [h]

set_option maxHeartbeats 1000000 in
theorem odd_calls (c : Int) (w : World) :
    Calls Tryd.prog 47 #[.int .u8 c] w fun e w' => e = .returned (.bool (oddB c)) ∧ w = w' := by
  go_enter Tryd.func47, Tryd.ntmps47
  go_wp2
  all_goals (go_ret; refine ⟨ret_bool ?_, rfl⟩)
  all_goals (first | rfl | (rw [Bool.eq_iff_iff]; simp [oddB]; done) | (rw [Bool.eq_iff_iff]; simp [oddB]; omega))

/-- The index of the first byte from i on that is odd; -1. -/
def idxOdd (l : List Int) : Nat → Nat → Int
  | _, 0 => -1
  | i, d + 1 => if oddB (l.getD i 0) then (i : Int) else idxOdd l (i + 1) d
theorem idxOdd_yes (l : List Int) (i n : Nat) (h : i < n) (hb : oddB (rd l i) = true) : idxOdd l i (n - i) = i := by
  obtain ⟨d, hd⟩ : ∃ d, n - i = d + 1 := ⟨n - i - 1, by omega⟩
  rw [hd]; simp only [idxOdd, rd, Int.toNat_natCast] at hb ⊢; rw [hb]; rfl
theorem idxOdd_no (l : List Int) (i n : Nat) (h : i < n) (hb : oddB (rd l i) = false) : idxOdd l i (n - i) = idxOdd l (i + 1) (n - (i + 1)) := by
  obtain ⟨d, hd⟩ : ∃ d, n - i = d + 1 := ⟨n - i - 1, by omega⟩
  have hd2 : n - (i + 1) = d := by omega
  rw [hd, hd2]; simp only [idxOdd, rd, Int.toNat_natCast] at hb ⊢; rw [hb]; rfl

set_option maxHeartbeats 1000000 in
theorem index_calls (A : Option Addr) (n c : Nat) (xs : List Int) (w : World) (hr : ReadsInt w .u8 A n xs) :
    Calls Tryd.prog 59 #[.slice A n c, .func (.func 47) #[] #[]] w fun e w' => e = .returned (.int .i64 (idxOdd xs 0 n)) ∧ w = w' := by
  have hm := hr.2.1
  have HR := Lib.hid hr
  clear hr
  go_enter Tryd.func59, Tryd.ntmps59
  go_wp2
  go_loop [8] (fun i => ∃ k : Nat, k ≤ n ∧ i = .int .i64 k ∧ Aside0 (idxOdd xs 0 n = idxOdd xs k (n - k))) (fun i => n - (intOf i).toNat)
  case atStart => exact ⟨0, Nat.zero_le _, rfl, ⟨rfl⟩⟩
  case round =>
    obtain ⟨k, hk, rfl, HE⟩ := hrel
    by_cases hlt : k < n
    · obtain ⟨ad, hA, hc⟩ := HR.out.at_ k (by omega) (by omega)
      rw [Int.toNat_natCast] at hc
      subst hA
      have hy := idxOdd_yes xs k n hlt
      have hn := idxOdd_no xs k n hlt
      have HY := Lib.hid hy; clear hy
      have HN := Lib.hid hn; clear hn
      go_wp2_with (go_at_call 47; refine (odd_calls _ _).mono ?_; rintro e w' ⟨rfl, rfl⟩)
      · go_ret
        exact ⟨ret_int (by rw [HE.out, HY.out (by assumption)]), rfl⟩
      · go_round
        case rel => exact ⟨k + 1, by omega, by go_num, ⟨by rw [HE.out, HN.out (by assumption)]⟩⟩
        case measure => simp [intOf]; omega
    · go_wp2
      go_ret
      exact ⟨ret_int (by rw [HE.out, show n - k = 0 by omega]; rfl), rfl⟩

set_option maxHeartbeats 1000000 in
theorem contains_calls (A : Option Addr) (n c : Nat) (xs : List Int) (w : World) (hr : ReadsInt w .u8 A n xs) :
    Calls Tryd.prog 48 #[.slice A n c, .func (.func 47) #[] #[]] w fun e w' => e = .returned (.bool (decide (0 ≤ idxOdd xs 0 n))) ∧ w = w' := by
  have HR := Lib.hid hr
  clear hr
  go_enter Tryd.func48, Tryd.ntmps48
  go_wp2_with (go_at_call 59; refine (index_calls _ _ _ _ _ HR.out).mono ?_; rintro e w' ⟨rfl, rfl⟩)
  go_ret
  exact ⟨rfl, rfl⟩

theorem bytesWorld_below (w : World) (e : TypeId) (s : ByteArray) : Below w.heap.size w (Lib.bytesWorld w e s) :=
  ⟨by simp [Lib.bytesWorld, World.freeze]; rfl, by simp [Lib.bytesWorld, World.freeze], by simp [Lib.bytesWorld, World.freeze]; rfl, by rw [Lib.bytesWorld_size]; omega, fun i hi => Lib.bytesWorld_at_old w e s i hi⟩

theorem toList_nil_of (s : ByteArray) (h : s.size = 0) : s.toList = [] := by
  rw [ByteArray.toList_eq]; apply List.eq_nil_of_length_eq_zero; simpa using h
theorem toList_ne_of (s : ByteArray) (h : 0 < s.size) : ¬ s.toList = [] := by
  intro e
  have h2 : s.toList.length = s.size := by rw [ByteArray.toList_eq]; simp
  rw [e] at h2; simp at h2; omega

def nameB (s : ByteArray) : Bool := decide (0 < s.size) && (decide (bt s 0 < 48) || decide (57 < bt s 0)) && !decide (0 ≤ idxOdd (bytesOf s) 0 s.size)

set_option maxHeartbeats 1000000 in
theorem isName_calls (s : ByteArray) (w : World) (hs : s.size ≤ 9223372036854775807) :
    Calls Tryd.prog 31 #[.string s] w fun e w' => e = .returned (.bool (nameB s)) ∧ Below w.heap.size w w' := by
  have hcv := fun W : World => Lib.run_convert_string_bytes (P := Tryd.prog) W 9 63 5 s Tryd.underlying9 Tryd.underlying63 Tryd.underlying5
  by_cases h0 : s.size = 0
  · have hl := toList_nil_of s h0
    have H0 := Lib.hid h0; clear h0
    go_enter Tryd.func31, Tryd.ntmps31
    go_wp2_with fail
    go_ret
    exact ⟨ret_bool (by simp only [nameB]; rw [H0.out]; rfl), Below.refl _ _⟩
  · have hp : 0 < s.size := by omega
    have hl := toList_ne_of s hp
    have hb : ((s[0]'hp).toNat : Int) = bt s 0 := bt_at s 0 hp
    have HB := Lib.hid hb; clear hb h0
    go_enter Tryd.func31, Tryd.ntmps31
    go_wp2_with (go_at_call 48; refine (contains_calls _ _ _ _ _ (bytes_reads _ _ _ hs)).mono ?_; rintro e w' ⟨rfl, rfl⟩)
    all_goals go_ret
    all_goals (refine ⟨ret_bool ?_, by first | exact bytesWorld_below _ _ _ | exact Below.refl _ _⟩)
    all_goals (have he : s.toList.isEmpty = false := List.isEmpty_eq_false_iff.2 hl; have hp2 : decide (0 < s.size) = true := decide_eq_true hp; rw [HB.out] at *; simp [nameB, he, hp2]; try omega)
end Go.Proofs.YtambnodgfhlpfaaDoor.G
