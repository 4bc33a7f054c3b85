/- value.Looks as a Lean function, walked: whether a text looks like a number, and which. -/
import Derived.Test.YtpdihjedcplmnaaDoorGDecO
import Derived.Test.YtpdihjedcplmnaaDoorGDecG
import Derived.Laws.BytesArg
import Derived.Lib.ConvBytes
set_option linter.unusedVariables false
set_option linter.unusedSimpArgs false
namespace Go.Proofs.YtpdihjedcplmnaaDoor.G
open Go.RowKit Go.Proofs.YtpdihjedcplmnaaDoorW.PrintWords Go.Proofs.YtpdihjedcplmnaaDoorW.PrintLast Go.Proofs.YtpdihjedcplmnaaDoor.Q1

def oddB (c : Int) : Bool := (c != 32) && (c != 9)
theorem ret_bool {a b : Bool} (h : a = b) : Ending.returned (.bool a) = .returned (.bool b) := by rw [h]

set_option maxHeartbeats 1000000 in
theorem odd_calls (c : Int) (w : World) :
    Calls Tryd.prog 16 #[.int .u8 c] w fun e w' => e = .returned (.bool (oddB c)) ∧ w = w' := by
  go_enter Tryd.func16, Tryd.ntmps16
  go_wp2
  all_goals (go_ret; refine ⟨ret_bool ?_, rfl⟩)
  all_goals (first | rfl | (rw [Bool.eq_iff_iff]; simp_all [oddB]; done) | (rw [Bool.eq_iff_iff]; simp_all [oddB]; omega))

/-- The index of the first byte from i on that is odd; -1. -/
def idxOdd (l : List Int) : Nat → Nat → Int
  | _, 0 => -1
  | i, d + 1 => if oddB (l.getD i 0) then (i : Int) else idxOdd l (i + 1) d
theorem idxOdd_yes (l : List Int) (i n : Nat) (h : i < n) (hb : oddB (rd l i) = true) : idxOdd l i (n - i) = i := by
  obtain ⟨d, hd⟩ : ∃ d, n - i = d + 1 := ⟨n - i - 1, by omega⟩
  rw [hd]; simp only [idxOdd, rd, Int.toNat_natCast] at hb ⊢; rw [hb]; rfl
theorem idxOdd_no (l : List Int) (i n : Nat) (h : i < n) (hb : oddB (rd l i) = false) : idxOdd l i (n - i) = idxOdd l (i + 1) (n - (i + 1)) := by
  obtain ⟨d, hd⟩ : ∃ d, n - i = d + 1 := ⟨n - i - 1, by omega⟩
  have hd2 : n - (i + 1) = d := by omega
  rw [hd, hd2]; simp only [idxOdd, rd, Int.toNat_natCast] at hb ⊢; rw [hb]; rfl

set_option maxHeartbeats 1000000 in
theorem index_calls (A : Option Addr) (n c : Nat) (xs : List Int) (w : World) (hr : ReadsInt w .u8 A n xs) :
    Calls Tryd.prog 32 #[.slice A n c, .func (.func 16) #[] #[]] w fun e w' => e = .returned (.int .i64 (idxOdd xs 0 n)) ∧ w = w' := by
  have hm := hr.2.1
  have HR := Lib.hid hr
  clear hr
  go_enter Tryd.func32, Tryd.ntmps32
  go_wp2
  go_loop [8] (fun i => ∃ k : Nat, k ≤ n ∧ i = .int .i64 k ∧ Aside0 (idxOdd xs 0 n = idxOdd xs k (n - k))) (fun i => n - (intOf i).toNat)
  case atStart => exact ⟨0, Nat.zero_le _, rfl, ⟨rfl⟩⟩
  case round =>
    obtain ⟨k, hk, rfl, HE⟩ := hrel
    by_cases hlt : k < n
    · obtain ⟨ad, hA, hc⟩ := HR.out.at_ k (by omega) (by omega)
      rw [Int.toNat_natCast] at hc
      subst hA
      have hy := idxOdd_yes xs k n hlt
      have hn := idxOdd_no xs k n hlt
      have HY := Lib.hid hy; clear hy
      have HN := Lib.hid hn; clear hn
      go_wp2_with (go_at_call 16; refine (odd_calls _ _).mono ?_; rintro e w' ⟨rfl, rfl⟩)
      · go_ret
        exact ⟨ret_int (by rw [HE.out, HY.out (by assumption)]), rfl⟩
      · go_round
        case rel => exact ⟨k + 1, by omega, by go_num, ⟨by rw [HE.out, HN.out (by assumption)]⟩⟩
        case measure => simp [intOf]; omega
    · go_wp2
      go_ret
      exact ⟨ret_int (by rw [HE.out, show n - k = 0 by omega]; rfl), rfl⟩

set_option maxHeartbeats 1000000 in
theorem contains_calls (A : Option Addr) (n c : Nat) (xs : List Int) (w : World) (hr : ReadsInt w .u8 A n xs) :
    Calls Tryd.prog 17 #[.slice A n c, .func (.func 16) #[] #[]] w fun e w' => e = .returned (.bool (decide (0 ≤ idxOdd xs 0 n))) ∧ w = w' := by
  have HR := Lib.hid hr
  clear hr
  go_enter Tryd.func17, Tryd.ntmps17
  go_wp2_with (go_at_call 32; refine (index_calls _ _ _ _ _ HR.out).mono ?_; rintro e w' ⟨rfl, rfl⟩)
  go_ret
  exact ⟨rfl, rfl⟩

theorem bytesWorld_below (w : World) (e : TypeId) (s : ByteArray) : Below w.heap.size w (Lib.bytesWorld w e s) :=
  ⟨by simp [Lib.bytesWorld, World.freeze]; rfl, by simp [Lib.bytesWorld, World.freeze], by simp [Lib.bytesWorld, World.freeze]; rfl, by rw [Lib.bytesWorld_size]; omega, fun i hi => Lib.bytesWorld_at_old w e s i hi⟩

theorem bytesWorld_below' (B : Nat) (w : World) (e : TypeId) (s : ByteArray) (h : B ≤ w.heap.size) : Below B w (Lib.bytesWorld w e s) :=
  ⟨by simp [Lib.bytesWorld, World.freeze]; rfl, by simp [Lib.bytesWorld, World.freeze], by simp [Lib.bytesWorld, World.freeze]; rfl, by rw [Lib.bytesWorld_size]; omega, fun i hi => Lib.bytesWorld_at_old w e s i (by omega)⟩
def looksT (s : ByteArray) (n : Int) (u : Nat) : Int × Bool := if 0 ≤ idxOdd (bytesOf (s.extract u s.size)) 0 (s.size - u) then (0, false) else (n, true)
def value_Looks.f (s : ByteArray) : Option (Int × Bool) := (dec_Read.f s).bind fun r => if r.2.2 = 0 then (if 0 ≤ r.2.1 ∧ r.2.1 ≤ (s.size : Int) ∧ s.size ≤ 9223372036854775807 then some (looksT s r.1 r.2.1.toNat) else none) else some (0, false)
set_option maxHeartbeats 1000000 in
theorem value_Looks.calls (s : ByteArray) (n : Int) (b : Bool) (w : World) (h : value_Looks.f s = some (n, b)) :
    Calls Tryd.prog 9 #[.string s] w fun e w' => e = .returned (.tuple #[.int .i64 n, .bool b]) ∧ Below w.heap.size w w' := by
  have hcv := fun W : World => fun s => Lib.run_convert_string_bytes (P := Tryd.prog) W 9 40 5 s Tryd.underlying9 Tryd.underlying40 Tryd.underlying5
  unfold value_Looks.f at h
  obtain ⟨⟨r1, r2, r3⟩, hr, h⟩ := Option.bind_eq_some_iff.mp h
  have hRead := fun w => dec_Read.calls s r1 r2 r3 w hr
  clear hr
  dsimp only at h
  by_cases c : r3 = 0
  · rw [if_pos c] at h
    by_cases g : 0 ≤ r2 ∧ r2 ≤ (s.size : Int) ∧ s.size ≤ 9223372036854775807
    · rw [if_pos g] at h
      obtain ⟨g1, g2, g3⟩ := g
      obtain ⟨u, rfl⟩ : ∃ u : Nat, r2 = u := ⟨r2.toNat, by omega⟩
      subst c
      rw [Int.toNat_natCast] at h
      have hsz : (s.extract u s.size).size ≤ 9223372036854775807 := by rw [ByteArray.size_extract]; omega
      have hrd : ∀ W : World, ReadsInt (Lib.bytesWorld W 5 (s.extract u s.size)) .u8 (some ⟨W.heap.size, 0, none⟩) (s.size - u) (bytesOf (s.extract u s.size)) := fun W => by
        have := bytes_reads W 5 (s.extract u s.size) hsz
        rwa [show (s.extract u s.size).size = s.size - u by rw [ByteArray.size_extract, Nat.min_self]] at this
      have H := Aside0.mk (Option.some.inj h); clear h
      go_enter Tryd.func9, Tryd.ntmps9
      go_wp2_with (first
        | (go_at_call 15; refine (hRead _).mono ?_; rintro e w' ⟨rfl, hb⟩)
        | (go_at_call 17; refine (contains_calls _ _ _ _ _ (hrd _)).mono ?_; rintro e w' ⟨rfl, rfl⟩))
      · have e := H.out
        unfold looksT at e
        rw [if_pos (by assumption)] at e
        obtain ⟨rfl, rfl⟩ := Prod.mk.inj e
        go_ret2
        exact ⟨rfl, hb.trans (bytesWorld_below' _ _ _ _ (by have := hb.size; omega))⟩
      · have e := H.out
        unfold looksT at e
        rw [if_neg (by omega)] at e
        obtain ⟨rfl, rfl⟩ := Prod.mk.inj e
        go_ret2
        exact ⟨rfl, hb.trans (bytesWorld_below' _ _ _ _ (by have := hb.size; omega))⟩
    · rw [if_neg g] at h; cases h
  · rw [if_neg c] at h
    have H := Aside0.mk (Option.some.inj h); clear h
    have C := Aside0.mk c
    go_enter Tryd.func9, Tryd.ntmps9
    go_wp2_with (go_at_call 15; refine (hRead _).mono ?_; rintro e w' ⟨rfl, hb⟩)
    obtain ⟨rfl, rfl⟩ := Prod.mk.inj H.out
    go_ret2
    exact ⟨rfl, hb⟩
end Go.Proofs.YtpdihjedcplmnaaDoor.G
