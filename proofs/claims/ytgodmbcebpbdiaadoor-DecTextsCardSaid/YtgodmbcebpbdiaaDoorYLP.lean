/- The document's reading of a numeral, walked: a figure at a place; numbers of words that are too great. -/
import Derived.Test.YtgodmbcebpbdiaaDoorYLO
set_option linter.unusedVariables false
set_option linter.unusedSimpArgs false
namespace Go.Proofs.YtgodmbcebpbdiaaDoor.R2
open Go.RowKit Go.Proofs.YtgodmbcebpbdiaaDoorW.PrintWords

/-- Is it a figure? -/
def digB (c : Int) : Bool := decide (48 ≤ c) && decide (c ≤ 57)
theorem digB_yes {c : Int} : digB c = true → 48 ≤ c ∧ c ≤ 57 := by unfold digB; simp
theorem bt_get' (s : ByteArray) (k : Nat) : ∀ h : k < s.size, ((s[k]'h).toNat : Int) = bt s k := fun h => by simp [bt, h]
set_option maxHeartbeats 1000000 in
theorem fig_calls (s : ByteArray) (k : Nat) (v : Bool) (w : World) (hs : s.size ≤ 281474976710656) (hk : k ≤ 281474976710657) (hv : (decide (k < s.size) && digB (bt s k)) = v) :
    Calls Tryd.prog 40 #[.string s, .int .i64 k] w fun e w' => e = .returned (.bool v) ∧ w = w' := by
  by_cases h1 : k < s.size
  · have c1 : decide ((k : Int) < (s.size : Int)) = true := decide_eq_true (by omega)
    have c0 : decide (k < s.size) = true := decide_eq_true h1
    have hx := bt_get' s k
    rw [c0, Bool.true_and] at hv
    have q0 : ((k : Int) < (s.size : Int)) = True := eq_true (by omega)
    have q1 : (k < s.size) = True := eq_true h1
    by_cases h2 : 48 ≤ bt s k
    · have c2 : decide (48 ≤ bt s k) = true := decide_eq_true h2
      by_cases h3 : bt s k ≤ 57
      · have c3 : decide (bt s k ≤ 57) = true := decide_eq_true h3
        have hv2 : v = true := by rw [← hv]; unfold digB; rw [c2, c3]; rfl
        subst hv2
        clear hv h2 h3
        go_enter Tryd.func40, Tryd.ntmps40
        go_wp2
        go_ret
        exact ⟨rfl, rfl⟩
      · have c3 : decide (bt s k ≤ 57) = false := decide_eq_false h3
        have hv2 : v = false := by rw [← hv]; unfold digB; rw [c2, c3]; rfl
        subst hv2
        clear hv h2 h3
        go_enter Tryd.func40, Tryd.ntmps40
        go_wp2
        go_ret
        exact ⟨rfl, rfl⟩
    · have c2 : decide (48 ≤ bt s k) = false := decide_eq_false h2
      have hv2 : v = false := by rw [← hv]; unfold digB; rw [c2]; rfl
      subst hv2
      clear hv h2
      go_enter Tryd.func40, Tryd.ntmps40
      go_wp2
      go_ret
      exact ⟨rfl, rfl⟩
  · have c1 : decide ((k : Int) < (s.size : Int)) = false := decide_eq_false (by omega)
    have c0 : decide (k < s.size) = false := decide_eq_false h1
    have hv2 : v = false := by rw [← hv, c0]; rfl
    subst hv2
    clear hv
    go_enter Tryd.func40, Tryd.ntmps40
    go_wp2
    go_ret
    exact ⟨rfl, rfl⟩

/-! ### The ninth word -/
theorem val_split : ∀ (a b : List Int), val (a ++ b) = val a + pw a.length * val b
  | [], b => by simp [val, pw]
  | x :: a, b => by
    rw [List.cons_append, val, val, List.length_cons, pw, val_split a b, Int.mul_assoc, Int.mul_add]
    omega
theorem words_append {a b : List Int} (h : Words (a ++ b)) : Words a ∧ Words b := ⟨fun x hx => h x (List.mem_append_left _ hx), fun x hx => h x (List.mem_append_right _ hx)⟩
/-- Below 2^288: the ninth word is 0 just where the number is below 2^256. -/
theorem ninth {l : List Int} (h : Num l) (hb : val l < pw 9) : l.getD 8 0 = 0 ↔ val l < pw 8 := by
  obtain ⟨x0, x1, x2, x3, x4, x5, x6, x7, x8, x9, x10, x11, rfl⟩ := dozen h.len
  have e := val_split [x0, x1, x2, x3, x4, x5, x6, x7] [x8, x9, x10, x11]
  have hw := words_append (a := [x0, x1, x2, x3, x4, x5, x6, x7]) (b := [x8, x9, x10, x11]) h.words
  have b1 := val_bounds hw.1
  have b2 := val_bounds hw.2
  have w8 := h.words x8 (by simp)
  have e2 : val [x8, x9, x10, x11] = x8 + 4294967296 * val [x9, x10, x11] := rfl
  have b3 := val_bounds (words_cons hw.2).2
  have hp : pw 9 = 4294967296 * pw 8 := rfl
  have hl : ([x0, x1, x2, x3, x4, x5, x6, x7] : List Int).length = 8 := rfl
  rw [hl] at e b1
  rw [List.cons_append, List.cons_append, List.cons_append, List.cons_append, List.cons_append, List.cons_append, List.cons_append, List.cons_append, List.nil_append] at e
  show x8 = 0 ↔ _
  have hp8 := pw_pos 8
  generalize val [x0, x1, x2, x3, x4, x5, x6, x7, x8, x9, x10, x11] = V at *
  generalize val [x0, x1, x2, x3, x4, x5, x6, x7] = L at *
  generalize val [x9, x10, x11] = M at *
  generalize val [x8, x9, x10, x11] = K at *
  generalize pw 8 = p at *
  subst e2
  have hM : M = 0 := by
    rcases Int.lt_trichotomy M 0 with hk | hk | hk
    · omega
    · exact hk
    · have := Int.mul_le_mul_of_nonneg_left (show 4294967296 ≤ x8 + 4294967296 * M by omega) (show 0 ≤ p by omega)
      omega
  subst hM
  constructor
  · intro hx; subst hx; simp at e; omega
  · intro hv
    rcases Int.lt_trichotomy x8 0 with hk | hk | hk
    · omega
    · exact hk
    · have := Int.mul_le_mul_of_nonneg_left (show 1 ≤ x8 + 4294967296 * 0 by omega) (show 0 ≤ p by omega)
      omega
end Go.Proofs.YtgodmbcebpbdiaaDoor.R2
