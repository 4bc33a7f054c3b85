/- Texts of this seat, put together: each part tells above it what it proves and on what conditions. -/
import Derived.Test.YtgodmbcebpbdiaaDoorProg
import Derived.WalkKit
import Derived.Below
import Derived.Tactics
import Derived.KernelRfl
import Derived.RowKit
import Derived.RowKit3
import Derived.Deep.LoopGhost
import Derived.Deep.QuietTactic
import Derived.BigQuiet
import Derived.Deep.DeepCutAuto
import Derived.OwnWalk
import Derived.Test.YtgodmbcebpbdiaaDoorXWWords
/- Rows of words of 32 bits, the lowest first: what sums, products and comparisons come to. No Go stands here. -/
section
set_option linter.unusedVariables false
set_option linter.unusedSimpArgs false
namespace Go.Proofs.YtgodmbcebpbdiaaDoor.R2

/-- What a row of words tells. -/
def val : List Int → Int
  | [] => 0
  | x :: r => x + 4294967296 * val r
def Words (l : List Int) : Prop := ∀ x, x ∈ l → 0 ≤ x ∧ x < 4294967296
/-- 2^32, so often. -/
def pw : Nat → Int
  | 0 => 1
  | n + 1 => 4294967296 * pw n
theorem pw_pos : ∀ n, 0 < pw n
  | 0 => by decide
  | n + 1 => by have := pw_pos n; rw [pw]; omega
theorem words_cons {x : Int} {r : List Int} (h : Words (x :: r)) : (0 ≤ x ∧ x < 4294967296) ∧ Words r := ⟨h x List.mem_cons_self, fun y hy => h y (List.mem_cons_of_mem _ hy)⟩
theorem words_mk {x : Int} {r : List Int} (hx : 0 ≤ x ∧ x < 4294967296) (hr : Words r) : Words (x :: r) := by
  intro y hy
  rcases List.mem_cons.1 hy with rfl | hy
  · exact hx
  · exact hr y hy
theorem val_bounds : ∀ {l : List Int}, Words l → 0 ≤ val l ∧ val l < pw l.length
  | [], _ => by simp [val, pw]
  | x :: r, h => by
    obtain ⟨hx, hr⟩ := words_cons h
    have := val_bounds hr
    rw [val, List.length_cons, pw]
    omega
/-- A remainder within bounds, told by its equation. -/
theorem by_rem {a b p k : Int} (h : a = b + p * k) (hb0 : 0 ≤ b) (hb1 : b < p) (ha0 : 0 ≤ a) (ha1 : a < p) : b = a := by
  have hp : 0 < p := by omega
  have hk : k = 0 := by
    rcases Int.lt_trichotomy k 0 with hk | hk | hk
    · have := Int.mul_le_mul_of_nonneg_left (show k ≤ -1 by omega) (show 0 ≤ p by omega)
      omega
    · exact hk
    · have := Int.mul_le_mul_of_nonneg_left (show 1 ≤ k by omega) (show 0 ≤ p by omega)
      omega
  subst hk
  rw [h, Int.mul_zero, Int.add_zero]

/-! ### Times a small one, and one more -/
def timesL (m : Int) : Int → List Int → List Int
  | _, [] => []
  | c, x :: r => (c + x * m) % 4294967296 :: timesL m ((c + x * m) / 4294967296) r
theorem step_bound {c x m : Int} (hc : 0 ≤ c ∧ c < 4294967296) (hx : 0 ≤ x ∧ x < 4294967296) (hm : 0 ≤ m ∧ m < 4294967296) : 0 ≤ c + x * m ∧ c + x * m < 18446744073709551616 ∧ 0 ≤ (c + x * m) / 4294967296 ∧ (c + x * m) / 4294967296 < 4294967296 := by
  have h1 : 0 ≤ x * m := Int.mul_nonneg hx.1 hm.1
  have h2 : x * m ≤ 4294967295 * m := Int.mul_le_mul_of_nonneg_right (by omega) hm.1
  omega
theorem times_val {m : Int} (hm : 0 ≤ m ∧ m < 4294967296) : ∀ {l : List Int} {c : Int}, Words l → (0 ≤ c ∧ c < 4294967296) →
    Words (timesL m c l) ∧ (timesL m c l).length = l.length ∧ ∃ k, val l * m + c = val (timesL m c l) + pw l.length * k
  | [], c, _, hc => ⟨fun x hx => (by cases hx), rfl, c, by simp [timesL, val, pw]⟩
  | x :: r, c, h, hc => by
    obtain ⟨hx, hr⟩ := words_cons h
    have hb := step_bound hc hx hm
    obtain ⟨h1, h2, k, hk⟩ := times_val hm hr ⟨hb.2.2.1, hb.2.2.2⟩
    refine ⟨words_mk (by omega) h1, by rw [timesL, List.length_cons, List.length_cons, h2], k, ?_⟩
    rw [timesL, val, val, List.length_cons, pw, Int.add_mul, Int.mul_assoc, Int.mul_assoc]
    generalize timesL m ((c + x * m) / 4294967296) r = T at *
    generalize val r * m = V at *
    generalize pw r.length * k = Pk at *
    generalize val T = W at *
    generalize x * m = y at *
    omega

/-! ### Which one is smaller -/
def lessL : List Int → List Int → Bool
  | x :: a, y :: b => if a = b then decide (x < y) else lessL a b
  | _, _ => false
/-! ### One without another -/
def minusL : Int → List Int → List Int → List Int
  | c, x :: a, y :: b => (x + 4294967296 - y - c) % 4294967296 :: minusL (1 - (x + 4294967296 - y - c) / 4294967296) a b
  | _, _, _ => []
theorem minus_val : ∀ {a b : List Int} {c : Int}, Words a → Words b → a.length = b.length → (c = 0 ∨ c = 1) →
    Words (minusL c a b) ∧ (minusL c a b).length = a.length ∧ ∃ k, val a - val b - c = val (minusL c a b) + pw a.length * k
  | [], [], c, _, _, _, _ => ⟨fun x hx => (by cases hx), rfl, -c, by simp [minusL, val, pw]⟩
  | [], _ :: _, _, _, _, h, _ => by simp at h
  | _ :: _, [], _, _, _, h, _ => by simp at h
  | x :: a, y :: b, c, ha, hb, hl, hc => by
    obtain ⟨hx, ha⟩ := words_cons ha
    obtain ⟨hy, hb⟩ := words_cons hb
    obtain ⟨h1, h2, k, hk⟩ := minus_val (c := 1 - (x + 4294967296 - y - c) / 4294967296) ha hb (by simpa using hl) (by omega)
    refine ⟨words_mk (by omega) h1, by rw [minusL, List.length_cons, List.length_cons, h2], k, ?_⟩
    rw [minusL, val, val, val, List.length_cons, pw, Int.mul_assoc]
    generalize minusL (1 - (x + 4294967296 - y - c) / 4294967296) a b = T at *
    generalize pw a.length * k = Pk at *
    omega

/-! ### Sums -/
def addL : Int → List Int → List Int → List Int
  | c, x :: a, y :: b => (c + x + y) % 4294967296 :: addL ((c + x + y) / 4294967296) a b
  | _, _, _ => []
theorem add_val : ∀ {a b : List Int} {c : Int}, Words a → Words b → a.length = b.length → (c = 0 ∨ c = 1) →
    Words (addL c a b) ∧ (addL c a b).length = a.length ∧ ∃ k, val a + val b + c = val (addL c a b) + pw a.length * k
  | [], [], c, _, _, _, _ => ⟨fun x hx => (by cases hx), rfl, c, by simp [addL, val, pw]⟩
  | [], _ :: _, _, _, _, h, _ => by simp at h
  | _ :: _, [], _, _, _, h, _ => by simp at h
  | x :: a, y :: b, c, ha, hb, hl, hc => by
    obtain ⟨hx, ha⟩ := words_cons ha
    obtain ⟨hy, hb⟩ := words_cons hb
    obtain ⟨h1, h2, k, hk⟩ := add_val (c := (c + x + y) / 4294967296) ha hb (by simpa using hl) (by omega)
    refine ⟨words_mk (by omega) h1, by rw [addL, List.length_cons, List.length_cons, h2], k, ?_⟩
    rw [addL, val, val, val, List.length_cons, pw, Int.mul_assoc]
    generalize addL ((c + x + y) / 4294967296) a b = T at *
    generalize pw a.length * k = Pk at *
    omega

/-! ### Numbers of twelve words -/
structure Num (l : List Int) : Prop where
  len : l.length = 12
  words : Words l
theorem Num.times {l : List Int} (h : Num l) {m c : Int} (hm : 0 ≤ m ∧ m < 4294967296) (hc : 0 ≤ c ∧ c < 4294967296) : Num (timesL m c l) ∧ ∃ k, val l * m + c = val (timesL m c l) + pw 12 * k := by
  obtain ⟨h1, h2, h3⟩ := times_val hm h.words hc
  rw [h.len] at h2 h3
  exact ⟨⟨h2, h1⟩, h3⟩
theorem Num.bounds {l : List Int} (h : Num l) : 0 ≤ val l ∧ val l < pw 12 := by
  have := val_bounds h.words
  rwa [h.len] at this
theorem Num.times_small {l : List Int} (h : Num l) {m c : Int} (hm : 0 ≤ m ∧ m < 4294967296) (hc : 0 ≤ c ∧ c < 4294967296) (hv : val l * m + c < pw 12) : Num (timesL m c l) ∧ val (timesL m c l) = val l * m + c := by
  obtain ⟨h1, k, hk⟩ := h.times hm hc
  have hb := h1.bounds
  have h0 : 0 ≤ val l * m := Int.mul_nonneg h.bounds.1 hm.1
  exact ⟨h1, by_rem hk hb.1 hb.2 (by omega) hv⟩
theorem Num.minus {a b : List Int} (ha : Num a) (hb : Num b) (h : val b ≤ val a) : Num (minusL 0 a b) ∧ val (minusL 0 a b) = val a - val b := by
  obtain ⟨h1, h2, k, hk⟩ := minus_val (c := 0) ha.words hb.words (by rw [ha.len, hb.len]) (Or.inl rfl)
  rw [ha.len] at h2 hk
  have hn : Num (minusL 0 a b) := ⟨h2, h1⟩
  have b1 := ha.bounds
  have b2 := hb.bounds
  have b3 := hn.bounds
  refine ⟨hn, ?_⟩
  have := by_rem hk b3.1 b3.2 (by omega) (by omega)
  omega
theorem Num.add {a b : List Int} (ha : Num a) (hb : Num b) (h : val a + val b < pw 12) : Num (addL 0 a b) ∧ val (addL 0 a b) = val a + val b := by
  obtain ⟨h1, h2, k, hk⟩ := add_val (c := 0) ha.words hb.words (by rw [ha.len, hb.len]) (Or.inl rfl)
  rw [ha.len] at h2 hk
  have hn : Num (addL 0 a b) := ⟨h2, h1⟩
  have b1 := ha.bounds
  have b2 := hb.bounds
  have b3 := hn.bounds
  refine ⟨hn, ?_⟩
  have := by_rem hk b3.1 b3.2 (by omega) (by omega)
  omega
end Go.Proofs.YtgodmbcebpbdiaaDoor.R2
end

/- The document's sums and products of words, walked. -/
section
set_option linter.unusedVariables false
set_option linter.unusedSimpArgs false
namespace Go.Proofs.YtgodmbcebpbdiaaDoor.R2
open Go.RowKit Go.Proofs.YtgodmbcebpbdiaaDoorW.PrintWords

/-- The cells of a number of words. -/
def cellsI (b : Bool) (l : List Int) : Array Value := (Value.bool b :: l.map fun x => Value.int .u64 x).toArray
theorem cellsI_size (b : Bool) (l : List Int) : (cellsI b l).size = l.length + 1 := by simp [cellsI]
theorem cellsI_at (b : Bool) (l : List Int) (i : Nat) (h : i < l.length) : (cellsI b l)[1 + i]? = some (.int .u64 (l.getD i 0)) := by
  rw [Nat.add_comm]
  simp [cellsI, List.getD_eq_getElem?_getD, h]
theorem cellsI_set (b : Bool) (l : List Int) (i : Nat) (x : Int) : (cellsI b l).setIfInBounds (1 + i) (.int .u64 x) = cellsI b (l.set i x) := by
  rw [Nat.add_comm]
  simp [cellsI, List.map_set]
/-- A number of words lies at a block. -/
def IsI (W : World) (g : Nat) (b : Bool) (l : List Int) : Prop := W.heap[g]? = some (.cells (cellsI b l) 58 (0, 0))
theorem IsI.at_ {W : World} {g : Nat} {b : Bool} {l : List Int} (h : IsI W g b l) {i : Nat} (hi : i < l.length) : W.cell? ⟨g, 1 + i, none⟩ = some (.int .u64 (l.getD i 0)) := (blk_cell h (1 + i)).trans (cellsI_at b l i hi)
theorem IsI.fr {W : World} {g : Nat} {b : Bool} {l : List Int} (h : IsI W g b l) (i : Nat) : W.frozen? ⟨g, i, none⟩ = false := blk_frozen h i
theorem IsI.set {W : World} {g : Nat} {b : Bool} {l : List Int} (h : IsI W g b l) (i : Nat) (x : Int) : IsI (W.setCell ⟨g, 1 + i, none⟩ (.int .u64 x)) g b (l.set i x) := blk_put h (1 + i) _ (cellsI_set b l i x)
theorem cellsI_setB (b b' : Bool) (l : List Int) : (cellsI b l).setIfInBounds 0 (.bool b') = cellsI b' l := by simp [cellsI]
theorem IsI.setB {W : World} {g : Nat} {b : Bool} {l : List Int} (h : IsI W g b l) (b' : Bool) : IsI (W.setCell ⟨g, 0, none⟩ (.bool b')) g b' l := blk_put h 0 _ (cellsI_setB b b' l)
theorem IsI.far {W : World} {g g' : Nat} {b : Bool} {l : List Int} (h : IsI W g b l) (hne : g ≠ g') (i : Nat) (u : Value) : IsI (W.setCell ⟨g', i, none⟩ u) g b l := (Below.heap_setCell _ _ _ _ (by simpa using hne)).trans h
theorem IsI.drewN {W : World} {g : Nat} {b : Bool} {l : List Int} (h : IsI W g b l) (n : Nat) : IsI (W.drewN n) g b l := h
theorem dozen {l : List Int} (h : l.length = 12) : ∃ x0 x1 x2 x3 x4 x5 x6 x7 x8 x9 x10 x11, l = [x0, x1, x2, x3, x4, x5, x6, x7, x8, x9, x10, x11] := by
  match l, h with
  | [x0, x1, x2, x3, x4, x5, x6, x7, x8, x9, x10, x11], _ => exact ⟨x0, x1, x2, x3, x4, x5, x6, x7, x8, x9, x10, x11, rfl⟩
theorem IsI.cells {W : World} {g : Nat} {b : Bool} {x0 x1 x2 x3 x4 x5 x6 x7 x8 x9 x10 x11 : Int} (h : IsI W g b [x0, x1, x2, x3, x4, x5, x6, x7, x8, x9, x10, x11]) : W.cell? ⟨g, 0, none⟩ = some (.bool b) ∧ W.cell? ⟨g, 1, none⟩ = some (.int .u64 x0) ∧ W.cell? ⟨g, 2, none⟩ = some (.int .u64 x1) ∧ W.cell? ⟨g, 3, none⟩ = some (.int .u64 x2) ∧ W.cell? ⟨g, 4, none⟩ = some (.int .u64 x3) ∧ W.cell? ⟨g, 5, none⟩ = some (.int .u64 x4) ∧ W.cell? ⟨g, 6, none⟩ = some (.int .u64 x5) ∧ W.cell? ⟨g, 7, none⟩ = some (.int .u64 x6) ∧ W.cell? ⟨g, 8, none⟩ = some (.int .u64 x7) ∧ W.cell? ⟨g, 9, none⟩ = some (.int .u64 x8) ∧ W.cell? ⟨g, 10, none⟩ = some (.int .u64 x9) ∧ W.cell? ⟨g, 11, none⟩ = some (.int .u64 x10) ∧ W.cell? ⟨g, 12, none⟩ = some (.int .u64 x11) :=
  ⟨(blk_cell h 0).trans rfl, (blk_cell h 1).trans rfl, (blk_cell h 2).trans rfl, (blk_cell h 3).trans rfl, (blk_cell h 4).trans rfl, (blk_cell h 5).trans rfl, (blk_cell h 6).trans rfl, (blk_cell h 7).trans rfl, (blk_cell h 8).trans rfl, (blk_cell h 9).trans rfl, (blk_cell h 10).trans rfl, (blk_cell h 11).trans rfl, (blk_cell h 12).trans rfl⟩
theorem IsI.frs {W : World} {g : Nat} {b : Bool} {l : List Int} (h : IsI W g b l) : W.frozen? ⟨g, 0, none⟩ = false ∧ W.frozen? ⟨g, 1, none⟩ = false ∧ W.frozen? ⟨g, 2, none⟩ = false ∧ W.frozen? ⟨g, 3, none⟩ = false ∧ W.frozen? ⟨g, 4, none⟩ = false ∧ W.frozen? ⟨g, 5, none⟩ = false ∧ W.frozen? ⟨g, 6, none⟩ = false ∧ W.frozen? ⟨g, 7, none⟩ = false ∧ W.frozen? ⟨g, 8, none⟩ = false ∧ W.frozen? ⟨g, 9, none⟩ = false ∧ W.frozen? ⟨g, 10, none⟩ = false ∧ W.frozen? ⟨g, 11, none⟩ = false ∧ W.frozen? ⟨g, 12, none⟩ = false :=
  ⟨blk_frozen h 0, blk_frozen h 1, blk_frozen h 2, blk_frozen h 3, blk_frozen h 4, blk_frozen h 5, blk_frozen h 6, blk_frozen h 7, blk_frozen h 8, blk_frozen h 9, blk_frozen h 10, blk_frozen h 11, blk_frozen h 12⟩
theorem put13 {W : World} {g : Nat} {b0 : Bool} {x0 x1 x2 x3 x4 x5 x6 x7 x8 x9 x10 x11 : Int} (h : IsI W g b0 [x0, x1, x2, x3, x4, x5, x6, x7, x8, x9, x10, x11]) (b : Bool) (y0 y1 y2 y3 y4 y5 y6 y7 y8 y9 y10 y11 : Int) {w : World} {base : Nat} (hB : Below base w W) (hg : base ≤ g) :
    ∃ W', W' = ((((((((((((W.setCell ⟨g, 0, none⟩ (.bool b)).setCell ⟨g, 1, none⟩ (.int .u64 y0)).setCell ⟨g, 2, none⟩ (.int .u64 y1)).setCell ⟨g, 3, none⟩ (.int .u64 y2)).setCell ⟨g, 4, none⟩ (.int .u64 y3)).setCell ⟨g, 5, none⟩ (.int .u64 y4)).setCell ⟨g, 6, none⟩ (.int .u64 y5)).setCell ⟨g, 7, none⟩ (.int .u64 y6)).setCell ⟨g, 8, none⟩ (.int .u64 y7)).setCell ⟨g, 9, none⟩ (.int .u64 y8)).setCell ⟨g, 10, none⟩ (.int .u64 y9)).setCell ⟨g, 11, none⟩ (.int .u64 y10)).setCell ⟨g, 12, none⟩ (.int .u64 y11) ∧ IsI W' g b [y0, y1, y2, y3, y4, y5, y6, y7, y8, y9, y10, y11] ∧ Below base w W' ∧ ∀ (g' : Nat) (b' : Bool) (l' : List Int), g' ≠ g → IsI W g' b' l' → IsI W' g' b' l' := by
  refine ⟨_, rfl, ?_, ?_, ?_⟩
  · exact IsI.set (IsI.set (IsI.set (IsI.set (IsI.set (IsI.set (IsI.set (IsI.set (IsI.set (IsI.set (IsI.set (IsI.set (IsI.setB h b) 0 y0) 1 y1) 2 y2) 3 y3) 4 y4) 5 y5) 6 y6) 7 y7) 8 y8) 9 y9) 10 y10) 11 y11
  · exact Below.setCell (p := ⟨g, 12, none⟩) (Below.setCell (p := ⟨g, 11, none⟩) (Below.setCell (p := ⟨g, 10, none⟩) (Below.setCell (p := ⟨g, 9, none⟩) (Below.setCell (p := ⟨g, 8, none⟩) (Below.setCell (p := ⟨g, 7, none⟩) (Below.setCell (p := ⟨g, 6, none⟩) (Below.setCell (p := ⟨g, 5, none⟩) (Below.setCell (p := ⟨g, 4, none⟩) (Below.setCell (p := ⟨g, 3, none⟩) (Below.setCell (p := ⟨g, 2, none⟩) (Below.setCell (p := ⟨g, 1, none⟩) (Below.setCell (p := ⟨g, 0, none⟩) hB hg _) hg _) hg _) hg _) hg _) hg _) hg _) hg _) hg _) hg _) hg _) hg _) hg _
  · intro g' b' l' hne h'
    exact IsI.far (IsI.far (IsI.far (IsI.far (IsI.far (IsI.far (IsI.far (IsI.far (IsI.far (IsI.far (IsI.far (IsI.far (h'.far hne 0 _) hne 1 _) hne 2 _) hne 3 _) hne 4 _) hne 5 _) hne 6 _) hne 7 _) hne 8 _) hne 9 _) hne 10 _) hne 11 _) hne 12 _
/-- The end of a function whose result is a number of words. -/
theorem end_num {fn : Func} {p : Tmp} (hr : fn.results = #[.cell p 58]) {a : Act} {W : World} {g : Nat} {b : Bool} {l : List Int} (hl : l.length = 12) (h : IsI W g b l) (hp : a.tmps.getD p undef = .pointer (some ⟨g, 0, none⟩)) (hd : a.defers = []) {R : Ending → World → Prop} (hR : R (.returned (.agg (cellsI b l))) W) :
    bodyPost Tryd.prog fn R .ret a W :=
  bodyPost_ret (results_cell_row hr a.tmps W g 58 _ (0, 0) _ hp h Tryd.underlying58 rfl (by rw [cellsI_size, hl]; kernel_rfl)) hd hR
theorem u64_id {z : Int} (h0 : 0 ≤ z) (h1 : z < 18446744073709551616) : IntKind.u64.wrap z = z := by
  have h2 : z % 2 ^ 64 = z := by omega
  simp only [IntKind.wrap, IntKind.signed, IntKind.bits, h2, Bool.false_and, Bool.false_eq_true, if_false]
theorem set_mid (a r : List Int) (x y : Int) : (a ++ x :: r).set a.length y = a ++ y :: r := by simp
set_option maxHeartbeats 2000000 in
set_option maxRecDepth 100000 in
theorem times_calls (b : Bool) (l : List Int) (m c : Int) (w : World) (h : Num l) (hm : 0 ≤ m ∧ m < 4294967296) (hc : 0 ≤ c ∧ c < 4294967296) :
    Calls Tryd.prog 41 #[.agg (cellsI b l), .int .u64 m, .int .u64 c] w fun e w' => e = .returned (.agg (cellsI b (timesL m c l))) ∧ Below w.heap.size w w' := by
  have HN := Aside0.mk h; clear h
  have HM := Aside0.mk hm; clear hm
  have HC := Aside0.mk hc; clear hc
  go_enter Tryd.func41, Tryd.ntmps41
  go_wp2_with fail
  have k1 : IsI ((w.alloc (.cells (cellsI b l) 58)).alloc (.cells (cellsI false (List.replicate 12 0)) 58)) w.heap.size b l := blk_alloc (blk_new w _) _
  have k2 : IsI ((w.alloc (.cells (cellsI b l) 58)).alloc (.cells (cellsI false (List.replicate 12 0)) 58)) (w.heap.size + 1) false (List.replicate 12 0) := by
    have := blk_new (w.alloc (.cells (cellsI b l) 58)) (.cells (cellsI false (List.replicate 12 0)) 58)
    rwa [World.size_alloc] at this
  have k3 : Below w.heap.size w ((w.alloc (.cells (cellsI b l) 58)).alloc (.cells (cellsI false (List.replicate 12 0)) 58)) := below_alloc (below_alloc (Below.refl _ _) _) _
  have hz : cellsI false (List.replicate 12 0) = #[Value.bool false, .int .u64 0, .int .u64 0, .int .u64 0, .int .u64 0, .int .u64 0, .int .u64 0, .int .u64 0, .int .u64 0, .int .u64 0, .int .u64 0, .int .u64 0, .int .u64 0] := rfl
  rw [hz] at k1 k2 k3
  have K1 := Aside0.mk k1; have K2 := Aside0.mk k2; have K3 := Aside0.mk k3
  clear k1 k2 k3 hz
  generalize (w.alloc _).alloc _ = W0 at K1 K2 K3 ⊢
  go_loopw [7, 8] (fun v7 v8 wr => ∃ (k : Nat) (cc : Int) (a r : List Int), k ≤ 12 ∧ a.length = k ∧ v8 = .int .i64 k ∧ v7 = .int .u64 cc ∧ Aside0 (Num (a ++ r)) ∧ Aside0 (0 ≤ cc ∧ cc < 4294967296) ∧ Aside0 (timesL m c l = a ++ timesL m cc r) ∧ Aside0 (IsI wr w.heap.size b (a ++ r)) ∧ Aside0 (IsI wr (w.heap.size + 1) false (List.replicate 12 0)) ∧ Aside0 (Below w.heap.size w wr)) (fun _ v8 _ => 12 - (intOf v8).toNat)
  case atStart => exact ⟨0, c, [], l, by omega, rfl, rfl, rfl, HN, HC, ⟨rfl⟩, K1, K2, K3⟩
  case round =>
    clear K1 K2 K3
    obtain ⟨k, cc, a, r, hk, ha, rfl, rfl, HNa, HCc, HT, K1, K2, K3⟩ := hrel
    by_cases hlt : k < 12
    · have hlen := HNa.out.len
      rw [List.length_append] at hlen
      obtain ⟨x, r, rfl⟩ : ∃ x r', r = x :: r' := by
        cases r with
        | nil => simp at hlen; omega
        | cons x r' => exact ⟨x, r', rfl⟩
      have c1 : decide ((k : Int) < 12) = true := decide_eq_true (by omega)
      have c2 : (k : Int) < 12 := by omega
      have hx : (a ++ x :: r).getD k 0 = x := by subst ha; simp
      have kc := K1.out.at_ (i := k) (by rw [HNa.out.len]; exact hlt)
      rw [hx] at kc
      have kf := K1.out.fr (1 + k)
      clear hx hlen
      go_wp2
      have hb := step_bound HCc.out (HNa.out.words x (by simp)) HM.out
      have hxm : 0 ≤ x * m ∧ x * m < 18446744073709551616 := by
        have h0 := HCc.out
        have h1 : 0 ≤ x * m := Int.mul_nonneg (HNa.out.words x (by simp)).1 HM.out.1
        omega
      rw [u64_id hxm.1 hxm.2, u64_id hb.1 hb.2.1, Int.tdiv_eq_ediv_of_nonneg hb.1, Int.tmod_eq_emod_of_nonneg hb.1, u64_id hb.2.2.1 (by omega)]
      refine ⟨⟨k + 1, (cc + x * m) / 4294967296, a ++ [(cc + x * m) % 4294967296], r, by omega, by simp [ha], rfl, rfl, ⟨?_⟩, ⟨hb.2.2⟩, ⟨?_⟩, ⟨?_⟩, ⟨K2.out.far (by omega) _ _⟩, ⟨?_⟩⟩, ?_⟩
      · have h0 := HNa.out
        refine ⟨?_, ?_⟩
        · have := h0.len; simp at this ⊢; omega
        · intro y hy
          simp only [List.append_assoc, List.mem_append, List.mem_cons, List.not_mem_nil, or_false, List.singleton_append] at hy
          rcases hy with hy | hy | hy
          · exact h0.words y (by simp [hy])
          · omega
          · exact h0.words y (by simp [hy])
      · rw [HT.out, timesL, List.append_assoc]; rfl
      · have h1 := K1.out.set k ((cc + x * m) % 4294967296)
        rw [← ha, set_mid] at h1
        rw [← ha, List.append_assoc]
        exact h1
      · exact Below.setCell (p := ⟨w.heap.size, 1 + k, none⟩) K3.out (Nat.le_refl _) _
      · simp [intOf]; omega
    · have hr : r = [] := by
        have hlen := HNa.out.len
        rw [List.length_append] at hlen
        exact List.eq_nil_of_length_eq_zero (by omega)
      subst hr
      have c1 : decide ((k : Int) < 12) = false := decide_eq_false (by omega)
      have hfin : timesL m c l = a := by rw [HT.out, timesL, List.append_nil]
      have K1 := Aside0.mk (show IsI wr w.heap.size b a by have := K1.out; rwa [List.append_nil] at this)
      have hla : a.length = 12 := by have := HNa.out.len; rwa [List.append_nil] at this
      obtain ⟨y0, y1, y2, y3, y4, y5, y6, y7, y8, y9, y10, y11, rfl⟩ := dozen hla
      have HF := Aside0.mk hfin; clear hfin
      have k1 := K1.out.cells
      have k2 := IsI.cells (x0 := 0) (x1 := 0) (x2 := 0) (x3 := 0) (x4 := 0) (x5 := 0) (x6 := 0) (x7 := 0) (x8 := 0) (x9 := 0) (x10 := 0) (x11 := 0) K2.out
      have k3 := K2.out.frs
      obtain ⟨p0, p1, p2, p3, p4, p5, p6, p7, p8, p9, p10, p11, p12⟩ := k1
      obtain ⟨q0, q1, q2, q3, q4, q5, q6, q7, q8, q9, q10, q11, q12⟩ := k2
      obtain ⟨f0, f1, f2, f3, f4, f5, f6, f7, f8, f9, f10, f11, f12⟩ := k3
      clear HT HNa ha hla
      go_wp2
      obtain ⟨W', hW, e1, e2, e3⟩ := put13 (x0 := 0) (x1 := 0) (x2 := 0) (x3 := 0) (x4 := 0) (x5 := 0) (x6 := 0) (x7 := 0) (x8 := 0) (x9 := 0) (x10 := 0) (x11 := 0) K2.out b y0 y1 y2 y3 y4 y5 y6 y7 y8 y9 y10 y11 K3.out (Nat.le_succ _)
      rw [← hW]
      exact end_num rfl rfl e1 rfl rfl ⟨by rw [HF.out], e2⟩
end Go.Proofs.YtgodmbcebpbdiaaDoor.R2
end

/- The document's differences of words, walked. -/
section
set_option linter.unusedVariables false
set_option linter.unusedSimpArgs false
namespace Go.Proofs.YtgodmbcebpbdiaaDoor.R2
open Go.RowKit Go.Proofs.YtgodmbcebpbdiaaDoorW.PrintWords

theorem zeros_cells : cellsI false (List.replicate 12 0) = #[Value.bool false, .int .u64 0, .int .u64 0, .int .u64 0, .int .u64 0, .int .u64 0, .int .u64 0, .int .u64 0, .int .u64 0, .int .u64 0, .int .u64 0, .int .u64 0, .int .u64 0] := rfl
theorem IsI.alloc {W : World} {g : Nat} {b : Bool} {l : List Int} (h : IsI W g b l) (o : Obj) : IsI (W.alloc o) g b l := blk_alloc h o
theorem IsI.new (W : World) (b : Bool) (l : List Int) : IsI (W.alloc (.cells (cellsI b l) 58)) W.heap.size b l := blk_new W _
theorem IsI.below {W W' : World} {g : Nat} {b : Bool} {l : List Int} (h : IsI W g b l) (hb : Below W.heap.size W W') : IsI W' g b l := blk_below h hb
theorem split_at {l : List Int} {k : Nat} (h : k < l.length) : ∃ p x r, l = p ++ x :: r ∧ p.length = k :=
  ⟨l.take k, l[k], l.drop (k + 1), by rw [← List.drop_eq_getElem_cons h, List.take_append_drop], by rw [List.length_take]; omega⟩
theorem getD_mid (a r : List Int) (x : Int) : (a ++ x :: r).getD a.length 0 = x := by simp
theorem num_mid {a r : List Int} {x y : Int} (h : Num (a ++ x :: r)) (hy : 0 ≤ y ∧ y < 4294967296) : Num (a ++ y :: r) := by
  refine ⟨?_, ?_⟩
  · have := h.len; simp at this ⊢; omega
  · intro z hz
    simp only [List.mem_append, List.mem_cons] at hz
    rcases hz with hz | hz | hz
    · exact h.words z (by simp [hz])
    · omega
    · exact h.words z (by simp [hz])
theorem num_end {a r : List Int} (h : Num (a ++ r)) (ha : ¬ a.length < 12) : r = [] ∧ a.length = 12 := by
  have := h.len
  rw [List.length_append] at this
  exact ⟨List.eq_nil_of_length_eq_zero (by omega), by omega⟩
set_option maxHeartbeats 4000000 in
set_option maxRecDepth 100000 in
theorem minus_calls (b b2 : Bool) (l l2 : List Int) (w : World) (h : Num l) (h2 : Num l2) :
    Calls Tryd.prog 52 #[.agg (cellsI b l), .agg (cellsI b2 l2)] w fun e w' => e = .returned (.agg (cellsI b (minusL 0 l l2))) ∧ Below w.heap.size w w' := by
  have HN := Aside0.mk h; clear h
  have HN2 := Aside0.mk h2; clear h2
  go_enter Tryd.func52, Tryd.ntmps52
  go_wp2_with fail
  rw [← zeros_cells]
  have k1 : IsI (((w.alloc (.cells (cellsI b l) 58)).alloc (.cells (cellsI b2 l2) 58)).alloc (.cells (cellsI false (List.replicate 12 0)) 58)) w.heap.size b l := ((IsI.new w b l).alloc _).alloc _
  have k2 : IsI (((w.alloc (.cells (cellsI b l) 58)).alloc (.cells (cellsI b2 l2) 58)).alloc (.cells (cellsI false (List.replicate 12 0)) 58)) (w.heap.size + 1) b2 l2 := by
    have := IsI.new (w.alloc (.cells (cellsI b l) 58)) b2 l2
    rw [World.size_alloc] at this
    exact this.alloc _
  have k3 : IsI (((w.alloc (.cells (cellsI b l) 58)).alloc (.cells (cellsI b2 l2) 58)).alloc (.cells (cellsI false (List.replicate 12 0)) 58)) (w.heap.size + 1 + 1) false (List.replicate 12 0) := by
    have := IsI.new ((w.alloc (.cells (cellsI b l) 58)).alloc (.cells (cellsI b2 l2) 58)) false (List.replicate 12 0)
    rwa [World.size_alloc, World.size_alloc] at this
  have k4 : Below w.heap.size w (((w.alloc (.cells (cellsI b l) 58)).alloc (.cells (cellsI b2 l2) 58)).alloc (.cells (cellsI false (List.replicate 12 0)) 58)) := below_alloc (below_alloc (below_alloc (Below.refl _ _) _) _) _
  have K1 := Aside0.mk k1; have K2 := Aside0.mk k2; have K3 := Aside0.mk k3; have K4 := Aside0.mk k4
  clear k1 k2 k3 k4
  generalize ((w.alloc _).alloc _).alloc _ = W0 at K1 K2 K3 K4 ⊢
  go_loopw [5, 6] (fun v5 v6 wr => ∃ (k : Nat) (cc : Int) (a r p q : List Int), k ≤ 12 ∧ a.length = k ∧ p.length = k ∧ v6 = .int .i64 k ∧ v5 = .int .u64 cc ∧ l2 = p ++ q ∧ Aside0 (Num (a ++ r)) ∧ Aside0 (cc = 0 ∨ cc = 1) ∧ Aside0 (minusL 0 l l2 = a ++ minusL cc r q) ∧ Aside0 (IsI wr w.heap.size b (a ++ r)) ∧ Aside0 (IsI wr (w.heap.size + 1) b2 l2) ∧ Aside0 (IsI wr (w.heap.size + 1 + 1) false (List.replicate 12 0)) ∧ Aside0 (Below w.heap.size w wr)) (fun _ v6 _ => 12 - (intOf v6).toNat)
  case atStart => exact ⟨0, 0, [], l, [], l2, by omega, rfl, rfl, rfl, rfl, rfl, HN, ⟨Or.inl rfl⟩, ⟨rfl⟩, K1, K2, K3, K4⟩
  case round =>
    clear K1 K2 K3 K4
    obtain ⟨k, cc, a, r, p, q, hk, ha, hp, rfl, rfl, hl2, HNa, HCc, HT, K1, K2, K3, K4⟩ := hrel
    by_cases hlt : k < 12
    · have hlen := HNa.out.len
      have hlen2 := HN2.out.len
      rw [List.length_append] at hlen
      rw [hl2, List.length_append] at hlen2
      obtain ⟨x, r, rfl⟩ : ∃ x r', r = x :: r' := by
        cases r with
        | nil => simp at hlen; omega
        | cons x r' => exact ⟨x, r', rfl⟩
      obtain ⟨y, q, rfl⟩ : ∃ y q', q = y :: q' := by
        cases q with
        | nil => simp at hlen2; omega
        | cons x r' => exact ⟨x, r', rfl⟩
      have c1 : decide ((k : Int) < 12) = true := decide_eq_true (by omega)
      have c2 : (k : Int) < 12 := by omega
      have kc := K1.out.at_ (i := k) (by rw [HNa.out.len]; exact hlt)
      rw [← ha, getD_mid, ha] at kc
      have kd := K2.out.at_ (i := k) (by rw [HN2.out.len]; exact hlt)
      rw [hl2, ← hp, getD_mid, hp] at kd
      have kf := K1.out.fr (1 + k)
      clear hlen hlen2
      have HL2 := Aside0.mk hl2; clear hl2
      go_wp2
      repeat (go_quiet (fail); try go_wp2)
      have hx := HNa.out.words x (by simp)
      have hy := HN2.out.words y (by rw [HL2.out]; simp)
      have hc := HCc.out
      have e1 : IntKind.u64.wrap (x + 4294967296) = x + 4294967296 := u64_id (by omega) (by omega)
      have e2 : IntKind.u64.wrap (x + 4294967296 - y) = x + 4294967296 - y := u64_id (by omega) (by omega)
      have e3 : IntKind.u64.wrap (x + 4294967296 - y - cc) = x + 4294967296 - y - cc := u64_id (by omega) (by omega)
      rw [e1, e2, e3, Int.tdiv_eq_ediv_of_nonneg (by omega), Int.tmod_eq_emod_of_nonneg (by omega), u64_id (z := (x + 4294967296 - y - cc) / 4294967296) (by omega) (by omega), u64_id (z := 1 - (x + 4294967296 - y - cc) / 4294967296) (by omega) (by omega)]
      clear e1 e2 e3
      refine ⟨⟨k + 1, 1 - (x + 4294967296 - y - cc) / 4294967296, a ++ [(x + 4294967296 - y - cc) % 4294967296], r, p ++ [y], q, by omega, by simp [ha], by simp [hp], rfl, rfl, by rw [HL2.out, List.append_assoc]; rfl, ⟨?_⟩, ⟨by omega⟩, ⟨?_⟩, ⟨?_⟩, ⟨(K2.out.drewN nq).far (by omega) _ _⟩, ⟨(K3.out.drewN nq).far (by omega) _ _⟩, ⟨?_⟩⟩, ?_⟩
      · rw [List.append_assoc]; exact num_mid HNa.out (by omega)
      · rw [HT.out, minusL, List.append_assoc]; rfl
      · have h1 := (K1.out.drewN nq).set k ((x + 4294967296 - y - cc) % 4294967296)
        rw [← ha, set_mid] at h1
        rw [← ha, List.append_assoc]
        exact h1
      · exact Below.setCell (p := ⟨w.heap.size, 1 + k, none⟩) (pw_below_drewN K4.out nq) (Nat.le_refl _) _
      · simp [intOf]; omega
    · obtain ⟨rfl, hla⟩ := num_end HNa.out (by omega)
      have c1 : decide ((k : Int) < 12) = false := decide_eq_false (by omega)
      have hfin : minusL 0 l l2 = a := by rw [HT.out, minusL, List.append_nil] <;> simp
      have K1 := Aside0.mk (show IsI wr w.heap.size b a by have := K1.out; rwa [List.append_nil] at this)
      obtain ⟨y0, y1, y2, y3, y4, y5, y6, y7, y8, y9, y10, y11, rfl⟩ := dozen hla
      have HF := Aside0.mk hfin; clear hfin
      have k1 := K1.out.cells
      have k2 := IsI.cells (x0 := 0) (x1 := 0) (x2 := 0) (x3 := 0) (x4 := 0) (x5 := 0) (x6 := 0) (x7 := 0) (x8 := 0) (x9 := 0) (x10 := 0) (x11 := 0) K3.out
      have k3 := K3.out.frs
      obtain ⟨p0, p1, p2, p3, p4, p5, p6, p7, p8, p9, p10, p11, p12⟩ := k1
      obtain ⟨q0, q1, q2, q3, q4, q5, q6, q7, q8, q9, q10, q11, q12⟩ := k2
      obtain ⟨f0, f1, f2, f3, f4, f5, f6, f7, f8, f9, f10, f11, f12⟩ := k3
      clear HT HNa ha hla
      go_wp2
      repeat (go_quiet (fail); try go_wp2)
      obtain ⟨W', hW, e1, e2, e3⟩ := put13 (x0 := 0) (x1 := 0) (x2 := 0) (x3 := 0) (x4 := 0) (x5 := 0) (x6 := 0) (x7 := 0) (x8 := 0) (x9 := 0) (x10 := 0) (x11 := 0) K3.out b y0 y1 y2 y3 y4 y5 y6 y7 y8 y9 y10 y11 K4.out (by omega)
      rw [← hW]
      exact end_num rfl rfl e1 rfl rfl ⟨by rw [HF.out], e2⟩
end Go.Proofs.YtgodmbcebpbdiaaDoor.R2
end

/- Which of two numbers of words is smaller, walked. -/
section
set_option linter.unusedVariables false
set_option linter.unusedSimpArgs false
namespace Go.Proofs.YtgodmbcebpbdiaaDoor.R2
open Go.RowKit Go.Proofs.YtgodmbcebpbdiaaDoorW.PrintWords

theorem less_refl : ∀ l : List Int, lessL l l = false
  | [] => rfl
  | x :: r => by rw [lessL, if_pos rfl]; simp
theorem less_ne {x y : Int} (h : x ≠ y) (r : List Int) : ∀ a p : List Int, a.length = p.length → lessL (a ++ x :: r) (p ++ y :: r) = decide (x < y)
  | [], [], _ => by rw [List.nil_append, List.nil_append, lessL, if_pos rfl]
  | [], _ :: _, hl => by simp at hl
  | _ :: _, [], hl => by simp at hl
  | c :: a, d :: p, hl => by
    have hne : a ++ x :: r ≠ p ++ y :: r := fun he => by
      have := (List.append_inj he (by simpa using hl)).2
      exact h (List.cons.inj this).1
    rw [List.cons_append, List.cons_append, lessL, if_neg hne]
    exact less_ne h r a p (by simpa using hl)
theorem snoc_of {a : List Int} {n : Nat} (h : a.length = n + 1) : ∃ a' x, a = a' ++ [x] ∧ a'.length = n := by
  have hne : a ≠ [] := fun he => by rw [he] at h; cases h
  exact ⟨a.dropLast, a.getLast hne, (List.dropLast_concat_getLast hne).symm, by rw [List.length_dropLast]; omega⟩
set_option maxHeartbeats 4000000 in
set_option maxRecDepth 100000 in
theorem less_calls (b b2 : Bool) (l l2 : List Int) (w : World) (h : Num l) (h2 : Num l2) :
    Calls Tryd.prog 51 #[.agg (cellsI b l), .agg (cellsI b2 l2)] w fun e w' => e = .returned (.bool (lessL l l2)) ∧ Below w.heap.size w w' := by
  have HN := Aside0.mk h; clear h
  have HN2 := Aside0.mk h2; clear h2
  go_enter Tryd.func51, Tryd.ntmps51
  go_wp2_with fail
  have k1 : IsI ((w.alloc (.cells (cellsI b l) 58)).alloc (.cells (cellsI b2 l2) 58)) w.heap.size b l := (IsI.new w b l).alloc _
  have k2 : IsI ((w.alloc (.cells (cellsI b l) 58)).alloc (.cells (cellsI b2 l2) 58)) (w.heap.size + 1) b2 l2 := by
    have := IsI.new (w.alloc (.cells (cellsI b l) 58)) b2 l2
    rwa [World.size_alloc] at this
  have k4 : Below w.heap.size w ((w.alloc (.cells (cellsI b l) 58)).alloc (.cells (cellsI b2 l2) 58)) := below_alloc (below_alloc (Below.refl _ _) _) _
  have K1 := Aside0.mk k1; have K2 := Aside0.mk k2; have K4 := Aside0.mk k4
  clear k1 k2 k4
  generalize (w.alloc _).alloc _ = W0 at K1 K2 K4 ⊢
  go_loopw [5] (fun v5 wr => ∃ (n : Nat) (a p r : List Int), n ≤ 12 ∧ a.length = n ∧ p.length = n ∧ v5 = .int .i64 ((n : Int) - 1) ∧ l = a ++ r ∧ l2 = p ++ r ∧ Aside0 (IsI wr w.heap.size b l) ∧ Aside0 (IsI wr (w.heap.size + 1) b2 l2) ∧ Aside0 (Below w.heap.size w wr)) (fun v5 _ => (intOf v5 + 1).toNat)
  case atStart => exact ⟨12, l, l2, [], Nat.le_refl _, HN.out.len, HN2.out.len, rfl, by rw [List.append_nil], by rw [List.append_nil], K1, K2, K4⟩
  case round =>
    clear K1 K2 K4
    obtain ⟨n, a, p, r, hn, ha, hp, rfl, hl, hl2, K1, K2, K4⟩ := hrel
    have HL := Aside0.mk hl; have HL2 := Aside0.mk hl2
    cases n with
    | zero =>
      have ha0 : a = [] := List.eq_nil_of_length_eq_zero ha
      have hp0 : p = [] := List.eq_nil_of_length_eq_zero hp
      have hfin : lessL l l2 = false := by rw [hl, hl2, ha0, hp0]; exact less_refl _
      have HF := Aside0.mk hfin
      clear hl hl2 hfin
      have c1 : decide ((0 : Int) ≤ ((0 : Nat) : Int) - 1) = false := by decide
      go_wp2
      go_ret
      exact ⟨by rw [HF.out]; rfl, K4.out⟩
    | succ n =>
      obtain ⟨a, x, rfl, ha2⟩ := snoc_of ha
      obtain ⟨p, y, rfl, hp2⟩ := snoc_of hp
      rw [List.append_assoc, List.singleton_append] at hl hl2
      have c1 : decide ((0 : Int) ≤ ((n + 1 : Nat) : Int) - 1) = true := decide_eq_true (by omega)
      have e0 : ((n + 1 : Nat) : Int) - 1 = (n : Int) := by omega
      rw [e0] at c1 ⊢
      have c2 : (n : Int) < 12 := by omega
      have kc := K1.out.at_ (i := n) (by rw [HN.out.len]; omega)
      have kd := K2.out.at_ (i := n) (by rw [HN2.out.len]; omega)
      rw [hl, ← ha2, getD_mid, ha2] at kc
      rw [hl2, ← hp2, getD_mid, hp2] at kd
      have HA := Aside0.mk hl; have HA2 := Aside0.mk hl2
      clear hl hl2 HL HL2
      by_cases hxy : x = y
      · subst hxy
        have c3 : (x != x) = false := bne_self_eq_false x
        go_wp2
        repeat (go_quiet (fail); try go_wp2)
        exact ⟨⟨n, a, p, x :: r, by omega, ha2, hp2, rfl, HA.out, HA2.out, K1, K2, ⟨pw_below_drewN K4.out _⟩⟩, by simp [intOf]⟩
      · have c3 : (x != y) = true := bne_iff_ne.2 hxy
        have hfin : lessL l l2 = decide (x < y) := by rw [HA.out, HA2.out]; exact less_ne hxy r a p (by omega)
        have HF := Aside0.mk hfin
        clear hfin hxy
        go_wp2
        repeat (go_quiet (fail); try go_wp2)
        go_ret
        exact ⟨by rw [HF.out]; rfl, pw_below_drewN (pw_below_drewN K4.out _) _⟩
end Go.Proofs.YtgodmbcebpbdiaaDoor.R2
end

/- A number of words moved up by whole words; one told as a number of 64 bits; one made of that: walked. -/
section
set_option linter.unusedVariables false
set_option linter.unusedSimpArgs false
namespace Go.Proofs.YtgodmbcebpbdiaaDoor.R2
open Go.RowKit Go.Proofs.YtgodmbcebpbdiaaDoorW.PrintWords

/-- What a number of words is told as; none: it is too great. -/
def backV (b : Bool) (l : List Int) : Int × Int :=
  if (l.drop 2).all (fun x => x == 0) then
    (if b then (if l.getD 0 0 + l.getD 1 0 * 4294967296 > 9223372036854775808 then (0, 3) else (-(l.getD 0 0 + l.getD 1 0 * 4294967296), 0))
     else (if l.getD 0 0 + l.getD 1 0 * 4294967296 > 9223372036854775807 then (0, 3) else (l.getD 0 0 + l.getD 1 0 * 4294967296, 0)))
  else (0, 3)
theorem u64_mod (z : Int) : IntKind.u64.wrap z = z % 18446744073709551616 := by
  have h : z % 2 ^ 64 = z % 18446744073709551616 := rfl
  simp only [IntKind.wrap, IntKind.signed, IntKind.bits, h, Bool.false_and, Bool.false_eq_true, if_false]
theorem back_neg {y : Int} (h0 : 0 ≤ y) (h1 : y ≤ 9223372036854775808) : wrap64 (IntKind.u64.wrap (-y)) = -y := by
  rw [u64_mod]; unfold wrap64; omega
theorem back_pos {y : Int} (h0 : 0 ≤ y) (h1 : y ≤ 9223372036854775807) : wrap64 y = y := by
  unfold wrap64; omega
set_option maxHeartbeats 4000000 in
set_option maxRecDepth 100000 in
theorem back_calls (b : Bool) (l : List Int) (w : World) (h : Num l) :
    Calls Tryd.prog 42 #[.agg (cellsI b l)] w fun e w' => e = .returned (.tuple #[.int .i64 (backV b l).1, .int .i64 (backV b l).2]) ∧ Below w.heap.size w w' := by
  have HN := Aside0.mk h; clear h
  go_enter Tryd.func42, Tryd.ntmps42
  go_wp2_with fail
  have K1 := Aside0.mk (IsI.new w b l)
  have K4 := Aside0.mk (show Below w.heap.size w (w.alloc (.cells (cellsI b l) 58)) from below_alloc (Below.refl _ _) _)
  generalize w.alloc _ = W0 at K1 K4 ⊢
  go_loopw [4] (fun v4 wr => ∃ (k : Nat), 2 ≤ k ∧ k ≤ 12 ∧ v4 = .int .i64 k ∧ Aside0 (∀ i, 2 ≤ i → i < k → l.getD i 0 = 0) ∧ Aside0 (IsI wr w.heap.size b l) ∧ Aside0 (Below w.heap.size w wr)) (fun v4 _ => 12 - (intOf v4).toNat)
  case atStart => exact ⟨2, by omega, by omega, rfl, ⟨fun i h1 h2 => by omega⟩, K1, K4⟩
  case round =>
    clear K1 K4
    obtain ⟨k, hk2, hk, rfl, HZ, K1, K4⟩ := hrel
    by_cases hlt : k < 12
    · have c1 : decide ((k : Int) < 12) = true := decide_eq_true (by omega)
      have c2 : (k : Int) < 12 := by omega
      have kc := K1.out.at_ (i := k) (by rw [HN.out.len]; exact hlt)
      by_cases hz : l.getD k 0 = 0
      · rw [hz] at kc
        go_wp2
        exact ⟨⟨k + 1, by omega, by omega, rfl, ⟨fun i h1 h2 => by
          by_cases he : i = k
          · rw [he]; exact hz
          · exact HZ.out i h1 (by omega)⟩, K1, K4⟩, by simp [intOf]; omega⟩
      · have c3 : (l.getD k 0 != 0) = true := bne_iff_ne.2 hz
        have hfin : backV b l = (0, 3) := by
          unfold backV
          rw [if_neg]
          intro hall
          rw [List.all_eq_true] at hall
          have hkl : k < l.length := by rw [HN.out.len]; exact hlt
          have := hall (l.getD k 0) (by
            rw [List.getD_eq_getElem?_getD, List.getElem?_eq_getElem hkl, Option.getD_some]
            refine List.mem_iff_getElem.2 ⟨k - 2, by rw [List.length_drop]; omega, ?_⟩
            rw [List.getElem_drop]
            congr 1
            omega)
          exact hz (by simpa using this)
        have HF := Aside0.mk hfin
        generalize l.getD k 0 = z at kc c3
        clear hfin hz HZ
        go_wp2
        go_ret2
        exact ⟨by rw [HF.out]; rfl, K4.out⟩
    · have c1 : decide ((k : Int) < 12) = false := decide_eq_false (by omega)
      have hall : (l.drop 2).all (fun x => x == 0) = true := by
        rw [List.all_eq_true]
        intro x hx
        obtain ⟨i, hi, he⟩ := List.mem_iff_getElem.1 hx
        rw [List.length_drop, HN.out.len] at hi
        rw [List.getElem_drop] at he
        have := HZ.out (2 + i) (by omega) (by omega)
        rw [List.getD_eq_getElem?_getD, List.getElem?_eq_getElem (by rw [HN.out.len]; omega), Option.getD_some, he] at this
        rw [this]; rfl
      have k0 := K1.out.at_ (i := 0) (by rw [HN.out.len]; omega)
      have k1 := K1.out.at_ (i := 1) (by rw [HN.out.len]; omega)
      have kb : wr.cell? ⟨w.heap.size, 0, none⟩ = some (.bool b) := (blk_cell K1.out 0).trans rfl
      have b0 := HN.out.words (l.getD 0 0) (by rw [List.getD_eq_getElem?_getD, List.getElem?_eq_getElem (by rw [HN.out.len]; omega), Option.getD_some]; exact List.getElem_mem _)
      have b1 := HN.out.words (l.getD 1 0) (by rw [List.getD_eq_getElem?_getD, List.getElem?_eq_getElem (by rw [HN.out.len]; omega), Option.getD_some]; exact List.getElem_mem _)
      have HB := Aside0.mk (show backV b l = _ from if_pos hall)
      generalize l.getD 0 0 = x0 at k0 b0 HB
      generalize l.getD 1 0 = x1 at k1 b1 HB
      have e1 : IntKind.u64.wrap (x1 * 4294967296) = x1 * 4294967296 := u64_id (by omega) (by omega)
      have e2 : IntKind.u64.wrap (x0 + x1 * 4294967296) = x0 + x1 * 4294967296 := u64_id (by omega) (by omega)
      have E1 := Aside0.mk e1; have E2 := Aside0.mk e2
      have B0 := Aside0.mk b0; have B1 := Aside0.mk b1
      clear e1 e2 b0 b1 hall HZ
      cases b with
      | true =>
        by_cases hg : x0 + x1 * 4294967296 > 9223372036854775808
        · have c5 : decide (9223372036854775808 < IntKind.u64.wrap (x0 + IntKind.u64.wrap (x1 * 4294967296))) = true := by rw [E1.out, E2.out]; exact decide_eq_true hg
          have hfin : backV true l = (0, 3) := by rw [HB.out, if_pos rfl, if_pos hg]
          have HF := Aside0.mk hfin; clear hfin hg
          go_wp2
          go_ret2
          exact ⟨by rw [HF.out]; rfl, K4.out⟩
        · have c5 : decide (9223372036854775808 < IntKind.u64.wrap (x0 + IntKind.u64.wrap (x1 * 4294967296))) = false := by rw [E1.out, E2.out]; exact decide_eq_false hg
          have hfin : backV true l = (-(x0 + x1 * 4294967296), 0) := by rw [HB.out, if_pos rfl, if_neg hg]
          have HF := Aside0.mk hfin; clear hfin
          have HG := Aside0.mk hg; clear hg
          go_wp2
          go_ret2
          refine ⟨?_, K4.out⟩
          have g := HG.out; have b0 := B0.out; have b1 := B1.out
          have e3 : wrap64 (IntKind.u64.wrap (-IntKind.u64.wrap (x0 + IntKind.u64.wrap (x1 * 4294967296)))) = -(x0 + x1 * 4294967296) := by rw [E1.out, E2.out]; exact back_neg (by omega) (by omega)
          change Ending.returned (.tuple #[.int .i64 (wrap64 (IntKind.u64.wrap (-IntKind.u64.wrap (x0 + IntKind.u64.wrap (x1 * 4294967296))))), .int .i64 0]) = _
          rw [HF.out, e3]
      | false =>
        by_cases hg : x0 + x1 * 4294967296 > 9223372036854775807
        · have c5 : decide (9223372036854775807 < IntKind.u64.wrap (x0 + IntKind.u64.wrap (x1 * 4294967296))) = true := by rw [E1.out, E2.out]; exact decide_eq_true hg
          have hfin : backV false l = (0, 3) := by rw [HB.out, if_neg (by decide), if_pos hg]
          have HF := Aside0.mk hfin; clear hfin hg
          go_wp2
          go_ret2
          exact ⟨by rw [HF.out]; rfl, K4.out⟩
        · have c5 : decide (9223372036854775807 < IntKind.u64.wrap (x0 + IntKind.u64.wrap (x1 * 4294967296))) = false := by rw [E1.out, E2.out]; exact decide_eq_false hg
          have hfin : backV false l = (x0 + x1 * 4294967296, 0) := by rw [HB.out, if_neg (by decide), if_neg hg]
          have HF := Aside0.mk hfin; clear hfin
          have HG := Aside0.mk hg; clear hg
          go_wp2
          go_ret2
          refine ⟨?_, K4.out⟩
          have g := HG.out; have b0 := B0.out; have b1 := B1.out
          have e3 : wrap64 (IntKind.u64.wrap (x0 + IntKind.u64.wrap (x1 * 4294967296))) = x0 + x1 * 4294967296 := by rw [E1.out, E2.out]; exact back_pos (by omega) (by omega)
          change Ending.returned (.tuple #[.int .i64 (wrap64 (IntKind.u64.wrap (x0 + IntKind.u64.wrap (x1 * 4294967296)))), .int .i64 0]) = _
          rw [HF.out, e3]
end Go.Proofs.YtgodmbcebpbdiaaDoor.R2
end

/- A number made a number of words, walked. -/
section
set_option linter.unusedVariables false
set_option linter.unusedSimpArgs false
namespace Go.Proofs.YtgodmbcebpbdiaaDoor.R2
open Go.RowKit Go.Proofs.YtgodmbcebpbdiaaDoorW.PrintWords

def ofL (u : Int) : List Int := [u % 4294967296, u / 4294967296, 0, 0, 0, 0, 0, 0, 0, 0, 0, 0]
theorem of_num {u : Int} (h0 : 0 ≤ u) (h1 : u < 18446744073709551616) : Num (ofL u) ∧ val (ofL u) = u := by
  refine ⟨⟨rfl, ?_⟩, ?_⟩
  · intro x hx
    simp only [ofL, List.mem_cons, List.not_mem_nil, or_false] at hx
    omega
  · simp only [ofL, val]; omega
def below (n : Int) : Bool := decide (n < 0)
def size (n : Int) : Int := if n < 0 then -n else n
theorem cells12 (b : Bool) (x0 x1 x2 x3 x4 x5 x6 x7 x8 x9 x10 x11 : Int) : cellsI b [x0, x1, x2, x3, x4, x5, x6, x7, x8, x9, x10, x11] = #[Value.bool b, .int .u64 x0, .int .u64 x1, .int .u64 x2, .int .u64 x3, .int .u64 x4, .int .u64 x5, .int .u64 x6, .int .u64 x7, .int .u64 x8, .int .u64 x9, .int .u64 x10, .int .u64 x11] := rfl
end Go.Proofs.YtgodmbcebpbdiaaDoor.R2
end
