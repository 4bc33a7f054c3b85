/- A row of nodes that comes in, opened. -/
import Derived.Test.YthnfmpieoondaaaVQAx
import Derived.OpenShut
import Derived.Deep.Slices
import Derived.ChangeOld
import Derived.Carry
set_option linter.unusedVariables false
set_option linter.unusedSimpArgs false
namespace Go.Proofs.Ythnfmpieoondaaa.G
open Go.RowKit Go.ChangeShapes Go.WideShapes Go.Deep Go.Proofs.YthnfmpieoondaaaW.PrintWords Go.Proofs.YthnfmpieoondaaaW.PrintLast Go.Proofs.YthnfmpieoondaaaW.PrintMore Go.Proofs.Ythnfmpieoondaaa.QA
/-- A class's numbers are of their kind. -/
def Ok53 (x : S53) : Prop := (Lit.int .u64 x.f0).wf = true ∧ (Lit.int .u64 x.f1).wf = true ∧ (Lit.int .u64 x.f2).wf = true ∧ (Lit.int .u64 x.f3).wf = true
def Ok55 (x : S55) : Prop := (Lit.int .i64 x.f0).wf = true ∧ Ok53 x.f1 ∧ (Lit.int .i64 x.f2.f0).wf = true ∧ (Lit.int .i64 x.f2.f1).wf = true
theorem cells3 : Try.prog.cellsOf 3 = 1 := by kernel_rfl
theorem cells37 : Try.prog.cellsOf 51 = 1 := by kernel_rfl
theorem cells39 : Try.prog.cellsOf 53 = 4 := by kernel_rfl
theorem cells40 : Try.prog.cellsOf 28 = 2 := by kernel_rfl
theorem cells42 : Try.prog.cellsOf 55 = 7 := by kernel_rfl
section
variable {H : Type} {enc : TypeId × Value → H} {w : World} {base : Nat} {spare : Nat → Bool} {held : Bool} {fuel : Nat}
theorem some_of_lt {α : Type} {xs : List α} {i n : Nat} (h : xs.length = n) (hi : i < n) : ∃ y, xs[i]? = some y := ⟨_, List.getElem?_eq_getElem (by omega)⟩
theorem decode53 {c1 c2 c3 c4 : Value} {y : DataW H × List MemPlace} (h : DataW.trod enc Try.prog w base spare held fuel 53 [c1, c2, c3, c4] = some y) :
    ∃ a b c d : Int, c1 = .int .u64 a ∧ c2 = .int .u64 b ∧ c3 = .int .u64 c ∧ c4 = .int .u64 d ∧ Ok53 ⟨a, b, c, d⟩ := by
  obtain ⟨xs, m, _, _, _, hl, hf⟩ := DataW.trod_array Try.underlying53 h
  rw [cells37] at hf
  obtain ⟨y0, e0⟩ := some_of_lt hl (show 0 < 4 by decide)
  obtain ⟨y1, e1⟩ := some_of_lt hl (show 1 < 4 by decide)
  obtain ⟨y2, e2⟩ := some_of_lt hl (show 2 < 4 by decide)
  obtain ⟨y3, e3⟩ := some_of_lt hl (show 3 < 4 by decide)
  have h0 := (hf 0 (by decide)).trans e0
  have h1 := (hf 1 (by decide)).trans e1
  have h2 := (hf 2 (by decide)).trans e2
  have h3 := (hf 3 (by decide)).trans e3
  obtain ⟨a, ha, _, wa⟩ := DataW.trod_int Try.underlying51 h0
  obtain ⟨b, hb, _, wb⟩ := DataW.trod_int Try.underlying51 h1
  obtain ⟨c, hc, _, wc⟩ := DataW.trod_int Try.underlying51 h2
  obtain ⟨d, hd, _, wd⟩ := DataW.trod_int Try.underlying51 h3
  simp at ha hb hc hd
  exact ⟨a, b, c, d, ha, hb, hc, hd, wa, wb, wc, wd⟩
theorem decode28 {c1 c2 : Value} {y : DataW H × List MemPlace} (h : DataW.trod enc Try.prog w base spare held fuel 28 [c1, c2] = some y) :
    ∃ a b : Int, c1 = .int .i64 a ∧ c2 = .int .i64 b ∧ (Lit.int .i64 a).wf = true ∧ (Lit.int .i64 b).wf = true := by
  obtain ⟨xs, m, _, _, _, hl, hf⟩ := DataW.trod_array Try.underlying28 h
  rw [cells3] at hf
  obtain ⟨y0, e0⟩ := some_of_lt hl (show 0 < 2 by decide)
  obtain ⟨y1, e1⟩ := some_of_lt hl (show 1 < 2 by decide)
  have h0 := (hf 0 (by decide)).trans e0
  have h1 := (hf 1 (by decide)).trans e1
  obtain ⟨a, ha, _, wa⟩ := DataW.trod_int Try.underlying3 h0
  obtain ⟨b, hb, _, wb⟩ := DataW.trod_int Try.underlying3 h1
  simp at ha hb
  exact ⟨a, b, ha, hb, wa, wb⟩
theorem decode55 {cs : List Value} {y : DataW H × List MemPlace} (h : DataW.trod enc Try.prog w base spare held fuel 55 cs = some y) (hl : cs.length = 7) :
    ∃ x : S55, cs = [.int .i64 x.f0, .int .u64 x.f1.f0, .int .u64 x.f1.f1, .int .u64 x.f1.f2, .int .u64 x.f1.f3, .int .i64 x.f2.f0, .int .i64 x.f2.f1] ∧ Ok55 x := by
  match cs, hl with
  | [c0, c1, c2, c3, c4, c5, c6], _ =>
    obtain ⟨xs, m, _, _, _, hl, hf⟩ := DataW.trod_struct Try.underlying55 h
    obtain ⟨y0, e0⟩ := some_of_lt hl (show 0 < 3 by decide)
    obtain ⟨y1, e1⟩ := some_of_lt hl (show 1 < 3 by decide)
    obtain ⟨y2, e2⟩ := some_of_lt hl (show 2 < 3 by decide)
    have h0 : DataW.trod enc Try.prog w base spare held m 3 (([c0, c1, c2, c3, c4, c5, c6].drop 0).take (Try.prog.cellsOf 3)) = some y0 := (hf 0 _ rfl).trans e0
    have h1 : DataW.trod enc Try.prog w base spare held m 53 (([c0, c1, c2, c3, c4, c5, c6].drop 1).take (Try.prog.cellsOf 53)) = some y1 := (hf 1 _ rfl).trans e1
    have h2 : DataW.trod enc Try.prog w base spare held m 28 (([c0, c1, c2, c3, c4, c5, c6].drop 5).take (Try.prog.cellsOf 28)) = some y2 := (hf 2 _ rfl).trans e2
    rw [cells3] at h0
    rw [cells39] at h1
    rw [cells40] at h2
    obtain ⟨k, hk, _, wk⟩ := DataW.trod_int Try.underlying3 h0
    obtain ⟨a, b, c, d, ha, hb, hc, hd, hw⟩ := decode53 h1
    obtain ⟨p, q, hp, hq, w1, w2⟩ := decode28 h2
    simp at hk
    exact ⟨⟨k, ⟨a, b, c, d⟩, ⟨p, q⟩⟩, by rw [hk, ha, hb, hc, hd, hp, hq], wk, hw, w1, w2⟩
theorem choose_list {α : Type} (n : Nat) (p : Nat → α → Prop) (h : ∀ i, i < n → ∃ x, p i x) : ∃ l : List α, l.length = n ∧ ∀ i x, l[i]? = some x → p i x := by
  induction n with
  | zero => exact ⟨[], rfl, fun i x hx => by simp at hx⟩
  | succ n ih =>
    obtain ⟨l, hl, hp⟩ := ih (fun i hi => h i (by omega))
    obtain ⟨x, hx⟩ := h n (by omega)
    refine ⟨l ++ [x], by simp [hl], fun i y hy => ?_⟩
    by_cases hi : i < n
    · rw [List.getElem?_append_left (by omega)] at hy
      exact hp i y hy
    · have hlt : i < (l ++ [x]).length := (List.getElem?_eq_some_iff.1 hy).1
      simp at hlt
      have : i = n := by omega
      subst this
      rw [List.getElem?_append_right (by omega)] at hy
      simp [hl] at hy
      subst hy
      exact hx
set_option maxRecDepth 100000 in
theorem open_T55 {r : Reach} {b0 : Nat} {v : Value} {d : DataW H} {p : List MemPlace} (hv : Value.okWide Try.prog w r b0 22 v) (h : DataW.Trod enc Try.prog w base (fun _ => true) held 22 v d p) :
    ∃ (A : Option Addr) (cap : Nat) (l0 : List S55), v = .slice A l0.length cap ∧ l0.length ≤ cap ∧ Kd.C k55 w A l0.length l0 ∧ ∀ x, x ∈ l0 → Ok55 x := by
  obtain ⟨A, len, cap, rfl⟩ := okWide_slice Try.underlying22 hv
  obtain ⟨fuel, hf⟩ := h
  rcases open_slice Try.underlying22 hf with ⟨hcs, _⟩ | ⟨a, l, c, m, n, D, Pl, hcs, _, hl, hm, hmm, _, hel⟩
  · simp [Value.cells] at hcs
    obtain ⟨rfl, rfl, rfl⟩ := hcs
    exact ⟨none, 0, [], rfl, Nat.le_refl _, ⟨rfl, by decide, fun h => by cases h⟩, fun x hx => by cases hx⟩
  · simp [Value.cells] at hcs
    obtain ⟨rfl, rfl, rfl⟩ := hcs
    simp only [if_true] at hmm
    subst hmm
    rw [cells42] at hel
    obtain ⟨l0, hl0, hp⟩ := choose_list len (fun i (x : S55) => Ok55 x ∧ ∀ j u, [Value.int .i64 x.f0, .int .u64 x.f1.f0, .int .u64 x.f1.f1, .int .u64 x.f1.f2, .int .u64 x.f1.f3, .int .i64 x.f2.f0, .int .i64 x.f2.f1][j]? = some u → w.cell? (a.add (i * 7 + j)) = some u) (fun i hi => by
      obtain ⟨cs', h1, h2⟩ := hel i (by omega)
      obtain ⟨_, hcl, hat⟩ := World.cells?_some h1
      obtain ⟨x, rfl, hok⟩ := decode55 h2 hcl
      refine ⟨x, hok, fun j u hj => ?_⟩
      have hjl : j < 7 := by have := (List.getElem?_eq_some_iff.1 hj).1; simpa using this
      rw [← Go.Deep.add_add, hat j hjl, hj])
    refine ⟨some a, _, l0, by rw [hl0], by omega, ⟨rfl, by unfold maxLen at hm; omega, fun _ => ⟨a, rfl, fun j x hx => ⟨_, rfl, k55_mk _ x, (hp j x hx).2⟩⟩⟩, fun x hx => ?_⟩
    obtain ⟨i, hi⟩ := List.mem_iff_getElem?.1 hx
    exact (hp i x hi).1
end
end Go.Proofs.Ythnfmpieoondaaa.G
