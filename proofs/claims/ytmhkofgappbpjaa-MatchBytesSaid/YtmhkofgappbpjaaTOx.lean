/- Texts of this seat, put together: each part tells above it what it proves and on what conditions. -/
import Derived.Test.YtmhkofgappbpjaaTQAx
import Derived.OpenShut
import Derived.Deep.Slices
import Derived.ChangeOld
import Derived.Carry
/- A row of nodes that comes in, opened. -/
section
set_option linter.unusedVariables false
set_option linter.unusedSimpArgs false
namespace Go.Proofs.Ytmhkofgappbpjaa.G
open Go.RowKit Go.ChangeShapes Go.WideShapes Go.Deep Go.Proofs.YtmhkofgappbpjaaW.PrintWords Go.Proofs.YtmhkofgappbpjaaW.PrintLast Go.Proofs.YtmhkofgappbpjaaW.PrintMore Go.Proofs.Ytmhkofgappbpjaa.QA
/-- A class's numbers are of their kind. -/
def Ok39 (x : S39) : Prop := (Lit.int .u64 x.f0).wf = true ∧ (Lit.int .u64 x.f1).wf = true ∧ (Lit.int .u64 x.f2).wf = true ∧ (Lit.int .u64 x.f3).wf = true
def Ok42 (x : S42) : Prop := (Lit.int .i64 x.f0).wf = true ∧ Ok39 x.f1 ∧ (Lit.int .i64 x.f2.f0).wf = true ∧ (Lit.int .i64 x.f2.f1).wf = true
theorem cells37 : Try.prog.cellsOf 37 = 1 := by kernel_rfl
theorem cells39 : Try.prog.cellsOf 39 = 4 := by kernel_rfl
section
variable {H : Type} {enc : TypeId × Value → H} {w : World} {base : Nat} {spare : Nat → Bool} {held : Bool} {fuel : Nat}
theorem some_of_lt {α : Type} {xs : List α} {i n : Nat} (h : xs.length = n) (hi : i < n) : ∃ y, xs[i]? = some y := ⟨_, List.getElem?_eq_getElem (by omega)⟩
theorem decode39 {c1 c2 c3 c4 : Value} {y : DataW H × List MemPlace} (h : DataW.trod enc Try.prog w base spare held fuel 39 [c1, c2, c3, c4] = some y) :
    ∃ a b c d : Int, c1 = .int .u64 a ∧ c2 = .int .u64 b ∧ c3 = .int .u64 c ∧ c4 = .int .u64 d ∧ Ok39 ⟨a, b, c, d⟩ := by
  obtain ⟨xs, m, _, _, _, hl, hf⟩ := DataW.trod_array Try.underlying39 h
  rw [cells37] at hf
  obtain ⟨y0, e0⟩ := some_of_lt hl (show 0 < 4 by decide)
  obtain ⟨y1, e1⟩ := some_of_lt hl (show 1 < 4 by decide)
  obtain ⟨y2, e2⟩ := some_of_lt hl (show 2 < 4 by decide)
  obtain ⟨y3, e3⟩ := some_of_lt hl (show 3 < 4 by decide)
  have h0 := (hf 0 (by decide)).trans e0
  have h1 := (hf 1 (by decide)).trans e1
  have h2 := (hf 2 (by decide)).trans e2
  have h3 := (hf 3 (by decide)).trans e3
  obtain ⟨a, ha, _, wa⟩ := DataW.trod_int Try.underlying37 h0
  obtain ⟨b, hb, _, wb⟩ := DataW.trod_int Try.underlying37 h1
  obtain ⟨c, hc, _, wc⟩ := DataW.trod_int Try.underlying37 h2
  obtain ⟨d, hd, _, wd⟩ := DataW.trod_int Try.underlying37 h3
  simp at ha hb hc hd
  exact ⟨a, b, c, d, ha, hb, hc, hd, wa, wb, wc, wd⟩
end
end Go.Proofs.Ytmhkofgappbpjaa.G
end

/- An argument that is a class (four numbers), opened. Conditions: none but those in each theorem. -/
section
set_option linter.unusedVariables false
set_option linter.unusedSimpArgs false
namespace Go.Proofs.Ytmhkofgappbpjaa.G
open Go.RowKit Go.ChangeShapes Go.WideShapes Go.Deep Go.Proofs.YtmhkofgappbpjaaW.PrintWords Go.Proofs.YtmhkofgappbpjaaW.PrintLast Go.Proofs.YtmhkofgappbpjaaW.PrintMore Go.Proofs.Ytmhkofgappbpjaa.QA
theorem okWide_arr {P : Program} {w : World} {r : Reach} {base : Nat} {t e : TypeId} {n : Nat} {v : Value} (ht : P.underlying t = some (.array n e)) (h : Value.okWide P w r base t v) : ∃ cs, v = .agg cs ∧ cs.size = P.cellsOf t := by
  simp only [Value.okWide, ht] at h
  obtain ⟨cs, h1, h2, _⟩ := h
  exact ⟨cs, h1, h2⟩
theorem open_T39 {H : Type} {enc : TypeId × Value → H} {w : World} {base : Nat} {held : Bool} {r : Reach} {b0 : Nat} {v : Value} {d : DataW H} {p : List MemPlace} (hv : Value.okWide Try.prog w r b0 39 v) (h : DataW.Trod enc Try.prog w base (fun _ => true) held 39 v d p) :
    ∃ y : S39, v = .agg #[.int .u64 y.f0, .int .u64 y.f1, .int .u64 y.f2, .int .u64 y.f3] ∧ Ok39 y := by
  obtain ⟨cs, rfl, hcs⟩ := okWide_arr Try.underlying39 hv
  rw [cells39] at hcs
  obtain ⟨fuel, hf⟩ := h
  obtain ⟨c0, c1, c2, c3, rfl⟩ : ∃ c0 c1 c2 c3, cs = #[c0, c1, c2, c3] := by
    match cs, hcs with
    | ⟨[c0, c1, c2, c3]⟩, _ => exact ⟨c0, c1, c2, c3, rfl⟩
  replace hf : DataW.trod enc Try.prog w base (fun _ => true) held fuel 39 [c0, c1, c2, c3] = some (d, p) := hf
  obtain ⟨a, b, c, d, rfl, rfl, rfl, rfl, hok⟩ := decode39 hf
  exact ⟨⟨a, b, c, d⟩, rfl, hok⟩
end Go.Proofs.Ytmhkofgappbpjaa.G
end
