/- An argument of two []api.Re, a string and a number, opened. Conditions: none but those in each theorem. -/
import Derived.Test.YtmhkofgappbpjaaVOP
set_option linter.unusedVariables false
set_option linter.unusedSimpArgs false
namespace Go.Proofs.Ytmhkofgappbpjaa.G
open Go.RowKit Go.ChangeShapes Go.WideShapes Go.Deep Go.Proofs.YtmhkofgappbpjaaW.PrintWords Go.Proofs.YtmhkofgappbpjaaW.PrintLast Go.Proofs.YtmhkofgappbpjaaW.PrintMore Go.Proofs.Ytmhkofgappbpjaa.QA
theorem cells22 : Try.prog.cellsOf 22 = 1 := by kernel_rfl
theorem cells9 : Try.prog.cellsOf 9 = 1 := by kernel_rfl
theorem cells29 : Try.prog.cellsOf 29 = 4 := by kernel_rfl
section
variable {H : Type} {enc : TypeId × Value → H} {w : World} {base : Nat} {held : Bool} {fuel : Nat}
theorem open_C22 {cs : List Value} {x : DataW H × List MemPlace} (hf : DataW.trod enc Try.prog w base (fun _ => true) held fuel 22 cs = some x) :
    ∃ (A : Option Addr) (cap : Nat) (l0 : List S42), cs = [.slice A l0.length cap] ∧ l0.length ≤ cap ∧ Kd.C k42 w A l0.length l0 ∧ ∀ x, x ∈ l0 → Ok42 x := by
  rcases open_slice Try.underlying22 hf with ⟨rfl, _⟩ | ⟨a, len, cap, m, n, D, Pl, rfl, _, hl, hm, hmm, _, hel⟩
  · exact ⟨none, 0, [], rfl, Nat.le_refl _, ⟨rfl, by decide, fun h => by cases h⟩, fun x hx => by cases hx⟩
  · simp only [if_true] at hmm
    subst hmm
    rw [cells42] at hel
    obtain ⟨l0, hl0, hp⟩ := choose_list len (fun i (x : S42) => Ok42 x ∧ ∀ j u, [Value.int .i64 x.f0, .int .u64 x.f1.f0, .int .u64 x.f1.f1, .int .u64 x.f1.f2, .int .u64 x.f1.f3, .int .i64 x.f2.f0, .int .i64 x.f2.f1][j]? = some u → w.cell? (a.add (i * 7 + j)) = some u) (fun i hi => by
      obtain ⟨cs', h1, h2⟩ := hel i (by omega)
      obtain ⟨_, hcl, hat⟩ := World.cells?_some h1
      obtain ⟨x, rfl, hok⟩ := decode42 h2 hcl
      refine ⟨x, hok, fun j u hj => ?_⟩
      have hjl : j < 7 := by have := (List.getElem?_eq_some_iff.1 hj).1; simpa using this
      rw [← Go.Deep.add_add, hat j hjl, hj])
    refine ⟨some a, _, l0, by rw [hl0], by omega, ⟨rfl, by unfold maxLen at hm; omega, fun _ => ⟨a, rfl, fun j x hx => ⟨_, rfl, k42_mk _ x, (hp j x hx).2⟩⟩⟩, fun x hx => ?_⟩
    obtain ⟨i, hi⟩ := List.mem_iff_getElem?.1 hx
    exact (hp i x hi).1
theorem open_T29 {r : Reach} {b0 : Nat} {v : Value} {d : DataW H} {p : List MemPlace} (hv : Value.okWide Try.prog w r b0 29 v) (h : DataW.Trod enc Try.prog w base (fun _ => true) held 29 v d p) :
    ∃ (A : Option Addr) (ca : Nat) (la : List S42) (B : Option Addr) (cb : Nat) (lb : List S42) (s : ByteArray) (i : Int), v = .agg #[.slice A la.length ca, .slice B lb.length cb, .string s, .int .i64 i] ∧
      la.length ≤ ca ∧ Kd.C k42 w A la.length la ∧ (∀ x, x ∈ la → Ok42 x) ∧ lb.length ≤ cb ∧ Kd.C k42 w B lb.length lb ∧ ∀ x, x ∈ lb → Ok42 x := by
  obtain ⟨cs, rfl, hcs⟩ := okWide_struct Try.underlying29 hv
  rw [cells29] at hcs
  obtain ⟨fuel, hf⟩ := h
  obtain ⟨c0, c1, c2, c3, rfl⟩ : ∃ c0 c1 c2 c3, cs = #[c0, c1, c2, c3] := by
    match cs, hcs with
    | ⟨[c0, c1, c2, c3]⟩, _ => exact ⟨c0, c1, c2, c3, rfl⟩
  replace hf : DataW.trod enc Try.prog w base (fun _ => true) held fuel 29 [c0, c1, c2, c3] = some (d, p) := hf
  obtain ⟨xs, m, _, _, _, hl, hf⟩ := DataW.trod_struct Try.underlying29 hf
  obtain ⟨y0, e0⟩ := some_of_lt hl (show 0 < 4 by decide)
  obtain ⟨y1, e1⟩ := some_of_lt hl (show 1 < 4 by decide)
  obtain ⟨y2, e2⟩ := some_of_lt hl (show 2 < 4 by decide)
  obtain ⟨y3, e3⟩ := some_of_lt hl (show 3 < 4 by decide)
  have h0 : DataW.trod enc Try.prog w base (fun _ => true) held m 22 (([c0, c1, c2, c3].drop 0).take (Try.prog.cellsOf 22)) = some y0 := (hf 0 _ rfl).trans e0
  have h1 : DataW.trod enc Try.prog w base (fun _ => true) held m 22 (([c0, c1, c2, c3].drop 1).take (Try.prog.cellsOf 22)) = some y1 := (hf 1 _ rfl).trans e1
  have h2 : DataW.trod enc Try.prog w base (fun _ => true) held m 9 (([c0, c1, c2, c3].drop 2).take (Try.prog.cellsOf 9)) = some y2 := (hf 2 _ rfl).trans e2
  have h3 : DataW.trod enc Try.prog w base (fun _ => true) held m 3 (([c0, c1, c2, c3].drop 3).take (Try.prog.cellsOf 3)) = some y3 := (hf 3 _ rfl).trans e3
  rw [cells22] at h0 h1
  rw [cells9] at h2
  rw [cells3] at h3
  obtain ⟨A, ca, la, ha, ha1, ha2, ha3⟩ := open_C22 h0
  obtain ⟨B, cb, lb, hb, hb1, hb2, hb3⟩ := open_C22 h1
  obtain ⟨s, hs, _, _⟩ := DataW.trod_string Try.underlying9 h2
  obtain ⟨i, hi, _, _⟩ := DataW.trod_int Try.underlying3 h3
  simp at ha hb hs hi
  subst ha hb hs hi
  exact ⟨A, ca, la, B, cb, lb, s, i, rfl, ha1, ha2, ha3, hb1, hb2, hb3⟩
end
end Go.Proofs.Ytmhkofgappbpjaa.G
