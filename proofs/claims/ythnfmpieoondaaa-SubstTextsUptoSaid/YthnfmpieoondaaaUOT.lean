/- An argument that is a []string, opened. Conditions: none but those in each theorem. -/
import Derived.Test.YthnfmpieoondaaaUOP
import Derived.Test.YthnfmpieoondaaaUPC
import Derived.Test.YthnfmpieoondaaaRows
set_option linter.unusedVariables false
set_option linter.unusedSimpArgs false
namespace Go.Proofs.Ythnfmpieoondaaa.G
open Go.RowKit Go.ChangeShapes Go.WideShapes Go.Deep Go.Proofs.YthnfmpieoondaaaW.PrintWords Go.Proofs.YthnfmpieoondaaaW.PrintLast Go.Proofs.YthnfmpieoondaaaW.PrintMore Go.Proofs.Ythnfmpieoondaaa.QA
theorem cells9 : Try.prog.cellsOf 9 = 1 := by kernel_rfl
theorem bulk_strs {H : Type} (l : List ByteArray) : Rows.uptoBulkAll (l.map fun s => (.lit (.string s.data.toList) : DataW H)) = l.length + P.tot l := by
  induction l with
  | nil => rfl
  | cons x l ih =>
    simp only [List.map_cons, Rows.uptoBulkAll, Rows.uptoBulk, ih, P.tot, List.length_cons, data_length]
    omega
set_option maxRecDepth 100000 in
theorem open_strs {H : Type} {enc : TypeId × Value → H} {w : World} {base : Nat} {held : Bool} {r : Reach} {b0 : Nat} {v : Value} {d : DataW H} {p : List MemPlace} (hv : Value.okWide Try.prog w r b0 25 v) (h : DataW.Trod enc Try.prog w base (fun _ => true) held 25 v d p) :
    ∃ (A : Option Addr) (cap : Nat) (l0 : List ByteArray), v = .slice A l0.length cap ∧ l0.length ≤ cap ∧ Kd.C Kd.string w A l0.length l0 ∧ l0.length + P.tot l0 + 1 ≤ Rows.uptoBulk d := by
  obtain ⟨A, len, cap, rfl⟩ := okWide_slice Try.underlying25 hv
  obtain ⟨fuel, hf⟩ := h
  rcases open_slice Try.underlying25 hf with ⟨hcs, hx⟩ | ⟨a, l, c, m, n, D, Pl, hcs, _, hl, hm, hmm, hx, hel⟩
  · simp [Value.cells] at hcs
    obtain ⟨rfl, rfl, rfl⟩ := hcs
    injection hx with hx1 hx2
    exact ⟨none, 0, [], rfl, Nat.le_refl _, ⟨rfl, by decide, fun h => by cases h⟩, by rw [hx1]; simp [Rows.uptoBulk, P.tot]⟩
  · simp [Value.cells] at hcs
    obtain ⟨rfl, rfl, rfl⟩ := hcs
    simp only [if_true] at hmm
    subst hmm
    rw [cells9] at hel
    obtain ⟨l0, hl0, hp⟩ := choose_list len (fun i (x : ByteArray) => w.cell? (a.add i) = some (.string x) ∧ D i = .lit (.string x.data.toList)) (fun i hi => by
      obtain ⟨cs', h1, h2⟩ := hel i (by omega)
      obtain ⟨_, hcl, hat⟩ := World.cells?_some h1
      obtain ⟨x, rfl, hx, _⟩ := DataW.trod_string Try.underlying9 h2
      refine ⟨x, ?_, (Prod.mk.inj hx).1⟩
      have := hat 0 (by omega)
      rw [Nat.mul_one] at this
      simpa [Addr.add] using this)
    refine ⟨some a, _, l0, by rw [hl0], by omega, ⟨rfl, by unfold maxLen at hm; omega, fun _ => ⟨a, rfl, fun j x hx => ⟨[.string x], rfl, rfl, fun i u hu => ?_⟩⟩⟩, ?_⟩
    · have hi : i = 0 := by have := (List.getElem?_eq_some_iff.1 hu).1; simpa using this
      subst hi
      simp at hu
      subst hu
      have := (hp j x hx).1
      simpa [Kd.string, Kd.scalar] using this
    · injection hx with hx1 hx2
      rw [hx1]
      have e : List.map D (List.range len) = l0.map fun s => (.lit (.string s.data.toList) : DataW H) := by
        apply List.ext_getElem?
        intro i
        by_cases hi : i < len
        · have hx0 : l0[i]? = some (l0[i]'(by omega)) := List.getElem?_eq_getElem (by omega)
          rw [List.getElem?_map, List.getElem?_map, List.getElem?_range hi, hx0]
          exact congrArg some (hp i _ hx0).2
        · rw [List.getElem?_eq_none (by simp; omega), List.getElem?_eq_none (by simp; omega)]
      simp only [Rows.uptoBulk]
      rw [e, bulk_strs]
      omega
end Go.Proofs.Ythnfmpieoondaaa.G
