/- Texts of this seat, put together: each part tells above it what it proves and on what conditions. -/
import Derived.Test.YthnfmpieoondaaaZPB
import Derived.Test.YthnfmpieoondaaaZQCx
/- Ends, Span and Whole, in plain words. -/
section
set_option linter.unusedVariables false
set_option linter.unusedSimpArgs false
namespace Go.Proofs.Ythnfmpieoondaaa.P
open Go.RowKit Go.Proofs.YthnfmpieoondaaaW.PrintWords Go.Proofs.Ythnfmpieoondaaa.QA Go.Proofs.Ythnfmpieoondaaa.QB Go.Proofs.Ythnfmpieoondaaa.QC Go.Proofs.Ythnfmpieoondaaa.G Go.Proofs.Ythnfmpieoondaaa.Mt
section
variable {l : List S55} {s : ByteArray}
theorem Rt.size {l : List S55} {s : ByteArray} (h : Rt l s) : s.size ≤ 9999 ∧ l.length ≤ 10000 := by
  have hb := h.big
  have hl : l.length * 1 ≤ l.length * (s.size + 1) := Nat.mul_le_mul_left _ (by omega)
  have hs : 1 * (s.size + 1) ≤ l.length * (s.size + 1) := Nat.mul_le_mul_right _ h.pos
  omega
end
end Go.Proofs.Ythnfmpieoondaaa.P
end

/- The functions of Subst, in plain words: what is put in, what is replaced. -/
section
set_option linter.unusedVariables false
set_option linter.unusedSimpArgs false
namespace Go.Proofs.Ythnfmpieoondaaa.P
open Go.RowKit Go.Proofs.YthnfmpieoondaaaW.PrintWords Go.Proofs.Ythnfmpieoondaaa.QA Go.Proofs.Ythnfmpieoondaaa.QB Go.Proofs.Ythnfmpieoondaaa.QC Go.Proofs.Ythnfmpieoondaaa.G Go.Proofs.Ythnfmpieoondaaa.Mt
set_option maxRecDepth 100000 in
theorem shown_at : dragomanlaw07_shown.f 300 = some true := by decide +kernel
theorem shown_ok (k : Nat) (hk : 300 ≤ k) : dragomanlaw07_shown.f k = some true := at_rounds (fun k => dragomanlaw07_shown.mono k) hk shown_at
/-- How many bytes texts have. -/
def tot : List ByteArray → Nat
  | [] => 0
  | x :: xs => x.size + tot xs
/-! ### what is put in -/
theorem joinL_nil (w : ByteArray) : joinL [] w = [] := rfl
theorem joinL_one (x w : ByteArray) : joinL [x] w = x.data.toList := by simp [joinL, Lib.join_one]
theorem joinL_cons (x y : ByteArray) (l : List ByteArray) (w : ByteArray) : joinL (x :: y :: l) w = x.data.toList ++ w.data.toList ++ joinL (y :: l) w := by
  simp only [joinL, List.map_cons, Lib.join_cons, Lib.joinTail, List.flatten_cons, List.append_assoc]
theorem joinL_len : ∀ (l : List ByteArray) (w : ByteArray), (joinL l w).length = tot l + (l.length - 1) * w.size
  | [], w => by simp [joinL_nil, tot]
  | [x], w => by rw [joinL_one, data_length]; simp [tot]
  | x :: y :: l, w => by
    rw [joinL_cons, List.length_append, List.length_append, joinL_len (y :: l) w, data_length, data_length]
    simp only [tot, List.length_cons, Nat.add_sub_cancel, Nat.add_mul, Nat.one_mul]
    omega
def joinB (l : List ByteArray) (w : ByteArray) : ByteArray := ⟨(joinL l w).toArray⟩
theorem joinB_data (l : List ByteArray) (w : ByteArray) : (joinB l w).data.toList = joinL l w := by simp [joinB]
theorem joinB_size (l : List ByteArray) (w : ByteArray) : (joinB l w).size = (joinL l w).length := by rw [← joinB_data, data_length]
theorem Put_is (l : List ByteArray) (w : ByteArray) (h1 : l.length ≤ 140737488355328) (h2 : (joinL l w).length ≤ 140737488355328) : subst_Put.f l w = some (joinB l w) := by
  unfold subst_Put.f strings_Join.f
  rw [if_pos ⟨h1, h2⟩]
  rfl
end Go.Proofs.Ythnfmpieoondaaa.P
end

/- All and First, in plain words: the program's and the document's. -/
section
set_option linter.unusedVariables false
set_option linter.unusedSimpArgs false
set_option linter.unusedSectionVars false
namespace Go.Proofs.Ythnfmpieoondaaa.P
open Go.RowKit Go.Proofs.YthnfmpieoondaaaW.PrintWords Go.Proofs.Ythnfmpieoondaaa.QA Go.Proofs.Ythnfmpieoondaaa.QB Go.Proofs.Ythnfmpieoondaaa.QC Go.Proofs.Ythnfmpieoondaaa.G Go.Proofs.Ythnfmpieoondaaa.Mt
theorem wrap_up (i : Nat) (h : i ≤ 4611686018427387904) : wrap64 ((i : Int) + 1) = ((i + 1 : Nat) : Int) := by unfold wrap64; omega
theorem toList_data (a : ByteArray) : a.toList = a.data.toList := ByteArray.toList_eq a
/-! ### replaced -/
section
end
end Go.Proofs.Ythnfmpieoondaaa.P
end
