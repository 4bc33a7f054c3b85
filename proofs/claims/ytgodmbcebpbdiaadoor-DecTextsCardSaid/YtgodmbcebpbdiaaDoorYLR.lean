/- The document's reading of a numeral as a function of its bytes, with what a call comes to. -/
import Derived.Test.YtgodmbcebpbdiaaDoorYLQ
import Derived.Test.YtgodmbcebpbdiaaDoorYPDA
set_option linter.unusedVariables false
set_option linter.unusedSimpArgs false
namespace Go.Proofs.YtgodmbcebpbdiaaDoor.R2
open Go.RowKit Go.Proofs.YtgodmbcebpbdiaaDoorW.PrintWords
open Go.Proofs.YtgodmbcebpbdiaaDoor.PD (drop_cons isD isD_iff isB isB_iff endL signL tailL)

/-- How far a run of bytes goes, from a place on. -/
theorem run_of (s : ByteArray) (p : Int → Bool) : ∀ (d i : Nat), i + d = s.size → i + (((bytesOf s).drop i).takeWhile p).length ≤ s.size ∧
    (∀ j, i ≤ j → j < i + (((bytesOf s).drop i).takeWhile p).length → p (bt s j) = true) ∧ (i + (((bytesOf s).drop i).takeWhile p).length < s.size → p (bt s (i + (((bytesOf s).drop i).takeWhile p).length : Nat)) = false) ∧
    ((bytesOf s).drop i).dropWhile p = (bytesOf s).drop (i + (((bytesOf s).drop i).takeWhile p).length)
  | 0, i, h => by
    have hn : (bytesOf s).drop i = [] := List.drop_eq_nil_of_le (by rw [bytesOf_length]; omega)
    rw [hn]
    refine ⟨by simp; omega, fun j h1 h2 => by simp at h2; omega, fun h2 => by simp at h2; omega, ?_⟩
    rw [List.takeWhile_nil, List.length_nil, Nat.add_zero, hn]; rfl
  | d + 1, i, h => by
    obtain ⟨h1, h2, h3, h4⟩ := run_of s p d (i + 1) (by omega)
    rw [drop_cons s i (by omega), List.takeWhile_cons, List.dropWhile_cons]
    by_cases hp : p (bt s i) = true
    · rw [if_pos hp, if_pos hp, List.length_cons, show i + ((((bytesOf s).drop (i + 1)).takeWhile p).length + 1) = i + 1 + (((bytesOf s).drop (i + 1)).takeWhile p).length by omega]
      refine ⟨h1, fun j a b => ?_, h3, h4⟩
      by_cases hj : j = i
      · rw [hj]; exact hp
      · exact h2 j (by omega) b
    · rw [if_neg hp, if_neg hp]
      refine ⟨by simp; omega, fun j a b => by simp at b; omega, fun _ => by simpa using hp, ?_⟩
      rw [List.length_nil, Nat.add_zero]; exact (drop_cons s i (by omega)).symm
def posA (s : ByteArray) : Nat := ((bytesOf s).takeWhile isB).length
def posB (s : ByteArray) : Nat := posA s + signL ((bytesOf s).dropWhile isB)
def posC (s : ByteArray) : Nat := posB s + ((tailL ((bytesOf s).dropWhile isB)).takeWhile isD).length
def posE (s : ByteArray) : Nat := posC s + endL ((tailL ((bytesOf s).dropWhile isB)).dropWhile isD)
def posD (s : ByteArray) : Nat := if posC s = posB s ∧ posE s ≤ posC s + 1 then posC s else posE s
def sgnB (s : ByteArray) : Bool := decide (((bytesOf s).dropWhile isB).head? = some 45)
theorem head_drop (s : ByteArray) (i : Nat) : ((bytesOf s).drop i).head? = if i < s.size then some (bt s i) else none := by
  by_cases h : i < s.size
  · rw [if_pos h, drop_cons s i h]; rfl
  · rw [if_neg h, List.drop_eq_nil_of_le (by rw [bytesOf_length]; omega)]; rfl
theorem isB_no {c : Int} (h : isB c = false) : c ≠ 32 ∧ c ≠ 9 := by
  have h2 : ¬ (c = 32 ∨ c = 9) := fun hh => by rw [(isB_iff c).2 hh] at h; cases h
  omega
set_option maxRecDepth 100000 in
theorem stands (s : ByteArray) (hs : s.size ≤ 281474976710656) : Stands s (posA s) (posB s) (posC s) (posD s) (sgnB s) := by
  obtain ⟨a1, a2, a3, a4⟩ := run_of s isB s.size 0 (by omega)
  rw [List.drop_zero, Nat.zero_add] at a1 a3 a4
  simp only [List.drop_zero, Nat.zero_add] at a2
  have ea : posA s = ((bytesOf s).takeWhile isB).length := rfl
  rw [← ea] at a1 a2 a3 a4
  have hb : posB s = posA s + signL ((bytesOf s).drop (posA s)) := by unfold posB; rw [a4]
  have hsg : sgnB s = decide (((bytesOf s).drop (posA s)).head? = some 45) := by unfold sgnB; rw [a4]
  have htl : tailL ((bytesOf s).dropWhile isB) = (bytesOf s).drop (posB s) := by
    rw [hb, a4]; unfold tailL; rw [List.drop_drop]
  have hsL : signL ((bytesOf s).drop (posA s)) = if posA s < s.size ∧ (bt s (posA s) = 45 ∨ bt s (posA s) = 43) then 1 else 0 := by
    unfold signL
    rw [head_drop]
    by_cases h : posA s < s.size
    · rw [if_pos h]
      simp [h]
    · rw [if_neg h]
      simp [h]
  have hbz : posB s ≤ s.size := by
    rw [hb, hsL]
    by_cases h : posA s < s.size ∧ (bt s (posA s) = 45 ∨ bt s (posA s) = 43)
    · rw [if_pos h]; omega
    · rw [if_neg h]; omega
  obtain ⟨c1, c2, c3, c4⟩ := run_of s isD (s.size - posB s) (posB s) (by omega)
  have hc : posC s = posB s + (((bytesOf s).drop (posB s)).takeWhile isD).length := by unfold posC; rw [htl]
  rw [← hc] at c1 c2 c3 c4
  have he : posE s = posC s + endL ((bytesOf s).drop (posC s)) := by unfold posE; rw [htl, c4]
  refine ⟨hs, a1, fun i hi => (isB_iff _).1 (a2 i (Nat.zero_le _) hi), fun h => isB_no (a3 h), ?_, by omega, c1, fun i h1 h2 => c2 i h1 h2, fun h => c3 h, ?_⟩
  · rw [hsg, hb, hsL, head_drop]
    by_cases h : posA s < s.size
    · by_cases h45 : bt s (posA s) = 45
      · left
        rw [if_pos h, if_pos ⟨h, Or.inl h45⟩, h45]
        exact ⟨h, rfl, rfl, rfl⟩
      · by_cases h43 : bt s (posA s) = 43
        · right; left
          rw [if_pos h, if_pos ⟨h, Or.inr h43⟩, h43]
          exact ⟨h, rfl, rfl, rfl⟩
        · right; right
          rw [if_pos h, if_neg (by omega)]
          refine ⟨fun _ => ⟨h45, h43⟩, decide_eq_false (fun hh => h45 (Option.some.inj hh)), rfl⟩
    · right; right
      rw [if_neg h, if_neg (by omega)]
      exact ⟨fun hh => absurd hh h, rfl, rfl⟩
  · unfold endL at he
    rw [head_drop] at he
    by_cases h : posC s < s.size
    · rw [if_pos h] at he
      by_cases h46 : bt s (posC s) = 46
      · rw [h46, if_pos rfl, List.drop_drop] at he
        obtain ⟨e1, e2, e3, e4⟩ := run_of s isD (s.size - (posC s + 1)) (posC s + 1) (by omega)
        have he2 : posC s + 1 + (((bytesOf s).drop (posC s + 1)).takeWhile isD).length = posE s := by rw [he]; omega
        rw [he2] at e1 e2 e3
        by_cases hn : posC s = posB s ∧ posE s ≤ posC s + 1
        · right
          have hd : posD s = posC s := if_pos hn
          have hE : posE s = posC s + 1 := by omega
          rw [hE] at e3
          exact ⟨fun _ => Or.inr ⟨hn.1.symm, e3⟩, hd⟩
        · left
          have hd : posD s = posE s := if_neg hn
          rw [hd]
          exact ⟨h, h46, by omega, by omega, e1, e2, e3⟩
      · rw [if_neg (fun hh => h46 (Option.some.inj hh))] at he
        right
        refine ⟨fun _ => Or.inl h46, ?_⟩
        unfold posD
        split <;> omega
    · rw [if_neg h, if_neg (by simp)] at he
      right
      refine ⟨fun hh => absurd hh h, ?_⟩
      unfold posD
      split <;> omega
def dragomanref02_Read.f (s : ByteArray) : Option (Int × Int × Int) := if s.size ≤ 281474976710656 then some (rdV s (posB s) (posC s) (posD s) (sgnB s)) else none
theorem dragomanref02_Read.calls (s : ByteArray) (r1 r2 r3 : Int) (w : World) (h : dragomanref02_Read.f s = some (r1, r2, r3)) :
    Calls Tryd.prog 14 #[.string s] w fun x w' => x = .returned (.tuple #[.int .i64 r1, .int .i64 r2, .int .i64 r3]) ∧ Below w.heap.size w w' := by
  unfold dragomanref02_Read.f at h
  by_cases hs : s.size ≤ 281474976710656
  · rw [if_pos hs] at h
    have hp := read_calls s _ _ _ _ _ w (stands s hs)
    rw [Option.some.inj h] at hp
    exact hp
  · rw [if_neg hs] at h; cases h
end Go.Proofs.YtgodmbcebpbdiaaDoor.R2
