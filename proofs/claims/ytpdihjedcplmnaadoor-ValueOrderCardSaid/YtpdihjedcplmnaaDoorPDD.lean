/- The plain law of layer 2: what a numeral comes to. No Go and no memory stands here. -/
import Derived.Test.YtpdihjedcplmnaaDoorPDC
set_option linter.unusedVariables false
set_option linter.unusedSimpArgs false
namespace Go.Proofs.YtpdihjedcplmnaaDoor.PD
open Go.RowKit Go.Proofs.YtpdihjedcplmnaaDoorW.PrintWords Go.Proofs.YtpdihjedcplmnaaDoorW.PrintLast Go.Proofs.YtpdihjedcplmnaaDoor.G Go.Proofs.YtpdihjedcplmnaaDoor.Q1

theorem takeWhile_app {p : Int → Bool} : ∀ (a b : List Int), (∀ x ∈ a, p x = true) → (∀ c, b.head? = some c → p c = false) → (a ++ b).takeWhile p = a ∧ (a ++ b).dropWhile p = b
  | [], b, _, h => by
    cases b with
    | nil => exact ⟨rfl, rfl⟩
    | cons c r =>
      have := h c rfl
      rw [List.nil_append, List.takeWhile_cons, List.dropWhile_cons, this]; exact ⟨rfl, rfl⟩
  | x :: a, b, ha, h => by
    obtain ⟨h1, h2⟩ := takeWhile_app a b (fun y hy => ha y (List.mem_cons_of_mem _ hy)) h
    rw [List.cons_append, List.takeWhile_cons, List.dropWhile_cons, ha x (List.mem_cons_self ..), if_pos rfl, if_pos rfl, h1, h2]; exact ⟨rfl, rfl⟩
/-- A numeral's parts: blanks, a sign, figures, a point with figures (or nothing), what follows. -/
structure Parts (l B S D F M : List Int) : Prop where
  all : l = B ++ (S ++ (D ++ (F ++ M)))
  blanks : ∀ c ∈ B, isB c = true
  sign : S = [] ∨ S = [45] ∨ S = [43]
  figs : ∀ c ∈ D, isD c = true
  some_ : D ≠ []
  frac : (F = [] ∧ M.head? ≠ some 46) ∨ (F.head? = some 46 ∧ ∀ c ∈ F.drop 1, isD c = true)
  rest : ∀ c, M.head? = some c → isD c = false
theorem Parts.end_ {l B S D F M : List Int} (h : Parts l B S D F M) : endL (F ++ M) = F.length ∧ ∀ c, (F ++ M).head? = some c → isD c = false := by
  rcases h.frac with ⟨rfl, h2⟩ | ⟨h1, h2⟩
  · refine ⟨?_, h.rest⟩
    unfold endL
    rw [List.nil_append, if_neg h2]; rfl
  · cases F with
    | nil => cases h1
    | cons x E =>
      obtain rfl : x = 46 := by simpa using h1
      refine ⟨?_, ?_⟩
      · unfold endL
        rw [List.cons_append, List.head?_cons, if_pos rfl, List.drop_succ_cons, List.drop_zero, (takeWhile_app E M h2 h.rest).1, List.length_cons]; omega
      · intro c hc
        rw [List.cons_append, List.head?_cons] at hc
        obtain rfl := Option.some.inj hc; rfl
theorem isB_of_isD {c : Int} (h : isD c = true) : isB c = false := by
  have := (isD_iff c).1 h
  rw [Bool.eq_false_iff, ne_eq, isB_iff]; omega
theorem Parts.span {l B S D F M : List Int} (h : Parts l B S D F M) :
    spanFrom (l.takeWhile isB).length (l.dropWhile isB) = ((B.length : Int), ((B.length + S.length : Nat) : Int), ((B.length + S.length + D.length : Nat) : Int), ((B.length + S.length + D.length + F.length : Nat) : Int)) := by
  obtain ⟨d, D', hD⟩ : ∃ d D', D = d :: D' := by
    cases hD : D with
    | nil => exact absurd hD h.some_
    | cons d D' => exact ⟨d, D', rfl⟩
  have hd : isD d = true := h.figs d (by rw [hD]; exact List.mem_cons_self ..)
  have hd' := (isD_iff d).1 hd
  have hb : ∀ c, (S ++ (D ++ (F ++ M))).head? = some c → isB c = false := by
    intro c hc
    rcases h.sign with rfl | rfl | rfl
    · rw [hD] at hc
      obtain rfl := Option.some.inj hc
      exact isB_of_isD hd
    · obtain rfl := Option.some.inj hc; rfl
    · obtain rfl := Option.some.inj hc; rfl
  obtain ⟨t1, t2⟩ := takeWhile_app B _ h.blanks hb
  rw [h.all, t1, t2]
  have hs : signL (S ++ (D ++ (F ++ M))) = S.length := by
    unfold signL
    rcases h.sign with rfl | rfl | rfl
    · rw [hD]
      simp only [List.nil_append, List.cons_append, List.head?_cons, Option.some.injEq]
      rw [if_neg (by omega)]; rfl
    · rfl
    · rfl
  have ht : tailL (S ++ (D ++ (F ++ M))) = D ++ (F ++ M) := by
    unfold tailL; rw [hs, List.drop_left]
  unfold spanFrom
  rw [ht, hs]
  obtain ⟨t3, t4⟩ := takeWhile_app D _ h.figs h.end_.2
  rw [t3, t4, h.end_.1]
theorem six_bytes : bytesOf (⟨#[48, 48, 48, 48, 48, 48]⟩ : ByteArray) = List.replicate 6 48 := rfl
theorem nil_bytes : bytesOf (⟨#[]⟩ : ByteArray) = [] := rfl
theorem Parts.num {s : ByteArray} {B S D F M : List Int} (h : Parts (bytesOf s) B S D F M) (hs : s.size ≤ 281474976710656) :
    bytesOf (numT s ((B.length + S.length : Nat) : Int) ((B.length + S.length + D.length : Nat) : Int) ((B.length + S.length + D.length + F.length : Nat) : Int)) = D ++ (F.drop 1 ++ List.replicate 6 48).take 6 := by
  have hl : s.size = B.length + (S.length + (D.length + (F.length + M.length))) := by rw [size_of_bytes h.all]; simp
  have e1 : bytesOf (s.extract (B.length + S.length) (B.length + S.length + D.length)) = D := by
    rw [bytes_extract, h.all, ← List.append_assoc, ← List.append_assoc, ← List.append_assoc, List.append_assoc _ F M, show (B ++ S ++ D ++ (F ++ M)).take (B.length + S.length + D.length) = B ++ S ++ D from by rw [show B.length + S.length + D.length = (B ++ S ++ D).length by simp; omega, List.take_left]]
    rw [show B.length + S.length = (B ++ S).length by simp, List.drop_left]
  unfold numT
  rw [bytesOf_append, Int.toNat_natCast, Int.toNat_natCast, e1]
  congr 1
  by_cases hF : F.length = 0
  · have hF' : F = [] := List.eq_nil_of_length_eq_zero hF
    rw [if_neg (by omega), bytes_extract, bytesOf_append, six_bytes, nil_bytes, hF']; rfl
  · rw [if_pos (by omega), bytes_extract, bytesOf_append, six_bytes]
    rw [show (((B.length + S.length + D.length : Nat) : Int) + 1).toNat = B.length + S.length + D.length + 1 by omega]
    rw [bytes_extract, Int.toNat_natCast, h.all, show (B ++ (S ++ (D ++ (F ++ M)))).take (B.length + S.length + D.length + F.length) = B ++ S ++ D ++ F from by rw [show B ++ (S ++ (D ++ (F ++ M))) = (B ++ S ++ D ++ F) ++ M by simp, show B.length + S.length + D.length + F.length = (B ++ S ++ D ++ F).length by simp; omega, List.take_left]]
    rw [List.drop_zero, show (B ++ S ++ D ++ F).drop (B.length + S.length + D.length + 1) = F.drop 1 from by
      rw [← List.drop_drop, show B.length + S.length + D.length = (B ++ S ++ D).length by simp; omega, List.drop_left]]
theorem joinV_lt {V : Nat} {b : Bool} {v : Int} (h : joinV V b = some v) : V < 18446744073709551616 := by
  unfold joinV at h
  cases b with
  | true =>
    by_cases h1 : V ≤ 9223372036854775808
    · omega
    · rw [if_pos rfl, if_neg h1] at h; cases h
  | false =>
    by_cases h1 : V ≤ 9223372036854775807
    · omega
    · rw [if_neg (by decide), if_neg h1] at h; cases h
/-- A numeral is read as its figures say. -/
theorem Parts.read {s : ByteArray} {B S D F M : List Int} (h : Parts (bytesOf s) B S D F M) (hs : s.size ≤ 281474976710656) {V : Nat} {v : Int}
    (hV : val 0 (D ++ (F.drop 1 ++ List.replicate 6 48).take 6) = V) (hj : joinV V (decide (S = [45])) = some v) :
    dec_Read.f s = some (v, ((B.length + S.length + D.length + F.length : Nat) : Int), 0) := by
  have hl : s.size = B.length + (S.length + (D.length + (F.length + M.length))) := by rw [size_of_bytes h.all]; simp
  have hDl : 0 < D.length := List.length_pos_iff.2 h.some_
  have hn := h.num hs
  unfold dec_Read.f
  rw [span_f s hs _ (by omega), h.span, Option.bind_some]
  unfold readV
  dsimp only
  have hT : ∀ c ∈ bytesOf (numT s ((B.length + S.length : Nat) : Int) ((B.length + S.length + D.length : Nat) : Int) ((B.length + S.length + D.length + F.length : Nat) : Int)), isD c = true := by
    rw [hn]
    intro c hc
    rcases List.mem_append.1 hc with hc | hc
    · exact h.figs c hc
    · rcases List.mem_append.1 (List.mem_of_mem_take hc) with hc | hc
      · rcases h.frac with ⟨rfl, _⟩ | ⟨_, h2⟩
        · cases hc
        · exact h2 c hc
      · rw [(List.mem_replicate.1 hc).2]; rfl
  generalize numT s ((B.length + S.length : Nat) : Int) ((B.length + S.length + D.length : Nat) : Int) ((B.length + S.length + D.length + F.length : Nat) : Int) = T at hn hT ⊢
  have hTs : T.size ≤ D.length + 6 := by
    rw [size_of_bytes hn, List.length_append, List.length_take]; omega
  have ha : B.length < s.size := by omega
  rw [if_neg (by omega), if_pos (by
    refine ⟨⟨by omega, by omega, by omega, by omega, by omega, by omega, hs, by omega⟩, fun i hi => ?_⟩
    have h1 := (isD_iff _).1 (hT _ (List.getElem_mem (by rw [bytesOf_length]; exact hi)))
    have h2 := getD_val T i hi
    omega)]
  have hval : val 0 ((bytesOf T).drop 0) = V := by rw [List.drop_zero, hn]; exact hV
  rw [digV_val T hT T.size 0 0 (by omega), hval, if_pos (joinV_lt hj)]
  have hm : minus s (B.length : Int) = decide (S = [45]) := by
    unfold minus
    rw [dif_pos (show ((B.length : Int)).toNat < s.size by omega)]
    have hb : (((s[((B.length : Int)).toNat]'(by omega)).toNat : Int)) = bt s (B.length : Int) := by
      unfold bt
      simp [ha]
    have hg : bt s ((B.length : Nat) : Int) = (S ++ (D ++ (F ++ M))).head (by intro z; have := congrArg List.length z; simp only [List.length_append, List.length_nil] at this; omega) := by
      rw [bt_get s B.length ha]
      simp only [h.all]
      rw [List.getElem_append_right (Nat.le_refl _), List.head_eq_getElem]
      simp
    rw [hb, hg]
    rcases h.sign with rfl | rfl | rfl
    · obtain ⟨d, D', rfl⟩ : ∃ d D', D = d :: D' := by
        cases hD : D with
        | nil => exact absurd hD h.some_
        | cons d D' => exact ⟨d, D', rfl⟩
      have := (isD_iff d).1 (h.figs d (List.mem_cons_self ..))
      simp
      omega
    · rfl
    · rfl
  rw [hm]
  unfold resV
  rw [Option.bind_some, hj]
end Go.Proofs.YtpdihjedcplmnaaDoor.PD
