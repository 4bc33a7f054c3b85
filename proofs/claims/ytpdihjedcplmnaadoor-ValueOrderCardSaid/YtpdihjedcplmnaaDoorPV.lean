/- Comparing two texts, in plain words. -/
import Derived.Test.YtpdihjedcplmnaaDoorPDE
import Derived.Test.YtpdihjedcplmnaaDoorQAx
set_option linter.unusedVariables false
set_option linter.unusedSimpArgs false
namespace Go.Proofs.YtpdihjedcplmnaaDoor.P
open Go.RowKit Go.Proofs.YtpdihjedcplmnaaDoorW.PrintWords Go.Proofs.YtpdihjedcplmnaaDoor.G Go.Proofs.YtpdihjedcplmnaaDoor.Q1 Go.Proofs.YtpdihjedcplmnaaDoor.QA Go.Proofs.YtpdihjedcplmnaaDoor.PD
theorem takeWhile_all {p : Int → Bool} : ∀ l : List Int, ∀ c ∈ l.takeWhile p, p c = true
  | [], c, h => by simp at h
  | x :: l, c, h => by
    rw [List.takeWhile_cons] at h
    by_cases hx : p x = true
    · rw [if_pos hx] at h
      rcases List.mem_cons.1 h with rfl | h
      · exact hx
      · exact takeWhile_all l c h
    · rw [if_neg hx] at h; simp at h
theorem takeWhile_take {p : Int → Bool} : ∀ l : List Int, l.take (l.takeWhile p).length = l.takeWhile p
  | [] => by simp
  | x :: l => by
    rw [List.takeWhile_cons]
    by_cases hx : p x = true
    · rw [if_pos hx, List.length_cons, List.take_succ_cons, takeWhile_take l]
    · rw [if_neg hx]; simp
theorem dropWhile_drop {p : Int → Bool} : ∀ l : List Int, l.drop (l.takeWhile p).length = l.dropWhile p
  | [] => by simp
  | x :: l => by
    rw [List.takeWhile_cons, List.dropWhile_cons]
    by_cases hx : p x = true
    · rw [if_pos hx, if_pos hx, List.length_cons, List.drop_succ_cons, dropWhile_drop l]
    · rw [if_neg hx, if_neg hx]; simp
theorem tw_len {p : Int → Bool} (l : List Int) : (l.takeWhile p).length + (l.dropWhile p).length = l.length := by
  rw [← List.length_append, List.takeWhile_append_dropWhile]
theorem all_take {p : Int → Bool} {l : List Int} (h : ∀ c ∈ l, p c = true) (n : Nat) : ∀ c ∈ l.take n, p c = true := fun c hc => h c (List.mem_of_mem_take hc)
theorem sixB : bytesOf (⟨#[48, 48, 48, 48, 48, 48]⟩ : ByteArray) = [48, 48, 48, 48, 48, 48] := rfl
/-- Every text is read: it comes to something, and what was used lies within it. -/
theorem Read_ok (s : ByteArray) (hs : s.size ≤ 100000) : ∃ n u e, dec_Read.f s = some (n, u, e) ∧ (e = 0 → 0 ≤ u ∧ u ≤ (s.size : Int)) := by
  have hsp := span_f s (by omega) (3 * s.size + 20) (by omega)
  have hL := bytesOf_length s
  unfold dec_Read.f
  rw [hsp, Option.bind_some]
  have e0 := tw_len (p := isB) (bytesOf s)
  have d0 := dropWhile_drop (p := isB) (bytesOf s)
  generalize hA : ((bytesOf s).takeWhile isB).length = a at *
  generalize hl1 : (bytesOf s).dropWhile isB = l1 at *
  unfold spanFrom
  have hsg : signL l1 ≤ l1.length := by
    unfold signL
    cases l1 with
    | nil => simp
    | cons x l => simp only [List.length_cons]; split <;> omega
  have e1 := tw_len (p := isD) (tailL l1)
  have d1 := dropWhile_drop (p := isD) (tailL l1)
  have t1 := takeWhile_take (p := isD) (tailL l1)
  have a1 := takeWhile_all (p := isD) (tailL l1)
  have ht : tailL l1 = (bytesOf s).drop (a + signL l1) := by unfold tailL; rw [← d0, List.drop_drop]
  have htl : (tailL l1).length = l1.length - signL l1 := by unfold tailL; rw [List.length_drop]
  generalize hB : a + signL l1 = b at *
  generalize hD : ((tailL l1).takeWhile isD) = D at *
  generalize hl3 : (tailL l1).dropWhile isD = l3 at *
  have hbL : b + D.length + l3.length = s.size := by omega
  have he : endL l3 ≤ l3.length ∧ (endL l3 = 0 ∨ ∃ l4, l3 = 46 :: l4 ∧ endL l3 = 1 + (l4.takeWhile isD).length) := by
    unfold endL
    cases l3 with
    | nil => simp
    | cons x l4 =>
      by_cases hx : x = 46
      · subst hx
        rw [List.head?_cons, if_pos rfl, List.drop_succ_cons, List.drop_zero]
        have := tw_len (p := isD) l4
        exact ⟨by rw [List.length_cons]; omega, .inr ⟨l4, rfl, rfl⟩⟩
      · rw [List.head?_cons, if_neg (by simpa using hx)]; exact ⟨by omega, .inl rfl⟩
  have hd3 : l3 = (bytesOf s).drop (b + D.length) := by rw [← d1, ht, List.drop_drop]
  obtain ⟨he1, he2⟩ := he
  have hd3 : l3 = (bytesOf s).drop (b + D.length) := by rw [← d1, ht, List.drop_drop]
  generalize hE : endL l3 = E at *
  dsimp only
  unfold readV
  by_cases c1 : ((b + D.length : Nat) : Int) = (b : Int) ∧ ((b + D.length + E : Nat) : Int) ≤ wrap64 (((b + D.length : Nat) : Int) + 1)
  · rw [if_pos c1]; exact ⟨0, 0, 2, rfl, fun h => by cases h⟩
  rw [if_neg c1]
  have c2 : ¬ (D.length = 0 ∧ E ≤ 1) := by
    clear he2
    intro h
    refine c1 ⟨by omega, ?_⟩
    rw [wrap_id (by omega) (by omega)]; omega
  clear c1
  -- the text of the figures
  have hnum : ∀ c ∈ bytesOf (numT s (b : Int) ((b + D.length : Nat) : Int) ((b + D.length + E : Nat) : Int)), isD c = true := by
    intro c hc
    unfold numT at hc
    rw [bytesOf_append, List.mem_append] at hc
    rcases hc with hc | hc
    · rw [bytes_extract, Int.toNat_natCast, Int.toNat_natCast, List.drop_take, Nat.add_sub_cancel_left, ← ht, t1] at hc
      exact a1 c hc
    · by_cases hE0 : ((b + D.length : Nat) : Int) < ((b + D.length + E : Nat) : Int)
      · rw [if_pos hE0, bytes_extract, List.drop_zero] at hc
        have hc := List.mem_of_mem_take hc
        rw [bytesOf_append, List.mem_append] at hc
        rcases hc with hc | hc
        · rcases he2 with h0 | ⟨l4, h4, h5⟩
          · clear hc; omega
          · rw [bytes_extract, show (((b + D.length : Nat) : Int) + 1).toNat = b + D.length + 1 by omega, Int.toNat_natCast, List.drop_take, show b + D.length + E - (b + D.length + 1) = (l4.takeWhile isD).length by omega] at hc
            rw [show (bytesOf s).drop (b + D.length + 1) = l4 by rw [← List.drop_drop, ← hd3, h4]; rfl, takeWhile_take] at hc
            exact takeWhile_all l4 c hc
        · rw [sixB] at hc
          simp only [List.mem_cons, List.not_mem_nil, or_false, or_self] at hc
          subst hc; rfl
      · rw [if_neg hE0, bytes_extract, List.drop_zero] at hc
        have hc := List.mem_of_mem_take hc
        rw [bytesOf_append, List.mem_append, sixB] at hc
        rcases hc with hc | hc
        · exact absurd hc (by simp [bytesOf])
        · simp only [List.mem_cons, List.not_mem_nil, or_false, or_self] at hc
          subst hc; rfl
  have hsize : (numT s (b : Int) ((b + D.length : Nat) : Int) ((b + D.length + E : Nat) : Int)).size ≤ s.size + 6 := by
    clear he2
    unfold numT
    rw [ByteArray.size_append]
    have h1 : (s.extract (b : Int).toNat ((b + D.length : Nat) : Int).toNat).size ≤ s.size := by rw [ByteArray.size_extract]; omega
    have h2 : (if ((b + D.length : Nat) : Int) < ((b + D.length + E : Nat) : Int) then (s.extract (((b + D.length : Nat) : Int) + 1).toNat ((b + D.length + E : Nat) : Int).toNat ++ ⟨#[48, 48, 48, 48, 48, 48]⟩).extract 0 6 else ((⟨#[]⟩ : ByteArray) ++ ⟨#[48, 48, 48, 48, 48, 48]⟩).extract 0 6).size ≤ 6 := by
      split <;> (rw [ByteArray.size_extract]; omega)
    omega
  generalize numT s (b : Int) ((b + D.length : Nat) : Int) ((b + D.length + E : Nat) : Int) = T at hnum hsize ⊢
  have hdig : ∀ i, i < T.size → 48 ≤ (T.data.toList.getD i 0).toNat ∧ (T.data.toList.getD i 0).toNat ≤ 57 := fun i hi => by
    have h := (isD_iff _).1 (hnum _ (List.getElem_mem (by rw [bytesOf_length]; exact hi)))
    rw [← getD_val T i hi] at h
    omega
  clear he2
  rw [if_pos ⟨⟨by omega, by omega, by omega, by omega, by omega, by omega, by omega, by omega⟩, hdig⟩]
  unfold resV
  split
  · exact ⟨_, _, _, rfl, fun _ => ⟨by omega, by omega⟩⟩
  · exact ⟨_, _, _, rfl, fun h => by cases h⟩
/-- What a text looks like. -/
theorem Looks_ok (s : ByteArray) (hs : s.size ≤ 100000) : ∃ r, value_Looks.f s = some r := by
  obtain ⟨n, u, e, h, hu⟩ := Read_ok s hs
  unfold value_Looks.f
  rw [h, Option.bind_some]
  dsimp only
  by_cases he : e = 0
  · have := hu he
    rw [if_pos he, if_pos ⟨this.1, this.2, by omega⟩]; exact ⟨_, rfl⟩
  · rw [if_neg he]; exact ⟨_, rfl⟩
theorem cmp_refl : ∀ a : List UInt8, Lib.compareBytes a a = 0
  | [] => rfl
  | x :: a => by rw [Lib.compareBytes, if_neg (UInt8.lt_irrefl x), if_neg (UInt8.lt_irrefl x), cmp_refl a]
theorem cmp_anti : ∀ a b : List UInt8, Lib.compareBytes b a = - Lib.compareBytes a b
  | [], [] => rfl
  | [], _ :: _ => rfl
  | _ :: _, [] => rfl
  | x :: a, y :: b => by
    rw [Lib.compareBytes, Lib.compareBytes]
    by_cases h1 : x < y
    · have h2 : ¬ y < x := UInt8.lt_asymm h1
      rw [if_neg h2, if_pos h1, if_pos h1]; rfl
    · by_cases h2 : y < x
      · rw [if_pos h2, if_neg h1, if_pos h2]
      · rw [if_neg h2, if_neg h1, if_neg h1, if_neg h2, cmp_anti a b]
theorem cmp_range : ∀ a b : List UInt8, Lib.compareBytes a b = -1 ∨ Lib.compareBytes a b = 0 ∨ Lib.compareBytes a b = 1
  | [], [] => .inr (.inl rfl)
  | [], _ :: _ => .inl rfl
  | _ :: _, [] => .inr (.inr rfl)
  | x :: a, y :: b => by
    rw [Lib.compareBytes]
    split
    · exact .inl rfl
    split
    · exact .inr (.inr rfl)
    · exact cmp_range a b
theorem cmp_trans : ∀ a b c : List UInt8, Lib.compareBytes a b ≤ 0 → Lib.compareBytes b c ≤ 0 → Lib.compareBytes a c ≤ 0
  | [], _, [], _, _ => by decide
  | [], _, _ :: _, _, _ => by simp [Lib.compareBytes]
  | _ :: _, [], _, h, _ => by simp [Lib.compareBytes] at h
  | _ :: _, _ :: _, [], _, h => by simp [Lib.compareBytes] at h
  | x :: a, y :: b, z :: c, h1, h2 => by
    rw [Lib.compareBytes] at h1 h2 ⊢
    simp only [UInt8.lt_iff_toNat_lt] at h1 h2 ⊢
    by_cases g1 : x.toNat < y.toNat
    · by_cases g2 : y.toNat < z.toNat
      · rw [if_pos (by omega)]; decide
      · rw [if_neg g2] at h2
        by_cases g3 : z.toNat < y.toNat
        · rw [if_pos g3] at h2; omega
        · rw [if_pos (by omega)]; decide
    · rw [if_neg g1] at h1
      by_cases g1' : y.toNat < x.toNat
      · rw [if_pos g1'] at h1; omega
      · rw [if_neg g1'] at h1
        by_cases g2 : y.toNat < z.toNat
        · rw [if_pos (by omega)]; decide
        · rw [if_neg g2] at h2
          by_cases g3 : z.toNat < y.toNat
          · rw [if_pos g3] at h2; omega
          · rw [if_neg g3] at h2
            rw [if_neg (by omega), if_neg (by omega)]
            exact cmp_trans a b c h1 h2
def cmpI (a b : Int) : Int := if a < b then -1 else if a > b then 1 else 0
theorem cmpI_f (a b : Int) : cmp_Compare_int64.f a b = some (cmpI a b) := by
  unfold cmp_Compare_int64.f cmp_isNaN_int64.f cmpI
  rw [Option.bind_some, Option.bind_some, show (a != a) = false by simp, show (b != b) = false by simp, if_neg (by decide), if_neg (by decide)]
  split
  · rfl
  split <;> rfl
/-- Two are compared. -/
def cmpV (a b : ByteArray) (p q : Int × Bool) : Int := if p.2 = true ∧ q.2 = true then cmpI p.1 q.1 else Lib.compareBytes a.data.toList b.data.toList
theorem Compare_f (a b : ByteArray) {p q : Int × Bool} (hp : value_Looks.f a = some p) (hq : value_Looks.f b = some q) (k : Nat) (hk : 1 ≤ k) : value_Compare.f k a b = some (cmpV a b p q) := by
  obtain ⟨k, rfl⟩ : ∃ m, k = m + 1 := ⟨k - 1, by omega⟩
  unfold value_Compare.f cmpV
  rw [hp, Option.bind_some, hq, Option.bind_some]
  have hj : ∀ x y : Int, ∀ z : Bool, value_Compare.j0 (k + 1) a b x y z = some (if z = true then cmpI x y else Lib.compareBytes a.data.toList b.data.toList) := fun x y z => by
    rw [value_Compare.j0, cmpI_f]
    cases z <;> rfl
  cases h1 : p.2 <;> cases h2 : q.2 <;> simp [hj]
theorem cmpV_range (a b : ByteArray) (p q : Int × Bool) : cmpV a b p q = -1 ∨ cmpV a b p q = 0 ∨ cmpV a b p q = 1 := by
  unfold cmpV cmpI
  split
  · split
    · exact .inl rfl
    · split
      · exact .inr (.inr rfl)
      · exact .inr (.inl rfl)
  · exact cmp_range _ _
theorem cmpV_anti (a b : ByteArray) (p q : Int × Bool) : cmpV b a q p = wrap64 (- cmpV a b p q) := by
  have e : cmpV b a q p = - cmpV a b p q := by
    unfold cmpV
    by_cases h : p.2 = true ∧ q.2 = true
    · rw [if_pos h, if_pos ⟨h.2, h.1⟩]; unfold cmpI; split <;> split <;> (try split) <;> (try split) <;> omega
    · rw [if_neg h, if_neg (fun h' => h ⟨h'.2, h'.1⟩), cmp_anti]
  rw [e]
  have := cmpV_range a b p q
  generalize cmpV a b p q = x at this ⊢
  unfold wrap64; omega
theorem cmpV_refl (a : ByteArray) (p : Int × Bool) : cmpV a a p p = 0 := by
  unfold cmpV cmpI
  split
  · rw [if_neg (by omega), if_neg (by omega)]
  · exact cmp_refl _
theorem cmpV_trans (a b c : ByteArray) (p q r : Int × Bool) (h1 : p.2 = q.2) (h2 : q.2 = r.2) (h : cmpV a b p q ≤ 0) (h' : cmpV b c q r ≤ 0) : cmpV a c p r ≤ 0 := by
  unfold cmpV at *
  rw [← h2, ← h1] at *
  by_cases g : p.2 = true
  · rw [if_pos ⟨g, g⟩] at *
    unfold cmpI at *
    split at h <;> split at h' <;> split <;> (try split) <;> (try split at h) <;> (try split at h') <;> omega
  · rw [if_neg (fun x => g x.1)] at *
    exact cmp_trans _ _ _ h h'
end Go.Proofs.YtpdihjedcplmnaaDoor.P
