/- The reader of package arith: what its small steps do, walked. -/
import Derived.Test.YtambnodgfhlpfaaDoorJAD
import Derived.Test.YtambnodgfhlpfaaDoorJShelf
import Derived.Test.YtambnodgfhlpfaaDoorJWLast
import Derived.Test.YtambnodgfhlpfaaDoorJWMore
import Derived.Deep.LoopGhost
import Derived.Deep.QuietTactic
import Derived.BigQuiet
import Derived.Deep.RegionHeld3
import Derived.RegionTactic
import Derived.BigRegion
import Derived.WalkLawsBesides
import Derived.Outline
import Derived.IntWalk
set_option linter.unusedVariables false
set_option linter.unusedSimpArgs false
namespace Go.Proofs.YtambnodgfhlpfaaDoor.A
open Go.RowKit Go.Proofs.YtambnodgfhlpfaaDoorW.PrintWords Go.Proofs.YtambnodgfhlpfaaDoorW.PrintLast Go.Proofs.YtambnodgfhlpfaaDoor.G

theorem var_keep {n : String} {cs : Array Value} {W W' : World} (h : W.var? Tryd.prog n = some cs) (hk : ∀ (k : Nat) (t : TypeId) (fr : Nat × Nat), W.heap[k]? = some (Obj.cells cs t fr) → W'.heap[k]? = W.heap[k]?) : W'.var? Tryd.prog n = some cs := by
  unfold World.var? at h ⊢
  cases hg : Tryd.prog.globalNamed n with
  | none => simp [hg] at h
  | some g =>
    simp only [hg, Option.bind_some] at h ⊢
    cases ho : W.heap[g]? with
    | none => rw [ho] at h; cases h
    | some o =>
      rw [ho] at h
      cases o with
      | cells cs' t fr =>
        obtain rfl := Option.some.inj h
        rw [hk g t fr ho, ho]
      | _ => cases h
/-- What the variables hold stands, where blocks of 3 or 4 cells alone have been written. -/
theorem ge_keep {W W' : World} (h : GE W) (hk : ∀ (k : Nat) (cs : Array Value) (t : TypeId) (fr : Nat × Nat), W.heap[k]? = some (Obj.cells cs t fr) → cs.size ≠ 3 → cs.size ≠ 4 → W'.heap[k]? = W.heap[k]?) : GE W' :=
  ⟨var_keep h.tab fun k t fr hc => hk k _ t fr hc (by simp [Lib.pow10Tab_length]) (by simp [Lib.pow10Tab_length]),
   let ⟨a, b, c⟩ := h.rng; ⟨a, b, var_keep c fun k t fr hc => hk k _ t fr hc (by simp) (by simp)⟩,
   let ⟨a, b, c⟩ := h.syn; ⟨a, b, var_keep c fun k t fr hc => hk k _ t fr hc (by simp) (by simp)⟩⟩
theorem ge_heap {W W' : World} (h : GE W) (hh : W'.heap = W.heap) : GE W' := ge_keep h fun k _ _ _ _ _ _ => by rw [hh]
theorem ge_set {W : World} {g : Nat} {t : TypeId} {cs : Array Value} (h : GE W) (hb : W.heap[g]? = some (.cells cs t (0, 0))) (hs : cs.size = 3 ∨ cs.size = 4) (i : Nat) (u : Value) : GE (W.setCell ⟨g, i, none⟩ u) :=
  ge_keep h fun k cs' t' fr hc h3 h4 => Below.heap_setCell _ _ _ k (by rintro rfl; rw [hb] at hc; injection hc with hc; injection hc with hc _ _; subst hc; omega)

/-- Block g is a reader of text s at place p, d deep; from w on nothing else that was there has changed; what the variables hold stands. -/
structure Rd (g : Nat) (s : ByteArray) (p d : Nat) (w W : World) : Prop where
  blk : W.heap[g]? = some (.cells #[.string s, .int .i64 p, .int .i64 d] 52 (0, 0))
  grw : w.grownBy W (some g)
  ge : GE W
section
variable {g : Nat} {s : ByteArray} {p d : Nat} {w W W' : World}
theorem Rd.self (h : Rd g s p d w W) : Rd g s p d W W := ⟨h.blk, World.grownBy.refl _ _, h.ge⟩
theorem Rd.same (h : Rd g s p d w W) (hh : W'.heap = W.heap) : Rd g s p d W' W' := ⟨by rw [hh]; exact h.blk, World.grownBy.refl _ _, ge_heap h.ge hh⟩
theorem Rd.at_ (h : Rd g s p d w W) : W.cell? ⟨g, 1, none⟩ = some (.int .i64 p) := (blk_cell h.blk 1).trans rfl
theorem Rd.str (h : Rd g s p d w W) : W.cell? ⟨g, 0, none⟩ = some (.string s) := (blk_cell h.blk 0).trans rfl
theorem Rd.deep (h : Rd g s p d w W) : W.cell? ⟨g, 2, none⟩ = some (.int .i64 d) := (blk_cell h.blk 2).trans rfl
theorem Rd.fr (h : Rd g s p d w W) (i : Nat) : W.frozen? ⟨g, i, none⟩ = false := blk_frozen h.blk i
theorem grw_drewN {row : Option Nat} (h : w.grownBy W row) (n : Nat) : w.grownBy (W.drewN n) row := ⟨h.os, h.tape, h.output, h.size, h.block⟩
theorem grw_set {row : Nat} (h : w.grownBy W (some row)) (i : Nat) (u : Value) : w.grownBy (W.setCell ⟨row, i, none⟩ u) (some row) :=
  ⟨h.os, h.tape, h.output, by simpa using h.size, fun k hk hne => (Below.heap_setCell W ⟨row, i, none⟩ u k (fun e => hne (by rw [e]))).trans (h.block k hk hne)⟩
theorem grw_below {row : Option Nat} (h : w.grownBy W row) (hb : Below W.heap.size W W') : w.grownBy W' row :=
  ⟨hb.os.trans h.os, hb.tape.trans h.tape, hb.output.trans h.output, Nat.le_trans h.size hb.size, fun k hk hne => (hb.block k (Nat.lt_of_lt_of_le hk h.size)).trans (h.block k hk hne)⟩
theorem Rd.drewN (h : Rd g s p d w W) (n : Nat) : Rd g s p d w (W.drewN n) := ⟨h.blk, grw_drewN h.grw n, ge_heap h.ge rfl⟩
theorem Rd.drew (h : Rd g s p d w W) : Rd g s p d w W.drew := ⟨h.blk, ⟨h.grw.os, h.grw.tape, h.grw.output, h.grw.size, h.grw.block⟩, ge_heap h.ge rfl⟩
theorem Rd.below (h : Rd g s p d w W) (hb : Below W.heap.size W W') : Rd g s p d w W' := ⟨blk_below h.blk hb, grw_below h.grw hb, h.ge.below hb⟩
theorem Rd.alloc (h : Rd g s p d w W) (o : Obj) : Rd g s p d w (W.alloc o) := h.below ((Below.refl _ _).alloc (Nat.le_refl _) _)
theorem Rd.move (h : Rd g s p d w W) (q : Nat) : Rd g s q d w (W.setCell ⟨g, 1, none⟩ (.int .i64 q)) := ⟨blk_put h.blk 1 _ rfl, grw_set h.grw _ _, ge_set h.ge h.blk (.inl rfl) _ _⟩
theorem Rd.dive (h : Rd g s p d w W) (q : Nat) : Rd g s p q w (W.setCell ⟨g, 2, none⟩ (.int .i64 q)) := ⟨blk_put h.blk 2 _ rfl, grw_set h.grw _ _, ge_set h.ge h.blk (.inl rfl) _ _⟩
theorem Rd.trans {q e : Nat} (h : Rd g s p d w W) (k : Rd g s q e W W') : Rd g s q e w W' := ⟨k.blk, h.grw.trans k.grw, k.ge⟩
end

theorem idx_sp (c : UInt8) : decide (0 ≤ Lib.indexByte [32, 9, 10] c) = spB (c.toNat : Int) := by
  have key : ∀ m : Fin 256, decide (0 ≤ Lib.indexByte [32, 9, 10] (UInt8.ofNat m.val)) = spB ((UInt8.ofNat m.val).toNat : Int) := by decide +kernel
  have := key ⟨c.toNat, c.toNat_lt⟩
  simpa using this
theorem sk_yes (s : ByteArray) (i : Nat) (h : i < s.size) (hb : spB (bt s i) = true) : sk s i = sk s (i + 1) := by
  unfold sk
  obtain ⟨d, hd⟩ : ∃ d, s.size - i = d + 1 := ⟨s.size - i - 1, by omega⟩
  rw [hd, show s.size - (i + 1) = d by omega, skip, hb]; rfl
theorem sk_no (s : ByteArray) (i : Nat) (hb : i < s.size → spB (bt s i) = false) : sk s i = i := by
  unfold sk
  cases hd : s.size - i with
  | zero => rfl
  | succ d => rw [skip, hb (by omega)]; rfl

set_option maxHeartbeats 2000000 in
set_option maxRecDepth 100000 in
theorem blanks_calls (g : Nat) (s : ByteArray) (p d : Nat) (w : World) (hs : s.size ≤ 140737488355328) (hp : p ≤ s.size) (h : Rd g s p d w w) :
    Calls Tryd.prog 25 #[.pointer (some ⟨g, 0, none⟩)] w fun e w' => e = .returned (.tuple #[]) ∧ Rd g s (sk s p) d w w' := by
  have H0 := Lib.hid h; clear h
  go_enter Tryd.func25, Tryd.ntmps25
  go_wp2_with fail
  go_loopg [] (s.size - p) (fun kq wr => ∃ q : Nat, q ≤ s.size ∧ kq = s.size - q ∧ Aside0 (sk s p = sk s q) ∧ Aside0 (Rd g s q d w wr))
  case atStart => exact ⟨p, hp, rfl, ⟨rfl⟩, ⟨H0.out⟩⟩
  case round =>
    obtain ⟨q, hq, hk, HE, HR⟩ := hrel
    have HK := Aside0.mk hk; clear hk
    have h1 := HR.out.at_
    have h0 := HR.out.str
    have hf := HR.out.fr 1
    by_cases hlt : q < s.size
    · have hd : decide ((q : Int) < (s.size : Int)) = true := decide_eq_true (by omega)
      have hi0 : (0 : Int) ≤ (q : Int) := by omega
      have hi1 : (q : Int) < (s.size : Int) := by omega
      have hb : ((s[q]'hlt).toNat : Int) = bt s q := by have := bt_at s q (by simpa using hlt); simpa using this
      have hx := idx_sp s[q]
      have hw1 : IntKind.i64.wrap ((q : Int) + 1) = (q : Int) + 1 := IntWalk.i64_in _ (by omega)
      by_cases hbl : spB (bt s q) = true
      · have HS := Aside0.mk (sk_yes s q hlt hbl)
        rw [← hb] at hbl
        rw [hbl] at hx
        have HM := Aside0.mk fun nq => (HR.out.drewN nq).move (q + 1)
        clear hb HR
        go_wp2_with fail
        go_quiet ((go_at_call 38; exact Calls.quiet_of_same ((Tryd.strings_IndexByte _ _ _).mono fun e w' h => h)))
        go_wp2_with fail
        go_roundg (s.size - (q + 1))
        case measure => have := HK.out; omega
        case rel => exact ⟨q + 1, by omega, rfl, ⟨HE.out.trans HS.out⟩, ⟨HM.out _⟩⟩
      · rw [Bool.not_eq_true] at hbl
        have HS := Aside0.mk (sk_no s q fun _ => hbl)
        rw [← hb] at hbl
        rw [hbl] at hx
        have HM := Aside0.mk fun nq => (HR.out.drewN nq)
        clear hb HR
        go_wp2_with fail
        go_quiet ((go_at_call 38; exact Calls.quiet_of_same ((Tryd.strings_IndexByte _ _ _).mono fun e w' h => h)))
        go_wp2_with fail
        go_end0
        exact ⟨rfl, by rw [HE.out, HS.out]; exact HM.out _⟩
    · have hd : decide ((q : Int) < (s.size : Int)) = false := decide_eq_false (by omega)
      have HS := Aside0.mk (sk_no s q fun h => absurd h hlt)
      have HM := Aside0.mk fun nq => (HR.out.drewN nq)
      clear HR
      go_wp2_with fail
      go_quiet (fail)
      go_wp2_with fail
      go_end0
      exact ⟨rfl, by rw [HE.out, HS.out]; exact HM.out _⟩

theorem skip_le (s : ByteArray) : ∀ d i, skip s i d ≤ i + d
  | 0, i => Nat.le_refl _
  | d + 1, i => by
    rw [skip]
    split
    · have := skip_le s d (i + 1); omega
    · omega
theorem skip_ge (s : ByteArray) : ∀ d i, i ≤ skip s i d
  | 0, i => Nat.le_refl _
  | d + 1, i => by
    rw [skip]
    split
    · have := skip_ge s d (i + 1); omega
    · omega
theorem sk_le (s : ByteArray) (p : Nat) (hp : p ≤ s.size) : sk s p ≤ s.size := by have := skip_le s (s.size - p) p; unfold sk; omega
theorem sk_ge (s : ByteArray) (p : Nat) : p ≤ sk s p := skip_ge s _ p
theorem hasAt_size {s : ByteArray} {p : Nat} {m : ByteArray} (h : hasAt s p m = true) : m.size ≤ s.size - p := by
  unfold hasAt Lib.hasPrefix at h
  have h2 := (List.isPrefixOf_iff_prefix.1 h).length_le
  simp only [Array.length_toList] at h2
  have e : (s.extract p s.size).data.size = s.size - p := by
    have : (s.extract p s.size).size = s.size - p := by rw [ByteArray.size_extract]; omega
    exact this
  rw [e] at h2
  exact h2
theorem mark_here {s : ByteArray} {p : Nat} {ms : List ByteArray} {k : Nat} {m : ByteArray} (hm : ms[k]? = some m) (h : hasAt s p m = true) : mark s p (ms.drop k) = m := by
  obtain ⟨hk, e⟩ := List.getElem?_eq_some_iff.1 hm
  rw [List.drop_eq_getElem_cons hk, mark, e, if_pos h]
theorem mark_next {s : ByteArray} {p : Nat} {ms : List ByteArray} {k : Nat} {m : ByteArray} (hm : ms[k]? = some m) (h : hasAt s p m = false) : mark s p (ms.drop k) = mark s p (ms.drop (k + 1)) := by
  obtain ⟨hk, e⟩ := List.getElem?_eq_some_iff.1 hm
  rw [List.drop_eq_getElem_cons hk, mark, e, if_neg (by rw [h]; decide)]

theorem has_calls (s : ByteArray) (p : Nat) (m : ByteArray) (t : Bool) (w : World) (h : hasAt s p m = t) :
    Calls Tryd.prog 55 #[.string (s.extract p s.size), .string m] w fun e w' => e = .returned (.bool t) ∧ w' = w := by
  refine (Tryd.strings_HasPrefix _ _ w).mono ?_
  rintro e w' ⟨rfl, rfl⟩
  exact ⟨by rw [← h]; rfl, rfl⟩

set_option maxHeartbeats 2000000 in
set_option maxRecDepth 100000 in
theorem takes_calls (g : Nat) (s : ByteArray) (p d : Nat) (w : World) (hs : s.size ≤ 140737488355328) (hp : p ≤ s.size) (h : Rd g s p d w w)
    (b : Nat) (ms : List ByteArray) (hb : w.heap[b]? = some (.cells (ms.map Value.string).toArray 9 (0, 0))) (hne : b ≠ g) (hl : ms.length ≤ 1000) :
    Calls Tryd.prog 37 #[.pointer (some ⟨g, 0, none⟩), .slice (some ⟨b, 0, none⟩) ms.length ms.length] w fun e w' => e = .returned (.string (mark s (sk s p) ms)) ∧ Rd g s (sk s p + (mark s (sk s p) ms).size) d w w' := by
  have H0 := Lib.hid h; clear h
  have HB := Lib.hid hb; clear hb
  have HN := Lib.hid hne; clear hne
  have hq := sk_le s p hp
  go_enter Tryd.func37, Tryd.ntmps37
  go_wp2_with (go_at_call 25; refine (blanks_calls g s p d _ hs hp H0.out).mono ?_; rintro e w1 ⟨rfl, h1⟩)
  have H1 := Lib.hid h1; clear h1
  have HB1 := Lib.hid (show w1.heap[b]? = some (.cells (ms.map Value.string).toArray 9 (0, 0)) from (H1.out.grw.block b (blk_lt HB.out) (by intro e; exact HN.out (Option.some.inj e))).trans HB.out)
  go_loopw [11] (fun v11 wr => ∃ k : Nat, k ≤ ms.length ∧ v11 = .int .i64 k ∧ Aside0 (mark s (sk s p) ms = mark s (sk s p) (ms.drop k)) ∧ Aside0 (Rd g s (sk s p) d w wr) ∧ Aside0 (wr.heap[b]? = some (.cells (ms.map Value.string).toArray 9 (0, 0)))) (fun v11 _ => ms.length - (intOf v11).toNat)
  case atStart => exact ⟨0, Nat.zero_le _, rfl, ⟨by simp⟩, ⟨H1.out⟩, ⟨HB1.out⟩⟩
  case round =>
    clear H1 HB1
    obtain ⟨k, hk, rfl, HE, HR, HB1⟩ := hrel
    by_cases hlt : k < ms.length
    · obtain ⟨m, hm⟩ : ∃ m, ms[k]? = some m := ⟨ms[k], List.getElem?_eq_getElem hlt⟩
      have hc : wr.cell? ⟨b, k, none⟩ = some (.string m) := by rw [blk_cell HB1.out k]; simp [hm]
      have h1 := HR.out.at_
      have h0 := HR.out.str
      have hf := HR.out.fr 1
      have e1 : (sk s p : Int) ≤ s.size := by omega
      have e2 : (0 : Int) ≤ (sk s p : Int) := by omega
      have hz : (s.extract (sk s p) s.size).size = s.size - sk s p := by rw [ByteArray.size_extract]; omega
      have HM := Lib.hid hm; clear hm
      cases hh : hasAt s (sk s p) m with
      | true =>
        have hms := hasAt_size hh
        have HH := Lib.hid hh; clear hh
        have hw1 : IntKind.i64.wrap ((sk s p : Int) + (m.size : Int)) = ((sk s p + m.size : Nat) : Int) := by rw [IntWalk.i64_in _ (by omega)]; omega
        have HX := Lib.hid (show mark s (sk s p) ms = m by rw [HE.out, mark_here HM.out HH.out])
        have HMV := Aside0.mk fun nq => (HR.out.drewN nq).move (sk s p + m.size)
        clear HR HE HB1
        go_wp2_with fail
        go_quiet ((go_at_call 55; exact Calls.quiet_of_same (has_calls _ _ _ _ _ HH.out)))
        go_wp2_with fail
        go_ret
        exact ⟨by rw [HX.out]; rfl, by rw [HX.out]; exact HMV.out _⟩
      | false =>
        have HH := Lib.hid hh; clear hh
        have HX := Lib.hid (show mark s (sk s p) ms = mark s (sk s p) (ms.drop (k + 1)) by rw [HE.out, mark_next HM.out HH.out])
        have HMV := Aside0.mk fun nq => (HR.out.drewN nq)
        have HBN := HB1
        clear HR HE HB1
        go_wp2_with fail
        go_quiet ((go_at_call 55; exact Calls.quiet_of_same (has_calls _ _ _ _ _ HH.out)))
        go_wp2_with fail
        go_roundw
        case measure => simp [intOf]; omega
        case rel => exact ⟨k + 1, by omega, by go_num, ⟨HX.out⟩, ⟨HMV.out _⟩, ⟨HBN.out⟩⟩
    · have HX := Lib.hid (show mark s (sk s p) ms = ⟨#[]⟩ by rw [HE.out, List.drop_eq_nil_of_le (by omega)]; rfl)
      go_wp2_with fail
      go_ret
      exact ⟨by rw [HX.out]; rfl, by rw [HX.out]; exact HR.out⟩
end Go.Proofs.YtambnodgfhlpfaaDoor.A
