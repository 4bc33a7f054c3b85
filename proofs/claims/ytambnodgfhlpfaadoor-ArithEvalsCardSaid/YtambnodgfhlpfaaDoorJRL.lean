/- arith.Eval, walked: at every text, every row of variables. -/
import Derived.Test.YtambnodgfhlpfaaDoorJRH
import Derived.Test.YtambnodgfhlpfaaDoorJRK
import Derived.Defers
import Derived.Recover
import Derived.Laws.Pointers
set_option linter.unusedVariables false
set_option linter.unusedSimpArgs false
namespace Go.Proofs.YtambnodgfhlpfaaDoor.A
open Go.RowKit Go.Proofs.YtambnodgfhlpfaaDoorW.PrintWords Go.Proofs.YtambnodgfhlpfaaDoorW.PrintLast Go.Proofs.YtambnodgfhlpfaaDoor.G Go.Proofs.YtambnodgfhlpfaaDoor.QA

theorem as48 (v : Value) (w : World) : (Instr.typeAssert (.iface 48 v) 20 48 true).run Tryd.prog w = .ok (.tuple #[v, .bool true]) w := by kernel_rfl
set_option maxHeartbeats 2000000 in
theorem caught_yes (p q : Nat) (x y e : Int) (older : List PanicEntry) (w : World) (hp : w.cell? ⟨p, 0, none⟩ = some (.int .i64 x)) (hq : w.cell? ⟨q, 0, none⟩ = some (.int .i64 y)) (fp : w.frozen? ⟨p, 0, none⟩ = false) (fq : w.frozen? ⟨q, 0, none⟩ = false) (hpq : p ≠ q) :
    CallsD Tryd.prog 23 #[.pointer (some ⟨p, 0, none⟩), .pointer (some ⟨q, 0, none⟩)] (.panicking (fault e :: older)) w fun x' u' w' =>
      x' = .returned (.tuple #[]) ∧ u' = .panicking ({ fault e with recovered := true } :: older) ∧ w' = (((w.setCell ⟨p, 0, none⟩ (.int .i64 0)).setCell ⟨q, 0, none⟩ (.int .i64 e)).alloc (.cells #[.int .i64 e] 48)).drew := by
  refine callsD_of_wpS Tryd.func23 rfl fun c₀ cs hu => ?_
  apply wpS_seq
  apply wpS_region
  simp [wpOpsS, go_sem, recoverD, hu, Tryd.ntmps23, Exit.thenS, fault]
  refine wpS_of_wp ?_
  have Hu := Lib.hid hu; clear hu
  have ht : (#[(.pointer (some ⟨p, 0, none⟩)), (.pointer (some ⟨q, 0, none⟩))] ++ ((Array.replicate 16 undef).setIfInBounds 3 (.iface 48 (.agg #[.int .i64 e]))).setIfInBounds 0 (.iface 48 (.agg #[.int .i64 e])) : Array Value) = #[(.pointer (some ⟨p, 0, none⟩)), (.pointer (some ⟨q, 0, none⟩)), (.iface 48 (.agg #[.int .i64 e])), undef, undef, (.iface 48 (.agg #[.int .i64 e])), undef, undef, undef, undef, undef, undef, undef, undef, undef, undef, undef, undef] := by simp [Array.replicate, Array.setIfInBounds]
  rw [ht]
  clear ht
  have hta := as48 (.agg #[.int .i64 e])
  go_wp2
  have hlp : p < w.heap.size := World.block_lt_of_cell? w _ hp
  have hlq : q < w.heap.size := World.block_lt_of_cell? w _ hq
  have hnp : w.heap.size ≠ p := by omega
  have hnq : w.heap.size ≠ q := by omega
  go_region
  exact ⟨rfl, _, rfl, _, results_none rfl _ _ _, rfl, rfl, rfl⟩

set_option maxHeartbeats 2000000 in
theorem caught_no (p q : Nat) (w : World) :
    CallsD Tryd.prog 23 #[.pointer (some ⟨p, 0, none⟩), .pointer (some ⟨q, 0, none⟩)] .returning w fun x' u' w' =>
      x' = .returned (.tuple #[]) ∧ u' = .returning ∧ w' = w := by
  refine callsD_of_wpS Tryd.func23 rfl fun c₀ cs hu => ?_
  apply wpS_seq
  apply wpS_region
  simp [wpOpsS, go_sem, recoverD, hu, Tryd.ntmps23, Exit.thenS]
  refine wpS_of_wp ?_
  have Hu := Lib.hid hu
  have ht : (#[.pointer (some ⟨p, 0, none⟩), .pointer (some ⟨q, 0, none⟩)] ++ ((Array.replicate 16 undef).setIfInBounds 3 .nilIface).setIfInBounds 0 .nilIface : Array Value) = #[(.pointer (some ⟨p, 0, none⟩)), (.pointer (some ⟨q, 0, none⟩)), .nilIface, undef, undef, .nilIface, undef, undef, undef, undef, undef, undef, undef, undef, undef, undef, undef, undef] := by simp [Array.replicate, Array.setIfInBounds]
  rw [ht]
  clear ht hu
  go_wp2
  refine ⟨rfl, .returning, ?_, _, results_none rfl _ _ _, rfl, rfl, rfl⟩
  rw [← Hu.out]

/-- The two results' variables lie as they were made. -/
structure Ev (w W : World) : Prop where
  n : W.heap[w.heap.size]? = some (.cells #[.int .i64 0] 2 (0, 0))
  e : W.heap[w.heap.size + 1]? = some (.cells #[.int .i64 0] 25 (0, 0))
  bel : Below w.heap.size w W
theorem Ev.grown {w W W' : World} {g : Nat} (h : Ev w W) (hg : W.grownBy W' (some g)) (hlt : w.heap.size + 1 < g) : Ev w W' :=
  ⟨(hg.block _ (blk_lt h.n) (by intro e; have := Option.some.inj e; omega)).trans h.n, (hg.block _ (blk_lt h.e) (by intro e; have := Option.some.inj e; omega)).trans h.e, h.bel.grown hg h.bel.size (by intro k hk; have := Option.some.inj hk; omega)⟩
theorem Ev.below {w W W' : World} (h : Ev w W) (hb : Below W.heap.size W W') : Ev w W' := ⟨blk_below h.n hb, blk_below h.e hb, below_then h.bel h.bel.size hb⟩
theorem ev_start (w : World) (s : ByteArray) (hg : GE w) :
    Ev w (((w.alloc (.cells #[.int .i64 0] 2)).alloc (.cells #[.int .i64 0] 25)).alloc (.cells #[.string s, .int .i64 0, .int .i64 0] 52)) ∧
    Rd (w.heap.size + 1 + 1) s 0 0 (((w.alloc (.cells #[.int .i64 0] 2)).alloc (.cells #[.int .i64 0] 25)).alloc (.cells #[.string s, .int .i64 0, .int .i64 0] 52)) (((w.alloc (.cells #[.int .i64 0] 2)).alloc (.cells #[.int .i64 0] 25)).alloc (.cells #[.string s, .int .i64 0, .int .i64 0] 52)) := by
  have k1 := blk_new (w.alloc (.cells #[.int .i64 0] 2)) (.cells #[.int .i64 0] 25)
  have k2 := blk_new ((w.alloc (.cells #[.int .i64 0] 2)).alloc (.cells #[.int .i64 0] 25)) (.cells #[.string s, .int .i64 0, .int .i64 0] 52)
  simp only [World.size_alloc] at k1 k2
  have hb : Below w.heap.size w (((w.alloc (.cells #[.int .i64 0] 2)).alloc (.cells #[.int .i64 0] 25)).alloc (.cells #[.string s, .int .i64 0, .int .i64 0] 52)) := below_alloc (below_alloc (below_alloc (Below.refl _ _) _) _) _
  exact ⟨⟨blk_alloc (blk_alloc (blk_new w _) _) _, blk_alloc k1 _, hb⟩, ⟨k2, World.grownBy.refl _ _, hg.below hb⟩⟩
theorem ev_set {w W : World} (h : Ev w W) (a b : Int) :
    ∃ W9, W9 = (W.setCell ⟨w.heap.size, 0, none⟩ (.int .i64 a)).setCell ⟨w.heap.size + 1, 0, none⟩ (.int .i64 b) ∧ W9.cell? ⟨w.heap.size, 0, none⟩ = some (.int .i64 a) ∧ W9.cell? ⟨w.heap.size + 1, 0, none⟩ = some (.int .i64 b) ∧ Below w.heap.size w W9 := by
  have k1 : (W.setCell ⟨w.heap.size, 0, none⟩ (.int .i64 a)).heap[w.heap.size]? = some (.cells #[.int .i64 a] 2 (0, 0)) := blk_put h.n 0 _ rfl
  have k2 : (W.setCell ⟨w.heap.size, 0, none⟩ (.int .i64 a)).heap[w.heap.size + 1]? = some (.cells #[.int .i64 0] 25 (0, 0)) := (Below.heap_setCell _ _ _ _ (by simp)).trans h.e
  have k3 := blk_put k2 0 (.int .i64 b) rfl
  have k4 := (Below.heap_setCell (W.setCell ⟨w.heap.size, 0, none⟩ (.int .i64 a)) ⟨w.heap.size + 1, 0, none⟩ (.int .i64 b) w.heap.size (by simp)).trans k1
  exact ⟨_, rfl, (blk_cell k4 0).trans rfl, (blk_cell k3 0).trans rfl, Below.setCell (p := ⟨w.heap.size + 1, 0, none⟩) (Below.setCell (p := ⟨w.heap.size, 0, none⟩) h.bel (Nat.le_refl _) (.int .i64 a)) (Nat.le_succ _) (.int .i64 b)⟩
theorem ev_caught {w W : World} (h : Ev w W) (x : Int) :
    ∃ W9, W9 = (((W.setCell ⟨w.heap.size, 0, none⟩ (.int .i64 0)).setCell ⟨w.heap.size + 1, 0, none⟩ (.int .i64 x)).alloc (.cells #[.int .i64 x] 48)).drew ∧ W9.cell? ⟨w.heap.size, 0, none⟩ = some (.int .i64 0) ∧ W9.cell? ⟨w.heap.size + 1, 0, none⟩ = some (.int .i64 x) ∧ Below w.heap.size w W9 := by
  obtain ⟨W9, hW, h1, h2, h3⟩ := ev_set h 0 x
  refine ⟨_, rfl, ?_⟩
  rw [← hW]
  exact ⟨(cell_later (below_drew (below_alloc (Below.refl _ _) _)) h1), (cell_later (below_drew (below_alloc (Below.refl _ _) _)) h2), below_drew (below_alloc h3 _)⟩
/-- The deferred call catches what was given up with. -/
theorem leave_caught {w W : World} (h : Ev w W) (x : Int) (tmps : Array Value) (ht : tmps.getD 4 undef = .pointer (some ⟨w.heap.size, 0, none⟩)) (ht2 : tmps.getD 5 undef = .pointer (some ⟨w.heap.size + 1, 0, none⟩)) :
    bodyPostD Tryd.prog Tryd.f13 (fun e w' => e = .returned (.tuple #[.int .i64 0, .int .i64 x]) ∧ Below w.heap.size w w') (Exit.panic [fault x])
      { tmps := tmps, defers := [{ target := Target.fn (Fn.func 23) #[.pointer (some ⟨w.heap.size, 0, none⟩), .pointer (some ⟨w.heap.size + 1, 0, none⟩)], args := #[] }] } W := by
  refine leaves_cons (f := 23) (args := #[.pointer (some ⟨w.heap.size, 0, none⟩), .pointer (some ⟨w.heap.size + 1, 0, none⟩)]) (by simp) (by simp [go_sem]) ?_
  refine (caught_yes w.heap.size (w.heap.size + 1) 0 0 x [] _ ((blk_cell h.n 0).trans rfl) ((blk_cell h.e 0).trans rfl) (blk_frozen h.n 0) (blk_frozen h.e 0) (by omega)).mono ?_
  rintro e u' w'' ⟨rfl, rfl, rfl⟩
  obtain ⟨W9, hW, h1, h2, h3⟩ := ev_caught h x
  rw [← hW]
  simp at ht ht2
  simp [Leaves, settle, fault, results, Tryd.results13, go_sem, ht, ht2, h1, h2, h3]
/-- The deferred call has nothing to catch. -/
theorem leave_ret {w W : World} (a b : Int) (h1 : W.cell? ⟨w.heap.size, 0, none⟩ = some (.int .i64 a)) (h2 : W.cell? ⟨w.heap.size + 1, 0, none⟩ = some (.int .i64 b)) (h3 : Below w.heap.size w W) (tmps : Array Value) (ht : tmps.getD 4 undef = .pointer (some ⟨w.heap.size, 0, none⟩)) (ht2 : tmps.getD 5 undef = .pointer (some ⟨w.heap.size + 1, 0, none⟩)) :
    bodyPostD Tryd.prog Tryd.f13 (fun e w' => e = .returned (.tuple #[.int .i64 a, .int .i64 b]) ∧ Below w.heap.size w w') Exit.ret
      { tmps := tmps, defers := [{ target := Target.fn (Fn.func 23) #[.pointer (some ⟨w.heap.size, 0, none⟩), .pointer (some ⟨w.heap.size + 1, 0, none⟩)], args := #[] }] } W := by
  refine leaves_cons (f := 23) (args := #[.pointer (some ⟨w.heap.size, 0, none⟩), .pointer (some ⟨w.heap.size + 1, 0, none⟩)]) (by simp) (by simp [go_sem]) ?_
  refine (caught_no w.heap.size (w.heap.size + 1) _).mono ?_
  rintro e u' w'' ⟨rfl, rfl, rfl⟩
  simp at ht ht2
  simp [Leaves, settle, fault, results, Tryd.results13, go_sem, ht, ht2, h1, h2, h3]
set_option maxHeartbeats 4000000 in
set_option maxRecDepth 100000 in
theorem eval_parse (k : Nat) (s : ByteArray) (A : Option Addr) (c : Nat) (l : Vars) (x : Int) (w : World) (hs : s.size ≤ 140737488355328) (hg : GE w) (hr : run s k (.lev 0) 0 0 = some (.error x)) :
    Calls Tryd.prog 13 #[.string s, .slice A l.length c] w fun e w' => e = .returned (.tuple #[.int .i64 0, .int .i64 x]) ∧ Below w.heap.size w w' := by
  have HR := Lib.hid hr; clear hr
  have HG := Lib.hid hg; clear hg
  have hmf : ∀ (fn : Fn) (first cap : Array Value) (w : World), (Instr.makeFunc fn first cap).run Tryd.prog w = .ok (.func fn first cap) w := fun _ _ _ _ => rfl
  go_enter_defers Tryd.func13, Tryd.ntmps13
  go_wp2_with fail
  obtain ⟨h1, h2⟩ := ev_start w s HG.out
  have HE := Aside0.mk h1
  have HRD := Aside0.mk h2
  clear h1 h2 hmf
  generalize ((w.alloc _).alloc _).alloc _ = W0 at HE HRD ⊢
  refine (level_calls s hs k (w.heap.size + 1 + 1) 0 0 0 W0 _ (by omega) (Nat.zero_le _) (by omega) HRD.out HR.out).mono ?_
  rintro e w1 ⟨rfl, hg1⟩
  have HE1 := Aside0.mk (HE.out.grown hg1 (by omega))
  clear hg1 HE HRD
  exact leave_caught HE1.out x _ rfl rfl

def MdOk : Md → Prop
  | .loop _ b => NodeOk b
  | _ => True
theorem name_pos {t : ByteArray} (h : nameB t = true) : 0 < t.size := by
  unfold nameB at h
  simp at h
  exact h.1.1
theorem run_ok (s : ByteArray) : ∀ (k : Nat) (md : Md) (p dp : Nat) (a : Node) (q : Nat), MdOk md → run s k md p dp = some (.ok (a, q)) → NodeOk a
  | 0, _, _, _, _, _, _, h => by simp [run] at h
  | k + 1, .lev n, p, dp, a, q, _, h => by
    simp only [run] at h
    by_cases h6 : n = 6
    · rw [if_pos h6] at h; exact run_ok s k .una p dp a q trivial h
    · rw [if_neg h6] at h
      cases hx : run s k (.lev (n + 1)) p dp with
      | none => rw [hx] at h; cases h
      | some r =>
        rw [hx] at h
        cases r with
        | error x => cases h
        | ok r => obtain ⟨b, q2⟩ := r; exact run_ok s k (.loop n b) q2 dp a q (run_ok s k _ _ _ b q2 (by trivial) hx) h
  | k + 1, .loop n b, p, dp, a, q, hb, h => by
    simp only [run] at h
    cases hf : find1 Bop.str s (sk s p) (opsOf n) with
    | none => rw [hf] at h; obtain ⟨rfl, rfl⟩ := Prod.mk.inj (Except.ok.inj (Option.some.inj h)); exact hb
    | some o =>
      rw [hf] at h
      dsimp only at h
      cases hx : run s k (.lev (n + 1)) (sk s p + o.str.size) dp with
      | none => rw [hx] at h; cases h
      | some r =>
        rw [hx] at h
        cases r with
        | error x => cases h
        | ok r => obtain ⟨d, q2⟩ := r; exact run_ok s k (.loop n (.bin o b d)) q2 dp a q ⟨hb, run_ok s k _ _ _ d q2 (by trivial) hx⟩ h
  | k + 1, .una, p, dp, a, q, _, h => by
    simp only [run] at h
    cases hf : find1 Uop.str s (sk s p) uops with
    | some u =>
      rw [hf] at h
      dsimp only at h
      by_cases h30 : 30 ≤ dp
      · rw [if_pos h30] at h; cases h
      · rw [if_neg h30] at h
        cases hx : run s k .una (sk s p + 1) (dp + 1) with
        | none => rw [hx] at h; cases h
        | some r =>
          rw [hx] at h
          cases r with
          | error x => cases h
          | ok r => obtain ⟨d, q2⟩ := r; obtain ⟨rfl, rfl⟩ := Prod.mk.inj (Except.ok.inj (Option.some.inj h)); exact run_ok s k _ _ _ d _ (by trivial) hx
    | none =>
      rw [hf] at h
      dsimp only at h
      by_cases hl : hasAt s (sk s p) lpar = true
      · rw [if_pos hl] at h
        by_cases h30 : 30 ≤ dp
        · rw [if_pos h30] at h; cases h
        · rw [if_neg h30] at h
          cases hx : run s k (.lev 0) (sk s p + 1) (dp + 1) with
          | none => rw [hx] at h; cases h
          | some r =>
            rw [hx] at h
            cases r with
            | error x => cases h
            | ok r =>
              obtain ⟨d, q2⟩ := r
              dsimp only at h
              split at h
              · obtain ⟨rfl, rfl⟩ := Prod.mk.inj (Except.ok.inj (Option.some.inj h)); exact run_ok s k _ _ _ d q2 (by trivial) hx
              · cases h
      · rw [if_neg hl] at h
        by_cases hn : nameB (s.extract (sk s p) (wordEnd s (sk s p))) = true
        · rw [if_pos hn] at h; obtain ⟨rfl, rfl⟩ := Prod.mk.inj (Except.ok.inj (Option.some.inj h)); exact name_pos hn
        · rw [if_neg hn] at h
          split at h
          · obtain ⟨rfl, rfl⟩ := Prod.mk.inj (Except.ok.inj (Option.some.inj h)); exact whole_I64 _
          · cases h

set_option maxHeartbeats 4000000 in
set_option maxRecDepth 100000 in
theorem eval_rest (k : Nat) (s : ByteArray) (A : Option Addr) (c : Nat) (l : Vars) (nd : Node) (q : Nat) (w : World) (hs : s.size ≤ 140737488355328) (hg : GE w) (hv : Kd.C k39 w A l.length l) (hl : l.length ≤ 140737488355328) (hf : Fit l) (hr : run s k (.lev 0) 0 0 = some (.ok (nd, q))) (n e : Int)
    (hne : (if sk s q < s.size then some (0, 9) else match valueV l nd with | .ok n => some (n, 0) | .error e => some (0, e)) = some (n, e)) :
    Calls Tryd.prog 13 #[.string s, .slice A l.length c] w fun x w' => x = .returned (.tuple #[.int .i64 n, .int .i64 e]) ∧ Below w.heap.size w w' := by
  have HNE := Lib.hid hne; clear hne
  have HVC := Lib.hid (value_calls A c l hl hf nd (run_ok s k _ _ _ nd q (by trivial) hr))
  have HV := Lib.hid hv; clear hv
  have HR := Lib.hid hr; clear hr
  have HG := Lib.hid hg; clear hg
  have hmf : ∀ (fn : Fn) (first cap : Array Value) (w : World), (Instr.makeFunc fn first cap).run Tryd.prog w = .ok (.func fn first cap) w := fun _ _ _ _ => rfl
  go_enter_defers Tryd.func13, Tryd.ntmps13
  go_wp2_with fail
  obtain ⟨h1, h2⟩ := ev_start w s HG.out
  have HE := Aside0.mk h1
  have HRD := Aside0.mk h2
  clear h1 h2 hmf
  generalize ((w.alloc _).alloc _).alloc _ = W0 at HE HRD ⊢
  refine (level_calls s hs k (w.heap.size + 1 + 1) 0 0 0 W0 _ (by omega) (Nat.zero_le _) (by omega) HRD.out HR.out).mono ?_
  rintro e1 w1 ⟨v, rfl, hn, hr1, hq⟩
  obtain ⟨ym, yA, yn, yc, yi, yt, rfl⟩ := hn.form
  have HE1 := Aside0.mk ((HE.out.grown hr1.grw (by omega)).below (below_alloc (Below.refl w1.heap.size w1) (.cells #[.string ym, .slice yA yn yc, .int .i64 yi, .string yt] 55)))
  have HR1 := Aside0.mk (hr1.alloc (.cells #[.string ym, .slice yA yn yc, .int .i64 yi, .string yt] 55))
  have HB1 := Aside0.mk (blk_new w1 (.cells #[.string ym, .slice yA yn yc, .int .i64 yi, .string yt] 55))
  have HN1 := Aside0.mk (hn.step (W' := w1.alloc (.cells #[.string ym, .slice yA yn yc, .int .i64 yi, .string yt] 55)) (ok' := fun b => W0.heap.size ≤ b) fun b hb hlt => ⟨hb, Below.heap_alloc _ _ b hlt⟩)
  have HQ := Aside0.mk hq
  have HLT := Aside0.mk (blk_lt HRD.out.blk)
  have HW1 := Aside0.mk hr1.grw.size
  clear hn hr1 hq HE HRD
  go_wp2_with fail
  generalize w1.alloc _ = W2 at HE1 HR1 HB1 HN1 ⊢
  generalize w1.heap.size = ab at HB1 HW1 ⊢
  refine (blanks_calls (w.heap.size + 1 + 1) s q 0 W2 hs HQ.out HR1.out.self).mono ?_
  rintro e2 w3 ⟨rfl, h3⟩
  have HK := Aside0.mk fun k (hk : k ≠ w.heap.size + 1 + 1) (hlt : k < W2.heap.size) => h3.grw.block k hlt (fun e => hk (Option.some.inj e))
  have HE3 := Aside0.mk (HE1.out.grown h3.grw (by omega))
  have HR3 := Aside0.mk h3
  have HB3 := Aside0.mk ((HK.out ab (by have := HW1.out; have := HLT.out; omega) (blk_lt HB1.out)).trans HB1.out)
  have HN3 := Aside0.mk (HN1.out.step (ok' := fun b => W0.heap.size ≤ b) fun b hb hlt => ⟨hb, HK.out b (by have := HLT.out; omega) hlt⟩)
  clear h3 HE1 HR1 HB1 HN1 HK
  have hsq := sk_le s q HQ.out
  have c1 := HR3.out.at_
  have c0 := HR3.out.str
  have n0 := (blk_cell HE3.out.n 0).trans rfl
  have n1 := (blk_cell HE3.out.e 0).trans rfl
  have fn0 := blk_frozen HE3.out.n 0
  have fn1 := blk_frozen HE3.out.e 0
  by_cases hlt : sk s q < s.size
  · have hd : decide ((sk s q : Int) < (s.size : Int)) = true := decide_eq_true (by omega)
    have h2 := HNE.out
    rw [if_pos hlt] at h2
    obtain ⟨rfl, rfl⟩ := Prod.mk.inj (Option.some.inj h2)
    clear h2
    go_wp2_with fail
    obtain ⟨W9, hW, h1, h2, h3⟩ := ev_set HE3.out 0 9
    rw [← hW]
    exact leave_ret 0 9 h1 h2 h3 _ rfl rfl
  · have hd : decide ((sk s q : Int) < (s.size : Int)) = false := decide_eq_false (by omega)
    have h2 := HNE.out
    rw [if_neg hlt] at h2
    have HH2 := Aside0.mk h2
    clear h2
    obtain ⟨d0, d1, d2, d3, _, _, _, _⟩ := four_cells HB3.out
    go_wp2_with fail
    refine (HVC.out w3 _ _ HN3.out (Kd.C_below HV.out HE3.out.bel) HR3.out.ge).mono ?_
    have h2 := HH2.out
    cases hvv : valueV l nd with
    | error x =>
      rw [hvv] at h2
      obtain ⟨rfl, rfl⟩ := Prod.mk.inj (Option.some.inj h2)
      rintro e4 w4 ⟨rfl, hb4⟩
      exact leave_caught (HE3.out.below hb4) x _ rfl rfl
    | ok v =>
      rw [hvv] at h2
      obtain ⟨rfl, rfl⟩ := Prod.mk.inj (Option.some.inj h2)
      rintro e4 w4 ⟨rfl, hb4⟩
      have HE4 := Aside0.mk (HE3.out.below hb4)
      clear hb4 h2 c1 c0 n0 n1 fn0 fn1 d0 d1 d2 d3 hvv
      have n0 := (blk_cell HE4.out.n 0).trans rfl
      have n1 := (blk_cell HE4.out.e 0).trans rfl
      have fn0 := blk_frozen HE4.out.n 0
      have fn1 := blk_frozen HE4.out.e 0
      go_wp2_with fail
      obtain ⟨W9, hW, h1, h2, h3⟩ := ev_set HE4.out v 0
      rw [← hW]
      exact leave_ret v 0 h1 h2 h3 _ rfl rfl
/-- arith.Eval comes to evalV. -/
theorem eval_calls (k : Nat) (s : ByteArray) (A : Option Addr) (c : Nat) (l : Vars) (w : World) (hs : s.size ≤ 140737488355328) (hg : GE w) (hv : Kd.C k39 w A l.length l) (hl : l.length ≤ 140737488355328) (hf : Fit l) (n e : Int) (h : evalV k s l = some (n, e)) :
    Calls Tryd.prog 13 #[.string s, .slice A l.length c] w fun x w' => x = .returned (.tuple #[.int .i64 n, .int .i64 e]) ∧ Below w.heap.size w w' := by
  unfold evalV at h
  cases hr : run s k (.lev 0) 0 0 with
  | none => rw [hr] at h; cases h
  | some r =>
    rw [hr] at h
    cases r with
    | error x =>
      obtain ⟨rfl, rfl⟩ := Prod.mk.inj (Option.some.inj h)
      exact eval_parse k s A c l x w hs hg hr
    | ok r =>
      obtain ⟨nd, q⟩ := r
      exact eval_rest k s A c l nd q w hs hg hv hl hf hr n e h
end Go.Proofs.YtambnodgfhlpfaaDoor.A
