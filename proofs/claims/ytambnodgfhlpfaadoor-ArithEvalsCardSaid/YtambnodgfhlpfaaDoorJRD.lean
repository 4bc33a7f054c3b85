/- Package arith: where a node lies in memory; level, walked, over what unary and the deeper levels do. -/
import Derived.Test.YtambnodgfhlpfaaDoorJRC
import Derived.Deep.RegionHeld3
set_option linter.unusedVariables false
set_option linter.unusedSimpArgs false
namespace Go.Proofs.YtambnodgfhlpfaaDoor.A
open Go.RowKit Go.Proofs.YtambnodgfhlpfaaDoorW.PrintWords Go.Proofs.YtambnodgfhlpfaaDoorW.PrintLast Go.Proofs.YtambnodgfhlpfaaDoor.G

/-- The value v is that node; the rows of its kids are in blocks that are ok. -/
def NodeAt (W : World) (ok : Nat → Prop) : Node → Value → Prop
  | .num n, v => v = .agg #[.string ⟨#[]⟩, .slice none 0 0, .int .i64 n, .string ⟨#[]⟩]
  | .name t, v => v = .agg #[.string ⟨#[]⟩, .slice none 0 0, .int .i64 0, .string t]
  | .un m a, v => ∃ (b : Nat) (x0 x1 x2 x3 : Value), v = .agg #[.string m.str, .slice (some ⟨b, 0, none⟩) 1 1, .int .i64 0, .string ⟨#[]⟩] ∧ ok b ∧ W.heap[b]? = some (.cells #[x0, x1, x2, x3] 55 (0, 0)) ∧ NodeAt W ok a (.agg #[x0, x1, x2, x3])
  | .bin m a c, v => ∃ (b : Nat) (x0 x1 x2 x3 y0 y1 y2 y3 : Value), v = .agg #[.string m.str, .slice (some ⟨b, 0, none⟩) 2 2, .int .i64 0, .string ⟨#[]⟩] ∧ ok b ∧ W.heap[b]? = some (.cells #[x0, x1, x2, x3, y0, y1, y2, y3] 55 (0, 0)) ∧
      NodeAt W ok a (.agg #[x0, x1, x2, x3]) ∧ NodeAt W ok c (.agg #[y0, y1, y2, y3])
theorem NodeAt.bound {W : World} {ok : Nat → Prop} : ∀ {nd : Node} {v : Value}, NodeAt W ok nd v → NodeAt W (fun b => ok b ∧ b < W.heap.size) nd v
  | .num n, v, h => h
  | .name t, v, h => h
  | .un m a, v, ⟨b, x0, x1, x2, x3, h1, h2, h3, h4⟩ => ⟨b, x0, x1, x2, x3, h1, ⟨h2, blk_lt h3⟩, h3, h4.bound⟩
  | .bin m a c, v, ⟨b, x0, x1, x2, x3, y0, y1, y2, y3, h1, h2, h3, h4, h5⟩ => ⟨b, x0, x1, x2, x3, y0, y1, y2, y3, h1, ⟨h2, blk_lt h3⟩, h3, h4.bound, h5.bound⟩
theorem NodeAt.keep {W W' : World} {ok ok' : Nat → Prop} (hk : ∀ b, ok b → ok' b ∧ W'.heap[b]? = W.heap[b]?) : ∀ {nd : Node} {v : Value}, NodeAt W ok nd v → NodeAt W' ok' nd v
  | .num n, v, h => h
  | .name t, v, h => h
  | .un m a, v, ⟨b, x0, x1, x2, x3, h1, h2, h3, h4⟩ => ⟨b, x0, x1, x2, x3, h1, (hk b h2).1, (hk b h2).2.trans h3, h4.keep hk⟩
  | .bin m a c, v, ⟨b, x0, x1, x2, x3, y0, y1, y2, y3, h1, h2, h3, h4, h5⟩ => ⟨b, x0, x1, x2, x3, y0, y1, y2, y3, h1, (hk b h2).1, (hk b h2).2.trans h3, h4.keep hk, h5.keep hk⟩
/-- What is ok, and lies in W, is ok and as it was in W'. -/
theorem NodeAt.step {W W' : World} {ok ok' : Nat → Prop} {nd : Node} {v : Value} (h : NodeAt W ok nd v) (hk : ∀ b, ok b → b < W.heap.size → ok' b ∧ W'.heap[b]? = W.heap[b]?) : NodeAt W' ok' nd v :=
  h.bound.keep fun b hb => hk b hb.1 hb.2
theorem NodeAt.form {W : World} {ok : Nat → Prop} {nd : Node} {v : Value} (h : NodeAt W ok nd v) : ∃ (m : ByteArray) (A : Option Addr) (n c : Nat) (i : Int) (t : ByteArray), v = .agg #[.string m, .slice A n c, .int .i64 i, .string t] := by
  cases nd with
  | num n => exact ⟨_, _, _, _, _, _, h⟩
  | name t => exact ⟨_, _, _, _, _, _, h⟩
  | un m a => obtain ⟨b, _, _, _, _, h1, _⟩ := h; exact ⟨_, _, _, _, _, _, h1⟩
  | bin m a c => obtain ⟨b, _, _, _, _, _, _, _, _, h1, _⟩ := h; exact ⟨_, _, _, _, _, _, h1⟩

/-- A node has been laid into its variable; nothing else has changed. -/
structure Put (W : World) (b : Nat) (cs : Array Value) (W' : World) : Prop where
  blk : W'.heap[b]? = some (.cells cs 55 (0, 0))
  oth : ∀ k, k ≠ b → W'.heap[k]? = W.heap[k]?
  old : ∃ cs0, W.heap[b]? = some (.cells cs0 55 (0, 0)) ∧ cs0.size = 4
  size : W'.heap.size = W.heap.size
  os : W'.os = W.os
  tape : W'.tape = W.tape
  output : W'.output = W.output
theorem put4 {W : World} {b : Nat} {y0 y1 y2 y3 : Value} (h : W.heap[b]? = some (.cells #[y0, y1, y2, y3] 55 (0, 0))) (x0 x1 x2 x3 : Value) :
    Put W b #[x0, x1, x2, x3] ((((W.setCell ⟨b, 0, none⟩ x0).setCell ⟨b, 1, none⟩ x1).setCell ⟨b, 2, none⟩ x2).setCell ⟨b, 3, none⟩ x3) where
  blk := blk_put (blk_put (blk_put (blk_put h 0 x0 rfl) 1 x1 rfl) 2 x2 rfl) 3 x3 rfl
  oth := fun k hk => (Below.heap_setCell _ _ _ k hk).trans ((Below.heap_setCell _ _ _ k hk).trans ((Below.heap_setCell _ _ _ k hk).trans (Below.heap_setCell _ _ _ k hk)))
  old := ⟨_, h, rfl⟩
  size := by simp
  os := rfl
  tape := rfl
  output := rfl
theorem Rd.put {g : Nat} {s : ByteArray} {p d : Nat} {w W W' : World} {b : Nat} {cs : Array Value} (h : Rd g s p d w W) (hp : Put W b cs W') (hb : w.heap.size ≤ b) (hg : g ≠ b) : Rd g s p d w W' :=
  by
  refine ⟨(hp.oth g hg).trans h.blk, ⟨hp.os.trans h.grw.os, hp.tape.trans h.grw.tape, hp.output.trans h.grw.output, by rw [hp.size]; exact h.grw.size, fun k hk hne => (hp.oth k (by omega)).trans (h.grw.block k hk hne)⟩, ge_keep h.ge fun k cs' t fr hc _ h4 => hp.oth k ?_⟩
  rintro rfl
  obtain ⟨cs0, ho, hs⟩ := hp.old
  rw [ho] at hc
  injection hc with hc
  injection hc with hc _ _
  subst hc
  exact h4 hs
theorem results24 : Tryd.f24.results = #[.cell 4 55] := by kernel_rfl

/-- What a reading function comes to. -/
def Out (g : Nat) (s : ByteArray) (d : Nat) (w : World) (r : Res) (e : Ending) (w' : World) : Prop :=
  match r with
  | .error x => e = .panicked [fault x] ∧ w.grownBy w' (some g)
  | .ok (nd, q) => ∃ v, e = .returned v ∧ NodeAt w' (fun b => w.heap.size ≤ b) nd v ∧ Rd g s q d w w' ∧ q ≤ s.size
def LevC (s : ByteArray) (k : Nat) : Prop := ∀ (g n p d : Nat) (w : World) (r : Res), n ≤ 6 → p ≤ s.size → d ≤ 30 → Rd g s p d w w → run s k (.lev n) p d = some r →
  Calls Tryd.prog 24 #[.pointer (some ⟨g, 0, none⟩), .int .i64 n] w (Out g s d w r)
def UnaC (s : ByteArray) (k : Nat) : Prop := ∀ (g p d : Nat) (w : World) (r : Res), p ≤ s.size → d ≤ 30 → Rd g s p d w w → run s k .una p d = some r →
  Calls Tryd.prog 36 #[.pointer (some ⟨g, 0, none⟩)] w (Out g s d w r)

set_option maxHeartbeats 4000000 in
set_option maxRecDepth 100000 in
theorem level_six (s : ByteArray) (hs : s.size ≤ 140737488355328) (k : Nat) (hU : UnaC s k) (g p d : Nat) (w : World) (r : Res) (hp : p ≤ s.size) (hd : d ≤ 30) (h : Rd g s p d w w) (hr : run s k .una p d = some r) :
    Calls Tryd.prog 24 #[.pointer (some ⟨g, 0, none⟩), .int .i64 6] w (Out g s d w r) := by
  have H0 := Lib.hid h; clear h
  have HU := Lib.hid hU; clear hU
  have HR := Lib.hid hr; clear hr
  go_enter Tryd.func24, Tryd.ntmps24
  go_wp2_with (go_at_call 35; refine (levels_calls _).mono ?_; rintro e w1 ⟨B, rfl, hlv, hB, hb⟩)
  have HX := Aside0.mk ((((H0.out.alloc _).below hb).alloc (.cells #[.slice (some ⟨B, 0, none⟩) 1 1, .slice (some ⟨B + 1, 0, none⟩) 1 1, .slice (some ⟨B + 2, 0, none⟩) 2 2, .slice (some ⟨B + 3, 0, none⟩) 4 4, .slice (some ⟨B + 4, 0, none⟩) 2 2, .slice (some ⟨B + 5, 0, none⟩) 3 3] 70)))
  have HBX := Aside0.mk (blk_alloc (blk_below (blk_new w (.cells #[.string ⟨#[]⟩, .slice none 0 0, .int .i64 0, .string ⟨#[]⟩] 55)) hb) (.cells #[.slice (some ⟨B, 0, none⟩) 1 1, .slice (some ⟨B + 1, 0, none⟩) 1 1, .slice (some ⟨B + 2, 0, none⟩) 2 2, .slice (some ⟨B + 3, 0, none⟩) 4 4, .slice (some ⟨B + 4, 0, none⟩) 2 2, .slice (some ⟨B + 5, 0, none⟩) 3 3] 70))
  clear hlv hB hb
  generalize hX : w1.alloc _ = X at HX HBX ⊢
  clear hX
  refine (HU.out g p d _ r hp hd HX.out.self HR.out).mono ?_
  cases r with
  | error x =>
    rintro e w2 ⟨rfl, hg⟩
    exact ⟨rfl, rfl, HX.out.grw.trans hg⟩
  | ok r =>
    obtain ⟨nd, q⟩ := r
    rintro e w2 ⟨v, rfl, hn, hr2, hq⟩
    obtain ⟨xm, xA, xn, xc, xi, xt, rfl⟩ := hn.form
    have hb2 := hr2.grw.block w.heap.size (blk_lt HBX.out) (by have := blk_lt H0.out.blk; intro e; have := Option.some.inj e; omega)
    rw [HBX.out] at hb2
    have HN := Aside0.mk hn
    have HR2 := Aside0.mk (HX.out.trans hr2)
    have HB2 := Aside0.mk hb2
    have HQ := Aside0.mk hq
    clear hn hr2 hb2 hq HU HR
    have c0 := blk_cell HB2.out 0
    have c1 := blk_cell HB2.out 1
    have c2 := blk_cell HB2.out 2
    have c3 := blk_cell HB2.out 3
    have f0 := blk_frozen HB2.out 0
    have f1 := blk_frozen HB2.out 1
    have f2 := blk_frozen HB2.out 2
    have f3 := blk_frozen HB2.out 3
    go_wp2_with fail
    have hP := put4 HB2.out (.string xm) (.slice xA xn xc) (.int .i64 xi) (.string xt)
    have hgl := blk_lt H0.out.blk
    have hlt := blk_lt HBX.out
    exact bodyPost_ret (results_cell_row results24 _ _ w.heap.size 55 _ (0, 0) _ rfl hP.blk Tryd.underlying55 rfl info55s) rfl
      ⟨_, rfl, HN.out.step (fun b hb _ => ⟨by have := HX.out.grw.size; omega, hP.oth b (by omega)⟩), HR2.out.put hP (Nat.le_refl _) (by omega), HQ.out⟩
end Go.Proofs.YtambnodgfhlpfaaDoor.A
