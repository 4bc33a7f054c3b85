/- Package arith: level, walked, where there are deeper levels. -/
import Derived.Test.YtambnodgfhlpfaaDoorJRD
import Derived.Deep.RegionWith
import Derived.Laws.NewBlocks
set_option linter.unusedVariables false
set_option linter.unusedSimpArgs false
namespace Go.Proofs.YtambnodgfhlpfaaDoor.A
open Go.RowKit Go.Proofs.YtambnodgfhlpfaaDoorW.PrintWords Go.Proofs.YtambnodgfhlpfaaDoorW.PrintLast Go.Proofs.YtambnodgfhlpfaaDoor.G

theorem str_ne (o : Bop) : ¬ o.str.toList = [] := by rw [ByteArray.toList_eq]; cases o <;> simp [Bop.str]
section
variable (g : Nat) (s : ByteArray) (p d : Nat) (w : World) (hs : s.size ≤ 140737488355328) (hp : p ≤ s.size) (h : Rd g s p d w w) (b : Nat)
include hs hp h
theorem takes_none {α : Type} (f : α → ByteArray) (l : List α) (hl : l.length ≤ 1000) (hb : w.heap[b]? = some (.cells ((l.map f).map Value.string).toArray 9 (0, 0))) (hne : b ≠ g) (hf : find1 f s (sk s p) l = none) :
    Calls Tryd.prog 37 #[.pointer (some ⟨g, 0, none⟩), .slice (some ⟨b, 0, none⟩) (l.map f).length (l.map f).length] w fun e w' => e = .returned (.string ⟨#[]⟩) ∧ Rd g s (sk s p) d w w' := by
  have := takes_calls g s p d w hs hp h b (l.map f) hb hne (by simpa using hl)
  rw [mark_find, hf] at this
  exact this
theorem takes_some {α : Type} (f : α → ByteArray) (l : List α) (o : α) (hl : l.length ≤ 1000) (hb : w.heap[b]? = some (.cells ((l.map f).map Value.string).toArray 9 (0, 0))) (hne : b ≠ g) (hf : find1 f s (sk s p) l = some o) :
    Calls Tryd.prog 37 #[.pointer (some ⟨g, 0, none⟩), .slice (some ⟨b, 0, none⟩) (l.map f).length (l.map f).length] w fun e w' => e = .returned (.string (f o)) ∧ Rd g s (sk s p + (f o).size) d w w' := by
  have := takes_calls g s p d w hs hp h b (l.map f) hb hne (by simpa using hl)
  rw [mark_find, hf] at this
  exact this
end
theorem find1_has {α : Type} {f : α → ByteArray} {s : ByteArray} {p : Nat} {l : List α} {o : α} (h : find1 f s p l = some o) : hasAt s p (f o) = true := by
  induction l with
  | nil => cases h
  | cons m r ih =>
    rw [find1] at h
    split at h
    · rename_i hm; obtain rfl := Option.some.inj h; exact hm
    · exact ih h

theorem four_cells {W : World} {b : Nat} {x0 x1 x2 x3 : Value} (h : W.heap[b]? = some (.cells #[x0, x1, x2, x3] 55 (0, 0))) :
    W.cell? ⟨b, 0, none⟩ = some x0 ∧ W.cell? ⟨b, 1, none⟩ = some x1 ∧ W.cell? ⟨b, 2, none⟩ = some x2 ∧ W.cell? ⟨b, 3, none⟩ = some x3 ∧
    W.frozen? ⟨b, 0, none⟩ = false ∧ W.frozen? ⟨b, 1, none⟩ = false ∧ W.frozen? ⟨b, 2, none⟩ = false ∧ W.frozen? ⟨b, 3, none⟩ = false :=
  ⟨(blk_cell h 0).trans rfl, (blk_cell h 1).trans rfl, (blk_cell h 2).trans rfl, (blk_cell h 3).trans rfl, blk_frozen h 0, blk_frozen h 1, blk_frozen h 2, blk_frozen h 3⟩
/-- What lies in memory at a round's head: the reader; the node so far, in its variable ab; the result's variable, the marks in theirs. -/
structure Lp (g : Nat) (s : ByteArray) (d : Nat) (w : World) (ab mb B : Nat) (a : Node) (q : Nat) (W : World) (m : ByteArray) (A : Option Addr) (n c : Nat) (i : Int) (t : ByteArray) : Prop where
  rd : Rd g s q d w W
  le : q ≤ s.size
  var : W.heap[ab]? = some (.cells #[.string m, .slice A n c, .int .i64 i, .string t] 55 (0, 0))
  nd : NodeAt W (fun b => w.heap.size < b ∧ b ≠ ab) a (.agg #[.string m, .slice A n c, .int .i64 i, .string t])
  res : W.heap[w.heap.size]? = some (.cells #[.string ⟨#[]⟩, .slice none 0 0, .int .i64 0, .string ⟨#[]⟩] 55 (0, 0))
  mrk : W.heap[mb]? = some (.cells #[.slice (some ⟨B, 0, none⟩) 1 1, .slice (some ⟨B + 1, 0, none⟩) 1 1, .slice (some ⟨B + 2, 0, none⟩) 2 2, .slice (some ⟨B + 3, 0, none⟩) 4 4, .slice (some ⟨B + 4, 0, none⟩) 2 2, .slice (some ⟨B + 5, 0, none⟩) 3 3] 70 (0, 0))
  row : LvAt W B
/-- What stays, all through the call. -/
structure Lc (g : Nat) (w : World) (ab mb B : Nat) : Prop where
  hg : g < w.heap.size
  hab : w.heap.size < ab
  hB : w.heap.size < B
  hmb : w.heap.size < mb
  hbm : mb < ab
  hbb : B + 5 < ab
theorem Lp.move {g : Nat} {s : ByteArray} {d : Nat} {w : World} {ab mb B : Nat} {a : Node} {q q' : Nat} {W W' : World} {m : ByteArray} {A : Option Addr} {n c : Nat} {i : Int} {t : ByteArray}
    (hc : Lc g w ab mb B) (h : Lp g s d w ab mb B a q W m A n c i t) (hr : Rd g s q' d W W') (hq : q' ≤ s.size) : Lp g s d w ab mb B a q' W' m A n c i t :=
  have hk : ∀ k, k ≠ g → k < W.heap.size → W'.heap[k]? = W.heap[k]? := fun k hk hlt => hr.grw.block k hlt (fun e => hk (Option.some.inj e))
  have := hc.hg
  have := hc.hab
  have := hc.hB
  have := hc.hmb
  { rd := h.rd.trans hr
    le := hq
    var := (hk ab (by omega) (blk_lt h.var)).trans h.var
    nd := h.nd.step fun b hb hlt => ⟨hb, hk b (by omega) hlt⟩
    res := (hk _ (by omega) (blk_lt h.res)).trans h.res
    mrk := (hk mb (by omega) (blk_lt h.mrk)).trans h.mrk
    row := h.row.keep fun k hB hlt => hk k (by omega) hlt }

theorem Lp.drew {g : Nat} {s : ByteArray} {d : Nat} {w : World} {ab mb B : Nat} {a : Node} {q : Nat} {W : World} {m : ByteArray} {A : Option Addr} {n c : Nat} {i : Int} {t : ByteArray}
    (h : Lp g s d w ab mb B a q W m A n c i t) : Lp g s d w ab mb B a q W.drew m A n c i t :=
  ⟨h.rd.drew, h.le, h.var, h.nd.step fun b hb _ => ⟨hb, rfl⟩, h.res, h.mrk, h.row⟩
theorem Lp.push {g : Nat} {s : ByteArray} {d : Nat} {w : World} {ab mb B : Nat} {a1 c : Node} {q3 : Nat} {W : World} {ym zm : ByteArray} {yA zA : Option Addr} {yn yc zn zc : Nat} {yi zi : Int} {yt zt : ByteArray} {lo : Nat} {o : Bop} {os : ByteArray} (ho : o.str = os)
    (hc : Lc g w ab mb B) (h : Lp g s d w ab mb B a1 q3 W ym yA yn yc yi yt) (hlo : ab < lo) (hn : NodeAt W (fun b => lo ≤ b) c (.agg #[.string zm, .slice zA zn zc, .int .i64 zi, .string zt])) :
    Lp g s d w ab mb B (.bin o a1 c) q3 (((((W.setCell ⟨ab, 0, none⟩ (.string os)).setCell ⟨ab, 1, none⟩ (.slice (some ⟨W.heap.size, 0, none⟩) 2 2)).setCell ⟨ab, 2, none⟩ (.int .i64 0)).setCell ⟨ab, 3, none⟩ (.string ⟨#[]⟩)).alloc
      (.cells #[.string ym, .slice yA yn yc, .int .i64 yi, .string yt, .string zm, .slice zA zn zc, .int .i64 zi, .string zt] 55)) os (some ⟨W.heap.size, 0, none⟩) 2 2 0 ⟨#[]⟩ := by
  have hP := put4 h.var (.string os) (.slice (some ⟨W.heap.size, 0, none⟩) 2 2) (.int .i64 0) (.string ⟨#[]⟩)
  have hvl := blk_lt h.var
  have k1 := hc.hg
  have k2 := hc.hab
  have k3 := hc.hmb
  have k4 := hc.hB
  have k5 := hc.hbm
  have k6 := hc.hbb
  have hn0 := blk_new ((((W.setCell ⟨ab, 0, none⟩ (.string os)).setCell ⟨ab, 1, none⟩ (.slice (some ⟨W.heap.size, 0, none⟩) 2 2)).setCell ⟨ab, 2, none⟩ (.int .i64 0)).setCell ⟨ab, 3, none⟩ (.string ⟨#[]⟩)) (.cells #[.string ym, .slice yA yn yc, .int .i64 yi, .string yt, .string zm, .slice zA zn zc, .int .i64 zi, .string zt] 55)
  rw [hP.size] at hn0
  have ha : ∀ k, k < W.heap.size → ∀ o', ((((((W.setCell ⟨ab, 0, none⟩ (.string os)).setCell ⟨ab, 1, none⟩ (.slice (some ⟨W.heap.size, 0, none⟩) 2 2)).setCell ⟨ab, 2, none⟩ (.int .i64 0)).setCell ⟨ab, 3, none⟩ (.string ⟨#[]⟩)).alloc o').heap[k]?) = ((((W.setCell ⟨ab, 0, none⟩ (.string os)).setCell ⟨ab, 1, none⟩ (.slice (some ⟨W.heap.size, 0, none⟩) 2 2)).setCell ⟨ab, 2, none⟩ (.int .i64 0)).setCell ⟨ab, 3, none⟩ (.string ⟨#[]⟩)).heap[k]? :=
    fun k hk o' => Below.heap_alloc _ _ k (by rw [hP.size]; exact hk)
  generalize ((((W.setCell ⟨ab, 0, none⟩ (.string os)).setCell ⟨ab, 1, none⟩ (.slice (some ⟨W.heap.size, 0, none⟩) 2 2)).setCell ⟨ab, 2, none⟩ (.int .i64 0)).setCell ⟨ab, 3, none⟩ (.string ⟨#[]⟩)) = W' at hP ha hn0 ⊢
  have hrd := (h.rd.put hP (by omega) (by omega)).alloc (.cells #[.string ym, .slice yA yn yc, .int .i64 yi, .string yt, .string zm, .slice zA zn zc, .int .i64 zi, .string zt] 55)
  refine ⟨hrd, h.le, (ha ab hvl _).trans hP.blk, ?_, (ha _ (blk_lt h.res) _).trans ((hP.oth _ (by omega)).trans h.res), (ha _ (blk_lt h.mrk) _).trans ((hP.oth _ (by omega)).trans h.mrk), fun n hn => (ha _ (blk_lt (h.row n hn)) _).trans ((hP.oth _ (by omega)).trans (h.row n hn))⟩
  · refine ⟨W.heap.size, _, _, _, _, _, _, _, _, by rw [ho], ⟨by omega, by omega⟩, hn0, h.nd.step fun b hb hlt => ⟨hb, ?_⟩, hn.step fun b hb hlt => ⟨⟨by omega, by omega⟩, ?_⟩⟩
    · rw [ha b hlt]; exact hP.oth b hb.2
    · rw [ha b hlt]; exact hP.oth b (by omega)

set_option maxHeartbeats 4000000 in
set_option maxRecDepth 100000 in
theorem level_err (s : ByteArray) (hs : s.size ≤ 140737488355328) (k : Nat) (hL : LevC s k) (g n p d : Nat) (w : World) (x : Int) (hn : n < 6) (hp : p ≤ s.size) (hd : d ≤ 30) (h : Rd g s p d w w) (hr : run s k (.lev (n + 1)) p d = some (.error x)) :
    Calls Tryd.prog 24 #[.pointer (some ⟨g, 0, none⟩), .int .i64 n] w (Out g s d w (.error x)) := by
  have H0 := Lib.hid h; clear h
  have HL := Lib.hid hL; clear hL
  have HR := Lib.hid hr; clear hr
  have t6 : ((n : Int) == 6) = false := by simp; omega
  have hw1 : IntKind.i64.wrap ((n : Int) + 1) = ((n + 1 : Nat) : Int) := by rw [IntWalk.i64_in _ (by omega)]; omega
  have n0 : (0 : Int) ≤ (n : Int) := by omega
  have n6 : (n : Int) < 6 := by omega
  go_enter Tryd.func24, Tryd.ntmps24
  go_wp2_with (go_at_call 35; refine (levels_calls _).mono ?_; rintro e w1 ⟨B, rfl, hlv, hB, hb⟩)
  have HX := Aside0.mk ((((H0.out.alloc _).below hb).alloc (.cells #[.slice (some ⟨B, 0, none⟩) 1 1, .slice (some ⟨B + 1, 0, none⟩) 1 1, .slice (some ⟨B + 2, 0, none⟩) 2 2, .slice (some ⟨B + 3, 0, none⟩) 4 4, .slice (some ⟨B + 4, 0, none⟩) 2 2, .slice (some ⟨B + 5, 0, none⟩) 3 3] 70)))
  clear hlv hB hb
  generalize hX : w1.alloc _ = X at HX ⊢
  clear hX
  refine (HL.out g (n + 1) p d _ _ (by omega) hp hd HX.out.self HR.out).mono ?_
  rintro e w2 ⟨rfl, hg⟩
  exact ⟨rfl, rfl, HX.out.grw.trans hg⟩

set_option maxHeartbeats 8000000 in
set_option maxRecDepth 100000 in
theorem level_loop (s : ByteArray) (hs : s.size ≤ 140737488355328) (k : Nat) (hL : ∀ j, j ≤ k → LevC s j) (g n p d : Nat) (w : World) (a : Node) (q : Nat) (r : Res) (hn : n < 6) (hp : p ≤ s.size) (hd : d ≤ 30) (h : Rd g s p d w w)
    (hr1 : run s k (.lev (n + 1)) p d = some (.ok (a, q))) (hr : run s k (.loop n a) q d = some r) :
    Calls Tryd.prog 24 #[.pointer (some ⟨g, 0, none⟩), .int .i64 n] w (Out g s d w r) := by
  have H0 := Lib.hid h; clear h
  have HL := Lib.hid hL; clear hL
  have HR1 := Lib.hid hr1; clear hr1
  have HR := Lib.hid hr; clear hr
  have t6 : ((n : Int) == 6) = false := by simp; omega
  have hw1 : IntKind.i64.wrap ((n : Int) + 1) = ((n + 1 : Nat) : Int) := by rw [IntWalk.i64_in _ (by omega)]; omega
  have n0 : (0 : Int) ≤ (n : Int) := by omega
  have n6 : (n : Int) < 6 := by omega
  go_enter Tryd.func24, Tryd.ntmps24
  go_wp2_with (go_at_call 35; refine (levels_calls _).mono ?_; rintro e w1 ⟨B, rfl, hlv, hB, hb⟩)
  have HX := Aside0.mk ((((H0.out.alloc _).below hb).alloc (.cells #[.slice (some ⟨B, 0, none⟩) 1 1, .slice (some ⟨B + 1, 0, none⟩) 1 1, .slice (some ⟨B + 2, 0, none⟩) 2 2, .slice (some ⟨B + 3, 0, none⟩) 4 4, .slice (some ⟨B + 4, 0, none⟩) 2 2, .slice (some ⟨B + 5, 0, none⟩) 3 3] 70)))
  have HBX := Aside0.mk (blk_alloc (blk_below (blk_new w (.cells #[.string ⟨#[]⟩, .slice none 0 0, .int .i64 0, .string ⟨#[]⟩] 55)) hb) (.cells #[.slice (some ⟨B, 0, none⟩) 1 1, .slice (some ⟨B + 1, 0, none⟩) 1 1, .slice (some ⟨B + 2, 0, none⟩) 2 2, .slice (some ⟨B + 3, 0, none⟩) 4 4, .slice (some ⟨B + 4, 0, none⟩) 2 2, .slice (some ⟨B + 5, 0, none⟩) 3 3] 70))
  have HMX := Aside0.mk (blk_new w1 (.cells #[.slice (some ⟨B, 0, none⟩) 1 1, .slice (some ⟨B + 1, 0, none⟩) 1 1, .slice (some ⟨B + 2, 0, none⟩) 2 2, .slice (some ⟨B + 3, 0, none⟩) 4 4, .slice (some ⟨B + 4, 0, none⟩) 2 2, .slice (some ⟨B + 5, 0, none⟩) 3 3] 70))
  have HLX := Aside0.mk (hlv.keep (W' := w1.alloc (.cells #[.slice (some ⟨B, 0, none⟩) 1 1, .slice (some ⟨B + 1, 0, none⟩) 1 1, .slice (some ⟨B + 2, 0, none⟩) 2 2, .slice (some ⟨B + 3, 0, none⟩) 4 4, .slice (some ⟨B + 4, 0, none⟩) 2 2, .slice (some ⟨B + 5, 0, none⟩) 3 3] 70)) fun k _ hk => Below.heap_alloc _ _ k hk)
  have hbl := blk_lt (hlv 5 (by omega))
  have hbs := hb.size
  simp only [World.size_alloc] at hB hbs
  have HS := Aside0.mk (⟨by omega, by omega, by omega⟩ : w.heap.size < B ∧ w.heap.size < w1.heap.size ∧ B + 5 < w1.heap.size)
  have HXS := Aside0.mk (show (w1.alloc (.cells #[.slice (some ⟨B, 0, none⟩) 1 1, .slice (some ⟨B + 1, 0, none⟩) 1 1, .slice (some ⟨B + 2, 0, none⟩) 2 2, .slice (some ⟨B + 3, 0, none⟩) 4 4, .slice (some ⟨B + 4, 0, none⟩) 2 2, .slice (some ⟨B + 5, 0, none⟩) 3 3] 70)).heap.size = w1.heap.size + 1 by simp)
  clear hlv hB hb hbl hbs
  generalize hX : w1.alloc _ = X at HX HBX HMX HLX HXS ⊢
  clear hX
  generalize w1.heap.size = mb at HMX HS HXS ⊢
  refine (HL.out k (Nat.le_refl _) g (n + 1) p d _ _ (by omega) hp hd HX.out.self HR1.out).mono ?_
  rintro e w2 ⟨v, rfl, hnd, hr2, hq⟩
  obtain ⟨xm, xA, xn, xc, xi, xt, rfl⟩ := hnd.form
  have HC := Aside0.mk (show Lc g w w2.heap.size mb B from ⟨by have := blk_lt H0.out.blk; omega, by have := hr2.grw.size; have := HS.out; have := HXS.out; omega, HS.out.1, HS.out.2.1, by have := hr2.grw.size; have := HXS.out; omega, by have := hr2.grw.size; have := HS.out; have := HXS.out; omega⟩)
  have HK := Aside0.mk (fun k (hk : k ≠ g) (hlt : k < X.heap.size) => hr2.grw.block k hlt (fun e => hk (Option.some.inj e)))
  have HP := Aside0.mk (show Lp g s d w w2.heap.size mb B a q (w2.alloc (.cells #[.string xm, .slice xA xn xc, .int .i64 xi, .string xt] 55)) xm xA xn xc xi xt from
    { rd := (HX.out.trans hr2).alloc _
      le := hq
      var := blk_new _ _
      nd := hnd.step fun b hb hlt => ⟨⟨by have := HXS.out; have := HS.out; omega, by omega⟩, Below.heap_alloc _ _ b hlt⟩
      res := blk_alloc ((HK.out _ (by have := HC.out.hg; omega) (blk_lt HBX.out)).trans HBX.out) _
      mrk := blk_alloc ((HK.out _ (by have := HC.out.hg; have := HC.out.hmb; omega) (blk_lt HMX.out)).trans HMX.out) _
      row := HLX.out.keep fun k hB hlt => (Below.heap_alloc _ _ k (by have := hr2.grw.size; omega)).trans (HK.out k (by have := HC.out.hg; have := HC.out.hB; omega) hlt) })
  clear hnd hr2 hq HX HBX HMX HLX HS HXS HK HR1
  go_wp2_with fail
  generalize w2.heap.size = ab at HC HP ⊢
  generalize w2.alloc _ = W0 at HP ⊢
  go_loopg [] k (fun kq wr => ∃ (a : Node) (q : Nat) (xm : ByteArray) (xA : Option Addr) (xn xc : Nat) (xi : Int) (xt : ByteArray), kq ≤ k ∧ Aside0 (run s kq (.loop n a) q d = some r) ∧ Aside0 (Lp g s d w ab mb B a q wr xm xA xn xc xi xt))
  case atStart => exact ⟨a, q, xm, xA, xn, xc, xi, xt, Nat.le_refl _, ⟨HR.out⟩, HP⟩
  case round =>
    clear HR HP
    obtain ⟨a1, q1, ym, yA, yn, yc, yi, yt, hgk, HA, HP⟩ := hrel
    cases gk with
    | zero => exact absurd HA.out (by simp [run])
    | succ k1 =>
      have H := HA.out
      clear HA
      simp only [run] at H
      have hc : wr.cell? ⟨mb, n, none⟩ = some (lvS B n) := (blk_cell HP.out.mrk n).trans (lvS_at B n hn)
      unfold lvS at hc
      have HRW := Aside0.mk (HP.out.row n hn)
      have hln : (opsOf n).length ≤ 1000 := by unfold opsOf; split <;> simp
      have HBN := Aside0.mk (show B + n ≠ g by have := HC.out.hB; have := HC.out.hg; omega)
      have HQS := Aside0.mk (sk_le s q1 HP.out.le)
      cases hf : find1 Bop.str s (sk s q1) (opsOf n) with
      | none =>
        rw [hf] at H
        obtain rfl := Option.some.inj H
        have HT := Aside0.mk (takes_none g s q1 d wr hs HP.out.le HP.out.rd.self (B + n) Bop.str (opsOf n) hln HRW.out HBN.out hf)
        clear H hf HRW
        generalize (opsOf n).map Bop.str = ms at hc HT
        go_wp2_with fail
        refine HT.out.mono ?_
        rintro e w3 ⟨rfl, h3⟩
        have HP3 := Aside0.mk (HP.out.move HC.out h3 HQS.out)
        clear h3 hc HT HP
        obtain ⟨c0, c1, c2, c3, _, _, _, _⟩ := four_cells HP3.out.var
        obtain ⟨d0, d1, d2, d3, e0, e1, e2, e3⟩ := four_cells HP3.out.res
        go_wp2_with fail
        have hP := put4 HP3.out.res (.string ym) (.slice yA yn yc) (.int .i64 yi) (.string yt)
        exact bodyPost_ret (results_cell_row results24 _ _ w.heap.size 55 _ (0, 0) _ rfl hP.blk Tryd.underlying55 rfl info55s) rfl
          ⟨_, rfl, HP3.out.nd.step (fun b hb _ => ⟨by omega, hP.oth b (by omega)⟩), HP3.out.rd.put hP (Nat.le_refl _) (by have := HC.out.hg; omega), HQS.out⟩
      | some o =>
        rw [hf] at H
        dsimp only at H
        have HT := Aside0.mk (takes_some g s q1 d wr hs HP.out.le HP.out.rd.self (B + n) Bop.str (opsOf n) o hln HRW.out HBN.out hf)
        have hms := hasAt_size (find1_has hf)
        have hne := str_ne o
        have hne1 : (o.str.toList == ([] : List UInt8)) = false := beq_eq_false_iff_ne.mpr hne
        have hne2 : (o.str.toList != ([] : List UInt8)) = true := bne_iff_ne.mpr hne
        have HQ3 := Aside0.mk (show sk s q1 + o.str.size ≤ s.size by have := HQS.out; omega)
        clear hf HRW hms
        generalize (opsOf n).map Bop.str = ms at hc HT
        generalize hos : o.str = os at HT HQ3 hne hne1 hne2 H
        have HOS := Aside0.mk hos
        clear hos
        go_wp2_with fail
        refine HT.out.mono ?_
        rintro e w3 ⟨rfl, h3⟩
        have HP3 := Aside0.mk (HP.out.move HC.out h3 HQ3.out)
        clear h3 hc HT HP
        obtain ⟨c0, c1, c2, c3, f0, f1, f2, f3⟩ := four_cells HP3.out.var
        go_wp2_with fail
        cases hx : run s k1 (.lev (n + 1)) (sk s q1 + os.size) d with
        | none => rw [hx] at H; cases H
        | some r2 =>
          rw [hx] at H
          cases r2 with
          | error x =>
            obtain rfl := Option.some.inj H
            have HX := Aside0.mk hx
            clear H hx
            have HCL := Aside0.mk fun (W : World) (hW : W.heap = w3.heap) => (HL.out k1 (by omega) g (n + 1) (sk s q1 + os.size) d W _ (by omega) HQ3.out hd (HP3.out.rd.same hW) HX.out)
            refine wp_region_any (by kernel_rfl) ?_
            change wpAny _ _ _ _ _ _ _ (World.drew _)
            refine wpAny_take (i := 0) (v := .string os) rfl (by kernel_rfl) (by kernel_rfl) (by kernel_rfl) (fun _ _ _ h => h) (Or.inl ⟨by rfl, ?_⟩) ?_
            · (intro w; go_simp)
            refine wpAny_take (i := 2) (v := .pointer (some ⟨g, 0, none⟩)) rfl (by kernel_rfl) (by kernel_rfl) (by kernel_rfl) (fun _ _ _ h => h) (Or.inl ⟨by rfl, ?_⟩) ?_
            · (intro w; go_simp)
            refine wpAny_take (i := 3) (v := .int .i64 n) rfl (by kernel_rfl) (by kernel_rfl) (by kernel_rfl) (fun _ _ _ h => h) (Or.inl ⟨by rfl, ?_⟩) ?_
            · (intro w; go_simp)
            refine wpAny_take (i := 4) (v := .int .i64 (n + 1)) rfl (by kernel_rfl) (by kernel_rfl) (by kernel_rfl) (fun _ _ _ h => h) (Or.inl ⟨by rfl, ?_⟩) ?_
            · (intro w; go_simp)
            refine wpAny_ready (rs := [1, 5]) (by kernel_rfl) (by simp) ?_
            refine AllReady.cons rfl (fun K hK => ?_) ?_
            · go_simp
              refine hK _ _ ?_
              clear hK K
              refine wpAny_ready (rs := [5]) (by kernel_rfl) (by simp) ?_
              refine AllReady.cons rfl (fun K hK => ?_) AllReady.nil
              go_simp
              refine (HCL.out w3.drew rfl).mono ?_
              rintro e w' ⟨rfl, hb⟩
              exact ⟨rfl, rfl, World.grownBy.trans (b := w3.drew) ⟨HP3.out.rd.grw.os, HP3.out.rd.grw.tape, HP3.out.rd.grw.output, HP3.out.rd.grw.size, HP3.out.rd.grw.block⟩ hb⟩
            · refine AllReady.cons rfl (fun K hK => ?_) AllReady.nil
              go_simp
              refine (HCL.out w3.drew rfl).mono ?_
              rintro e w' ⟨rfl, hb⟩
              exact ⟨rfl, rfl, World.grownBy.trans (b := w3.drew) ⟨HP3.out.rd.grw.os, HP3.out.rd.grw.tape, HP3.out.rd.grw.output, HP3.out.rd.grw.size, HP3.out.rd.grw.block⟩ hb⟩
          | ok r3 =>
            obtain ⟨c, q3⟩ := r3
            dsimp only at H
            have HN := Aside0.mk H
            have HX := Aside0.mk hx
            clear H hx
            have HCL := Aside0.mk fun (W : World) (hW : W.heap = w3.heap) => (HL.out k1 (by omega) g (n + 1) (sk s q1 + os.size) d W _ (by omega) HQ3.out hd (HP3.out.rd.same hW) HX.out)
            have hP3 := HP3.out.var
            have hga : some ab ≠ some g := by have := HC.out.hg; have := HC.out.hab; intro e; have := Option.some.inj e; omega
            have HGA := Aside0.mk hga
            have HP3V := Aside0.mk hP3
            clear hga hP3
            go_region_with (go_at_call 24; refine (HCL.out w3.drew rfl).mono ?_; rintro e w4 ⟨v4, rfl, hnd4, hb, hq4⟩; obtain ⟨zm, zA, zn, zc, zi, zt, rfl⟩ := hnd4.form; have hvv := (hb.grw.block ab (blk_lt HP3V.out) HGA.out).trans HP3V.out; obtain ⟨m0, m1, m2, m3, m4, m5, m6, m7⟩ := four_cells hvv; have hl4 : ab < w4.heap.size := blk_lt hvv; have HVV := Aside0.mk hvv; clear hvv; have HND4 := Aside0.mk hnd4; have HB4 := Aside0.mk hb; have HQ4 := Aside0.mk hq4; clear hnd4 hb hq4)
            all_goals
              have HF := Aside0.mk (((HP3.out.drew.move HC.out HB4.out HQ4.out).push HOS.out HC.out (by have := blk_lt HP3.out.var; exact this) HND4.out))
              clear m0 m1 m2 m3 m4 m5 m6 m7 hl4 HVV HND4 HB4 HQ4 HCL
              generalize ((((w4.setCell ⟨ab, 0, none⟩ (.string os)).setCell ⟨ab, 1, none⟩ (.slice (some ⟨w4.heap.size, 0, none⟩) 2 2)).setCell ⟨ab, 2, none⟩ (.int .i64 0)).setCell ⟨ab, 3, none⟩ (.string ⟨#[]⟩)).alloc _ = W5 at HF ⊢
              generalize w4.heap.size = nb at HF ⊢
              go_wp2_with fail
              go_roundg k1
              case measure => omega
              case rel => exact ⟨.bin o a1 c, q3, os, some ⟨nb, 0, none⟩, 2, 2, 0, ⟨#[]⟩, by omega, HN, HF⟩

/-- A level, one call deeper than what is known. -/
theorem level_step (s : ByteArray) (hs : s.size ≤ 140737488355328) (k : Nat) (hU : UnaC s k) (hL : ∀ j, j ≤ k → LevC s j) : LevC s (k + 1) := by
  intro g n p d w r hn hp hd h hr
  simp only [run] at hr
  by_cases h6 : n = 6
  · rw [if_pos h6] at hr
    subst h6
    exact level_six s hs k hU g p d w r hp hd h hr
  · rw [if_neg h6] at hr
    cases hx : run s k (.lev (n + 1)) p d with
    | none => rw [hx] at hr; cases hr
    | some r2 =>
      rw [hx] at hr
      cases r2 with
      | error x =>
        obtain rfl := Option.some.inj hr
        exact level_err s hs k (hL k (Nat.le_refl _)) g n p d w x (by omega) hp hd h hx
      | ok r3 =>
        obtain ⟨a, q⟩ := r3
        exact level_loop s hs k hL g n p d w a q r (by omega) hp hd h hx hr
end Go.Proofs.YtambnodgfhlpfaaDoor.A
