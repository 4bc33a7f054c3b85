/- Package arith: unary, walked, where a sign stands ahead, or a bracket. -/
import Derived.Test.YtambnodgfhlpfaaDoorJRE
set_option linter.unusedVariables false
set_option linter.unusedSimpArgs false
namespace Go.Proofs.YtambnodgfhlpfaaDoor.A
open Go.RowKit Go.Proofs.YtambnodgfhlpfaaDoorW.PrintWords Go.Proofs.YtambnodgfhlpfaaDoorW.PrintLast Go.Proofs.YtambnodgfhlpfaaDoor.G

section
variable (g : Nat) (s : ByteArray) (p d : Nat) (w : World) (hs : s.size ≤ 140737488355328) (hp : p ≤ s.size) (h : Rd g s p d w w) (b : Nat) (hne : b ≠ g)
include hs hp h hne
theorem takesU_none (hb : w.heap[b]? = some (.cells #[.string ⟨#[45]⟩, .string ⟨#[43]⟩, .string ⟨#[33]⟩] 9 (0, 0))) (hf : find1 Uop.str s (sk s p) uops = none) :
    Calls Tryd.prog 37 #[.pointer (some ⟨g, 0, none⟩), .slice (some ⟨b, 0, none⟩) 3 3] w fun e w' => e = .returned (.string ⟨#[]⟩) ∧ Rd g s (sk s p) d w w' :=
  takes_none g s p d w hs hp h b Uop.str uops (by decide) hb hne hf
theorem takesU_some (u : Uop) (hb : w.heap[b]? = some (.cells #[.string ⟨#[45]⟩, .string ⟨#[43]⟩, .string ⟨#[33]⟩] 9 (0, 0))) (hf : find1 Uop.str s (sk s p) uops = some u) :
    Calls Tryd.prog 37 #[.pointer (some ⟨g, 0, none⟩), .slice (some ⟨b, 0, none⟩) 3 3] w fun e w' => e = .returned (.string u.str) ∧ Rd g s (sk s p + 1) d w w' := by
  have := takes_some g s p d w hs hp h b Uop.str uops u (by decide) hb hne hf
  have e : u.str.size = 1 := by cases u <;> rfl
  rw [e] at this
  exact this
theorem takes1_no (m : ByteArray) (hb : w.heap[b]? = some (.cells #[.string m] 9 (0, 0))) (hf : hasAt s (sk s p) m = false) :
    Calls Tryd.prog 37 #[.pointer (some ⟨g, 0, none⟩), .slice (some ⟨b, 0, none⟩) 1 1] w fun e w' => e = .returned (.string ⟨#[]⟩) ∧ Rd g s (sk s p) d w w' :=
  takes_none g s p d w hs hp h b id [m] (by simp) hb hne (by rw [find1, find1, if_neg (by simp [hf])])
theorem takes1_yes (m : ByteArray) (hb : w.heap[b]? = some (.cells #[.string m] 9 (0, 0))) (hf : hasAt s (sk s p) m = true) :
    Calls Tryd.prog 37 #[.pointer (some ⟨g, 0, none⟩), .slice (some ⟨b, 0, none⟩) 1 1] w fun e w' => e = .returned (.string m) ∧ Rd g s (sk s p + m.size) d w w' :=
  takes_some g s p d w hs hp h b id [m] m (by simp) hb hne (by rw [find1, if_pos (by simpa using hf)])
end
theorem uop_size {u : Uop} : u.str.size = 1 := by cases u <;> rfl
theorem uop_ne (u : Uop) : ¬ u.str.toList = [] := by rw [ByteArray.toList_eq]; cases u <;> simp [Uop.str]
theorem results36 : Tryd.f36.results = #[.cell 2 55] := by kernel_rfl
def unRes (u : Uop) : Res → Res
  | .error x => .error x
  | .ok (a, q) => .ok (.un u a, q)

set_option maxHeartbeats 4000000 in
set_option maxRecDepth 100000 in
theorem una_sign_deep (s : ByteArray) (hs : s.size ≤ 140737488355328) (g p d : Nat) (w : World) (u : Uop) (hp : p ≤ s.size) (hd : 30 ≤ d) (hdm : d ≤ 30) (h : Rd g s p d w w) (hf : find1 Uop.str s (sk s p) uops = some u) :
    Calls Tryd.prog 36 #[.pointer (some ⟨g, 0, none⟩)] w (Out g s d w (.error 7)) := by
  have H0 := Lib.hid h; clear h
  have HF := Lib.hid hf
  have hne := uop_ne u
  have hne1 : (u.str.toList == ([] : List UInt8)) = false := beq_eq_false_iff_ne.mpr hne
  have hne2 : (u.str.toList != ([] : List UInt8)) = true := bne_iff_ne.mpr hne
  have hq := hasAt_size (find1_has hf)
  rw [uop_size] at hq
  have HQ := Lib.hid hq; clear hq hf
  go_enter Tryd.func36, Tryd.ntmps36
  go_wp2_with fail
  have HX := Aside0.mk ((H0.out.alloc (.cells #[.string ⟨#[]⟩, .slice none 0 0, .int .i64 0, .string ⟨#[]⟩] 55)).alloc (.cells #[.string ⟨#[45]⟩, .string ⟨#[43]⟩, .string ⟨#[33]⟩] 9))
  have HB := Aside0.mk (blk_new (w.alloc (.cells #[.string ⟨#[]⟩, .slice none 0 0, .int .i64 0, .string ⟨#[]⟩] 55)) (.cells #[.string ⟨#[45]⟩, .string ⟨#[43]⟩, .string ⟨#[33]⟩] 9))
  simp only [World.size_alloc] at HB
  have HG := Aside0.mk (blk_lt H0.out.blk)
  generalize (w.alloc _).alloc _ = X at HX HB ⊢
  generalize hos : u.str = os at hne hne1 hne2 ⊢
  refine (takesU_some g s p d X hs hp HX.out.self _ (by have := HG.out; omega) u HB.out HF.out).mono ?_
  rintro e w1 ⟨rfl, h1⟩
  rw [hos]
  have H1 := Aside0.mk (HX.out.trans h1)
  clear h1 HX HB hos
  go_wp2_with fail
  refine (down_no g s (sk s p + 1) d _ hd (by omega) H1.out.self).mono ?_
  rintro e w2 ⟨rfl, rfl⟩
  exact ⟨rfl, rfl, H1.out.grw⟩

theorem una_end {g : Nat} {s : ByteArray} {q d : Nat} {w w3 : World} {a : Node} {lo : Nat} {xm : ByteArray} {xA : Option Addr} {xn xc : Nat} {xi : Int} {xt : ByteArray} {u : Uop} {os : ByteArray} (ho : u.str = os) (hg : g < w.heap.size) (h : Rd g s q (d + 1) w w3)
    (hb : w3.heap[w.heap.size]? = some (.cells #[.string ⟨#[]⟩, .slice none 0 0, .int .i64 0, .string ⟨#[]⟩] 55 (0, 0))) (hlo : w.heap.size < lo) (hn : NodeAt w3 (fun b => lo ≤ b) a (.agg #[.string xm, .slice xA xn xc, .int .i64 xi, .string xt])) :
    ∃ W5, W5 = (((((((w3.setCell ⟨g, 2, none⟩ (.int .i64 d)).setCell ⟨w.heap.size, 0, none⟩ (.string os)).setCell ⟨w.heap.size, 1, none⟩ (.slice (some ⟨w3.heap.size + 1, 0, none⟩) 1 1)).setCell ⟨w.heap.size, 2, none⟩ (.int .i64 0)).setCell ⟨w.heap.size, 3, none⟩ (.string ⟨#[]⟩)).alloc
      (.cells #[.string xm, .slice xA xn xc, .int .i64 xi, .string xt] 55)).alloc (.cells #[.string xm, .slice xA xn xc, .int .i64 xi, .string xt] 55)) ∧
      W5.heap[w.heap.size]? = some (.cells #[.string os, .slice (some ⟨w3.heap.size + 1, 0, none⟩) 1 1, .int .i64 0, .string ⟨#[]⟩] 55 (0, 0)) ∧
      NodeAt W5 (fun b => w.heap.size ≤ b) (.un u a) (.agg #[.string os, .slice (some ⟨w3.heap.size + 1, 0, none⟩) 1 1, .int .i64 0, .string ⟨#[]⟩]) ∧ Rd g s q d w W5 := by
  refine ⟨_, rfl, ?_⟩
  have hD := h.dive d
  have hDb : (w3.setCell ⟨g, 2, none⟩ (.int .i64 d)).heap[w.heap.size]? = some (.cells #[.string ⟨#[]⟩, .slice none 0 0, .int .i64 0, .string ⟨#[]⟩] 55 (0, 0)) := (Below.heap_setCell _ _ _ _ (by simp; omega)).trans hb
  have hDs : (w3.setCell ⟨g, 2, none⟩ (.int .i64 d)).heap.size = w3.heap.size := by simp
  have hDn : NodeAt (w3.setCell ⟨g, 2, none⟩ (.int .i64 d)) (fun b => lo ≤ b) a (.agg #[.string xm, .slice xA xn xc, .int .i64 xi, .string xt]) := hn.step fun b hb _ => ⟨hb, Below.heap_setCell _ _ _ _ (by simp; omega)⟩
  generalize w3.setCell ⟨g, 2, none⟩ (.int .i64 d) = D at hD hDb hDs hDn ⊢
  have hP := put4 hDb (.string os) (.slice (some ⟨w3.heap.size + 1, 0, none⟩) 1 1) (.int .i64 0) (.string ⟨#[]⟩)
  generalize (((D.setCell ⟨w.heap.size, 0, none⟩ (.string os)).setCell ⟨w.heap.size, 1, none⟩ (.slice (some ⟨w3.heap.size + 1, 0, none⟩) 1 1)).setCell ⟨w.heap.size, 2, none⟩ (.int .i64 0)).setCell ⟨w.heap.size, 3, none⟩ (.string ⟨#[]⟩) = E at hP ⊢
  have hEs : E.heap.size = w3.heap.size := hP.size.trans hDs
  have hlt := blk_lt hb
  have hnew := blk_new (E.alloc (.cells #[.string xm, .slice xA xn xc, .int .i64 xi, .string xt] 55)) (.cells #[.string xm, .slice xA xn xc, .int .i64 xi, .string xt] 55)
  rw [World.size_alloc, hEs] at hnew
  have hk : ∀ k o, k < w3.heap.size → ((E.alloc o).alloc o).heap[k]? = E.heap[k]? := fun k o hk => (Below.heap_alloc _ _ k (by rw [World.size_alloc]; omega)).trans (Below.heap_alloc _ _ k (by omega))
  refine ⟨blk_alloc (blk_alloc hP.blk _) _, ⟨w3.heap.size + 1, _, _, _, _, by rw [ho], by omega, hnew, hDn.step fun b hb hbl => ⟨by omega, ?_⟩⟩, ((hD.put hP (Nat.le_refl _) (by omega)).alloc _).alloc _⟩
  rw [hk b _ (by omega)]
  exact hP.oth b (by omega)

set_option maxHeartbeats 4000000 in
set_option maxRecDepth 100000 in
theorem una_sign (s : ByteArray) (hs : s.size ≤ 140737488355328) (k : Nat) (hU : UnaC s k) (g p d : Nat) (w : World) (u : Uop) (r : Res) (hp : p ≤ s.size) (hd : d < 30) (h : Rd g s p d w w) (hf : find1 Uop.str s (sk s p) uops = some u) (hr : run s k .una (sk s p + 1) (d + 1) = some r) :
    Calls Tryd.prog 36 #[.pointer (some ⟨g, 0, none⟩)] w (Out g s d w (unRes u r)) := by
  have H0 := Lib.hid h; clear h
  have HF := Lib.hid hf
  have HR := Lib.hid hr; clear hr
  have HU := Lib.hid hU; clear hU
  have hne := uop_ne u
  have hne1 : (u.str.toList == ([] : List UInt8)) = false := beq_eq_false_iff_ne.mpr hne
  have hne2 : (u.str.toList != ([] : List UInt8)) = true := bne_iff_ne.mpr hne
  have hq := hasAt_size (find1_has hf)
  rw [uop_size] at hq
  have HQ := Lib.hid (show sk s p + 1 ≤ s.size by omega); clear hq hf
  go_enter Tryd.func36, Tryd.ntmps36
  go_wp2_with fail
  have HX := Aside0.mk ((H0.out.alloc (.cells #[.string ⟨#[]⟩, .slice none 0 0, .int .i64 0, .string ⟨#[]⟩] 55)).alloc (.cells #[.string ⟨#[45]⟩, .string ⟨#[43]⟩, .string ⟨#[33]⟩] 9))
  have HBX := Aside0.mk (blk_alloc (blk_new w (.cells #[.string ⟨#[]⟩, .slice none 0 0, .int .i64 0, .string ⟨#[]⟩] 55)) (.cells #[.string ⟨#[45]⟩, .string ⟨#[43]⟩, .string ⟨#[33]⟩] 9))
  have HB := Aside0.mk (blk_new (w.alloc (.cells #[.string ⟨#[]⟩, .slice none 0 0, .int .i64 0, .string ⟨#[]⟩] 55)) (.cells #[.string ⟨#[45]⟩, .string ⟨#[43]⟩, .string ⟨#[33]⟩] 9))
  simp only [World.size_alloc] at HB
  have HG := Aside0.mk (blk_lt H0.out.blk)
  generalize (w.alloc _).alloc _ = X at HX HB HBX ⊢
  generalize hos : u.str = os at hne hne1 hne2 ⊢
  refine (takesU_some g s p d X hs hp HX.out.self _ (by have := HG.out; omega) u HB.out HF.out).mono ?_
  rintro e w1 ⟨rfl, h1⟩
  rw [hos]
  have HOS := Aside0.mk hos
  have hb1 := (h1.grw.block w.heap.size (blk_lt HBX.out) (by have := HG.out; intro e; have := Option.some.inj e; omega)).trans HBX.out
  have HB1 := Aside0.mk hb1
  have H1 := Aside0.mk (HX.out.trans h1)
  clear h1 HX HB hos hb1 HBX
  go_wp2_with fail
  refine (down_yes g s (sk s p + 1) d _ hd H1.out.self).mono ?_
  rintro e w2 ⟨rfl, h2⟩
  have HB2 := Aside0.mk ((h2.grw.block w.heap.size (blk_lt HB1.out) (by have := HG.out; intro e; have := Option.some.inj e; omega)).trans HB1.out)
  have H2 := Aside0.mk (H1.out.trans h2)
  clear h2 HB1 H1
  go_wp2_with fail
  refine (HU.out g (sk s p + 1) (d + 1) _ r HQ.out (by omega) H2.out.self HR.out).mono ?_
  cases r with
  | error x =>
    rintro e w3 ⟨rfl, h3⟩
    exact ⟨rfl, rfl, H2.out.grw.trans h3⟩
  | ok r =>
    obtain ⟨a, q⟩ := r
    rintro e w3 ⟨v, rfl, hn, h3, hq3⟩
    obtain ⟨xm, xA, xn, xc, xi, xt, rfl⟩ := hn.form
    have HB3 := Aside0.mk ((h3.grw.block w.heap.size (blk_lt HB2.out) (by have := HG.out; intro e; have := Option.some.inj e; omega)).trans HB2.out)
    have H3 := Aside0.mk (H2.out.trans h3)
    have HN := Aside0.mk hn
    have HQ3 := Aside0.mk hq3
    have HB2' := HB2
    clear h3 HB2 hn hq3
    have e1 : IntKind.i64.wrap (((d + 1 : Nat) : Int) - 1) = (d : Int) := by rw [IntWalk.i64_in _ (by omega)]; omega
    have c2 := H3.out.deep
    have f2 := H3.out.fr 2
    have hgl : g < w3.heap.size := blk_lt H3.out.blk
    obtain ⟨m0, m1, m2, m3, m4, m5, m6, m7⟩ := four_cells HB3.out
    have hrl : w.heap.size < w3.heap.size := blk_lt HB3.out
    have hg1 : (g = w.heap.size) = False := eq_false (by have := HG.out; omega)
    have hg2 : (w.heap.size = g) = False := eq_false (by have := HG.out; omega)
    go_wp2_with fail
    obtain ⟨W5, hW, k1, k2, k3⟩ := una_end HOS.out HG.out H3.out HB3.out (show w.heap.size < w2.heap.size from blk_lt HB2'.out) HN.out
    rw [← hW]
    exact bodyPost_ret (results_cell_row results36 _ _ w.heap.size 55 _ (0, 0) _ rfl k1 Tryd.underlying55 rfl info55s) rfl ⟨_, rfl, k2, k3, HQ3.out⟩

theorem sk_idem (s : ByteArray) (p : Nat) : sk s (sk s p) = sk s p := by
  by_cases h : p < s.size
  · by_cases hb : spB (bt s p) = true
    · rw [sk_yes s p h hb]; exact sk_idem s (p + 1)
    · rw [sk_no s p fun _ => by simpa using hb]; exact sk_no s p fun _ => by simpa using hb
  · rw [sk_no s p fun h2 => absurd h2 h]; exact sk_no s p fun h2 => absurd h2 h
termination_by s.size - p
def parRes (s : ByteArray) : Res → Res
  | .error x => .error x
  | .ok (a, q) => if hasAt s (sk s q) rpar then .ok (a, sk s q + 1) else .error 9

set_option maxHeartbeats 4000000 in
set_option maxRecDepth 100000 in
theorem una_par_deep (s : ByteArray) (hs : s.size ≤ 140737488355328) (g p d : Nat) (w : World) (hp : p ≤ s.size) (hd : 30 ≤ d) (hdm : d ≤ 30) (h : Rd g s p d w w) (hf : find1 Uop.str s (sk s p) uops = none) (hl : hasAt s (sk s p) lpar = true) :
    Calls Tryd.prog 36 #[.pointer (some ⟨g, 0, none⟩)] w (Out g s d w (.error 7)) := by
  have H0 := Lib.hid h; clear h
  have HF := Lib.hid hf
  have HL := Lib.hid hl
  clear hf hl
  go_enter Tryd.func36, Tryd.ntmps36
  go_wp2_with fail
  have HX := Aside0.mk ((H0.out.alloc (.cells #[.string ⟨#[]⟩, .slice none 0 0, .int .i64 0, .string ⟨#[]⟩] 55)).alloc (.cells #[.string ⟨#[45]⟩, .string ⟨#[43]⟩, .string ⟨#[33]⟩] 9))
  have HBX := Aside0.mk (blk_alloc (blk_new w (.cells #[.string ⟨#[]⟩, .slice none 0 0, .int .i64 0, .string ⟨#[]⟩] 55)) (.cells #[.string ⟨#[45]⟩, .string ⟨#[43]⟩, .string ⟨#[33]⟩] 9))
  have HB := Aside0.mk (blk_new (w.alloc (.cells #[.string ⟨#[]⟩, .slice none 0 0, .int .i64 0, .string ⟨#[]⟩] 55)) (.cells #[.string ⟨#[45]⟩, .string ⟨#[43]⟩, .string ⟨#[33]⟩] 9))
  simp only [World.size_alloc] at HB
  have HG := Aside0.mk (blk_lt H0.out.blk)
  generalize (w.alloc _).alloc _ = X at HX HB HBX ⊢
  refine (takesU_none g s p d X hs hp HX.out.self _ (by have := HG.out; omega) HB.out HF.out).mono ?_
  rintro e w1 ⟨rfl, h1⟩
  have HB1 := Aside0.mk ((h1.grw.block w.heap.size (blk_lt HBX.out) (by have := HG.out; intro e; have := Option.some.inj e; omega)).trans HBX.out)
  have H1 := Aside0.mk (HX.out.trans h1)
  clear h1 HX HB HBX
  go_wp2_with fail
  have HX2 := Aside0.mk (H1.out.alloc (.cells #[.string ⟨#[40]⟩] 9))
  have HBX2 := Aside0.mk (blk_alloc HB1.out (.cells #[.string ⟨#[40]⟩] 9))
  have HB2 := Aside0.mk (blk_new w1 (.cells #[.string ⟨#[40]⟩] 9))
  have HGW := Aside0.mk (show w1.heap.size ≠ g by have := blk_lt H1.out.blk; omega)
  generalize w1.alloc _ = X2 at HX2 HBX2 HB2 ⊢
  generalize w1.heap.size = nb at HB2 HGW ⊢
  refine (takes1_yes g s (sk s p) d X2 hs (sk_le s p hp) HX2.out.self _ HGW.out ⟨#[40]⟩ HB2.out (by rw [sk_idem]; exact HL.out)).mono ?_
  rintro e w2 ⟨rfl, h2⟩
  rw [sk_idem] at h2
  have HB3 := Aside0.mk ((h2.grw.block w.heap.size (blk_lt HBX2.out) (by have := HG.out; intro e; have := Option.some.inj e; omega)).trans HBX2.out)
  have H2 := Aside0.mk (show Rd g s (sk s p + 1) d w w2 from HX2.out.trans h2)
  clear h2 HX2 HBX2 HB2 HGW H1 HB1
  go_wp2_with fail
  refine (down_no g s (sk s p + 1) d _ hd (by omega) H2.out.self).mono ?_
  rintro e w3 ⟨rfl, rfl⟩
  exact ⟨rfl, rfl, H2.out.grw⟩

set_option maxHeartbeats 4000000 in
set_option maxRecDepth 100000 in
theorem una_par (s : ByteArray) (hs : s.size ≤ 140737488355328) (k : Nat) (hU : LevC s k) (g p d : Nat) (w : World) (r : Res) (hp : p ≤ s.size) (hd : d < 30) (h : Rd g s p d w w) (hf : find1 Uop.str s (sk s p) uops = none) (hl : hasAt s (sk s p) lpar = true)
    (hr : run s k (.lev 0) (sk s p + 1) (d + 1) = some r) :
    Calls Tryd.prog 36 #[.pointer (some ⟨g, 0, none⟩)] w (Out g s d w (parRes s r)) := by
  have H0 := Lib.hid h; clear h
  have HF := Lib.hid hf
  have HL := Lib.hid hl
  have HR := Lib.hid hr; clear hr
  have HU := Lib.hid hU; clear hU
  have hq := hasAt_size hl
  rw [show lpar.size = 1 from rfl] at hq
  have HQ := Lib.hid (show sk s p + 1 ≤ s.size by omega); clear hq hf hl
  go_enter Tryd.func36, Tryd.ntmps36
  go_wp2_with fail
  have HX := Aside0.mk ((H0.out.alloc (.cells #[.string ⟨#[]⟩, .slice none 0 0, .int .i64 0, .string ⟨#[]⟩] 55)).alloc (.cells #[.string ⟨#[45]⟩, .string ⟨#[43]⟩, .string ⟨#[33]⟩] 9))
  have HBX := Aside0.mk (blk_alloc (blk_new w (.cells #[.string ⟨#[]⟩, .slice none 0 0, .int .i64 0, .string ⟨#[]⟩] 55)) (.cells #[.string ⟨#[45]⟩, .string ⟨#[43]⟩, .string ⟨#[33]⟩] 9))
  have HB := Aside0.mk (blk_new (w.alloc (.cells #[.string ⟨#[]⟩, .slice none 0 0, .int .i64 0, .string ⟨#[]⟩] 55)) (.cells #[.string ⟨#[45]⟩, .string ⟨#[43]⟩, .string ⟨#[33]⟩] 9))
  simp only [World.size_alloc] at HB
  have HG := Aside0.mk (blk_lt H0.out.blk)
  generalize (w.alloc _).alloc _ = X at HX HB HBX ⊢
  refine (takesU_none g s p d X hs hp HX.out.self _ (by have := HG.out; omega) HB.out HF.out).mono ?_
  rintro e w1 ⟨rfl, h1⟩
  have HB1 := Aside0.mk ((h1.grw.block w.heap.size (blk_lt HBX.out) (by have := HG.out; intro e; have := Option.some.inj e; omega)).trans HBX.out)
  have H1 := Aside0.mk (HX.out.trans h1)
  clear h1 HX HB HBX
  go_wp2_with fail
  have HX2 := Aside0.mk (H1.out.alloc (.cells #[.string ⟨#[40]⟩] 9))
  have HBX2 := Aside0.mk (blk_alloc HB1.out (.cells #[.string ⟨#[40]⟩] 9))
  have HB2 := Aside0.mk (blk_new w1 (.cells #[.string ⟨#[40]⟩] 9))
  have HGW := Aside0.mk (show w1.heap.size ≠ g by have := blk_lt H1.out.blk; omega)
  generalize w1.alloc _ = X2 at HX2 HBX2 HB2 ⊢
  generalize w1.heap.size = nb at HB2 HGW ⊢
  refine (takes1_yes g s (sk s p) d X2 hs (sk_le s p hp) HX2.out.self _ HGW.out ⟨#[40]⟩ HB2.out (by rw [sk_idem]; exact HL.out)).mono ?_
  rintro e w2 ⟨rfl, h2⟩
  rw [sk_idem] at h2
  have HB3 := Aside0.mk ((h2.grw.block w.heap.size (blk_lt HBX2.out) (by have := HG.out; intro e; have := Option.some.inj e; omega)).trans HBX2.out)
  have H2 := Aside0.mk (show Rd g s (sk s p + 1) d w w2 from HX2.out.trans h2)
  clear h2 HX2 HBX2 HB2 HGW H1 HB1
  go_wp2_with fail
  refine (down_yes g s (sk s p + 1) d _ hd H2.out.self).mono ?_
  rintro e w3 ⟨rfl, h3⟩
  have HB4 := Aside0.mk ((h3.grw.block w.heap.size (blk_lt HB3.out) (by have := HG.out; intro e; have := Option.some.inj e; omega)).trans HB3.out)
  have H3 := Aside0.mk (H2.out.trans h3)
  clear h3 HB3 H2
  go_wp2_with fail
  refine (HU.out g 0 (sk s p + 1) (d + 1) _ r (by omega) HQ.out (by omega) H3.out.self HR.out).mono ?_
  cases r with
  | error x =>
    rintro e w4 ⟨rfl, h4⟩
    exact ⟨rfl, rfl, H3.out.grw.trans h4⟩
  | ok r =>
    obtain ⟨a, q⟩ := r
    rintro e w4 ⟨v, rfl, hn, h4, hq4⟩
    obtain ⟨xm, xA, xn, xc, xi, xt, rfl⟩ := hn.form
    have HB5 := Aside0.mk ((h4.grw.block w.heap.size (blk_lt HB4.out) (by have := HG.out; intro e; have := Option.some.inj e; omega)).trans HB4.out)
    have H4 := Aside0.mk (H3.out.trans h4)
    have HLO := Aside0.mk (show w.heap.size < w3.heap.size from blk_lt HB4.out)
    have HN := Aside0.mk hn
    have HQ3 := Aside0.mk hq4
    clear h4 HB4 hn hq4
    have e1 : IntKind.i64.wrap (((d + 1 : Nat) : Int) - 1) = (d : Int) := by rw [IntWalk.i64_in _ (by omega)]; omega
    have c2 := H4.out.deep
    have f2 := H4.out.fr 2
    have hgl : g < w4.heap.size := blk_lt H4.out.blk
    go_wp2_with fail
    have HX3 := Aside0.mk (((H4.out.dive d).alloc (.cells #[.string xm, .slice xA xn xc, .int .i64 xi, .string xt] 55)).alloc (.cells #[.string ⟨#[41]⟩] 9))
    have hDs : (w4.setCell ⟨g, 2, none⟩ (.int .i64 d)).heap.size = w4.heap.size := by simp
    have HBR := Aside0.mk (blk_alloc (blk_alloc ((Below.heap_setCell w4 ⟨g, 2, none⟩ (.int .i64 d) w.heap.size (by have := HG.out; simp; omega)).trans HB5.out) (.cells #[.string xm, .slice xA xn xc, .int .i64 xi, .string xt] 55)) (.cells #[.string ⟨#[41]⟩] 9))
    have HBA := Aside0.mk (blk_alloc (blk_new (w4.setCell ⟨g, 2, none⟩ (.int .i64 d)) (.cells #[.string xm, .slice xA xn xc, .int .i64 xi, .string xt] 55)) (.cells #[.string ⟨#[41]⟩] 9))
    have HBM := Aside0.mk (blk_new ((w4.setCell ⟨g, 2, none⟩ (.int .i64 d)).alloc (.cells #[.string xm, .slice xA xn xc, .int .i64 xi, .string xt] 55)) (.cells #[.string ⟨#[41]⟩] 9))
    have HN3 := Aside0.mk (HN.out.step (W' := ((w4.setCell ⟨g, 2, none⟩ (.int .i64 d)).alloc (.cells #[.string xm, .slice xA xn xc, .int .i64 xi, .string xt] 55)).alloc (.cells #[.string ⟨#[41]⟩] 9)) (ok' := fun b => w.heap.size < b) fun b hb hlt => ⟨by have := HLO.out; omega, (Below.heap_alloc _ _ b (by rw [World.size_alloc, hDs]; omega)).trans ((Below.heap_alloc _ _ b (by rw [hDs]; exact hlt)).trans (Below.heap_setCell _ _ _ b (by have := HG.out; have := HLO.out; simp; omega)))⟩)
    rw [hDs] at HBA
    rw [World.size_alloc, hDs] at HBM
    have HGN := Aside0.mk (show w4.heap.size + 1 ≠ g by omega)
    have HAN := Aside0.mk (show w4.heap.size ≠ g by omega)
    have HRN := Aside0.mk (show w.heap.size < w4.heap.size from blk_lt HB5.out)
    clear hDs c2 f2 hgl e1 HB5 H4 HN HLO
    generalize ((w4.setCell ⟨g, 2, none⟩ (.int .i64 d)).alloc _).alloc _ = D2 at HX3 HBR HBA HBM HN3 ⊢
    generalize w4.heap.size = ab at HBA HBM HGN HAN HRN ⊢
    cases hc : hasAt s (sk s q) rpar with
    | false =>
      have HC := Aside0.mk hc; clear hc
      refine (takes1_no g s q d D2 hs HQ3.out HX3.out.self _ HGN.out ⟨#[41]⟩ HBM.out HC.out).mono ?_
      rintro e w5 ⟨rfl, h5⟩
      have HG5 := Aside0.mk (HX3.out.grw.trans h5.grw)
      clear h5
      go_wp2_with fail
      exact ⟨rfl, by rw [show parRes s (.ok (a, q)) = .error 9 by simp [parRes, HC.out]]; exact ⟨rfl, HG5.out⟩⟩
    | true =>
      have hms := hasAt_size hc
      rw [show rpar.size = 1 from rfl] at hms
      have HC := Aside0.mk hc; clear hc
      have HQ5 := Aside0.mk (show sk s q + 1 ≤ s.size by omega)
      clear hms
      refine (takes1_yes g s q d D2 hs HQ3.out HX3.out.self _ HGN.out ⟨#[41]⟩ HBM.out HC.out).mono ?_
      rintro e w5 ⟨rfl, h5⟩
      have HK := Aside0.mk fun k (hk : k ≠ g) (hlt : k < D2.heap.size) => h5.grw.block k hlt (fun e => hk (Option.some.inj e))
      have HX5 := Aside0.mk (show Rd g s (sk s q + 1) d w w5 from HX3.out.trans h5)
      have HR5 := Aside0.mk ((HK.out _ (by have := HG.out; omega) (blk_lt HBR.out)).trans HBR.out)
      have HA5 := Aside0.mk ((HK.out _ HAN.out (blk_lt HBA.out)).trans HBA.out)
      have HN5 := Aside0.mk (HN3.out.step (ok' := fun b => w.heap.size < b) fun b hb hlt => ⟨hb, HK.out b (by have := HG.out; omega) hlt⟩)
      clear h5 HX3 HBR HBA HBM HN3 HK
      obtain ⟨c0, c1, c2, c3, _, _, _, _⟩ := four_cells HA5.out
      obtain ⟨d0, d1, d2, d3, e0, e1, e2, e3⟩ := four_cells HR5.out
      have hrl : w.heap.size < w5.heap.size := blk_lt HR5.out
      go_wp2_with fail
      have hP := put4 HR5.out (.string xm) (.slice xA xn xc) (.int .i64 xi) (.string xt)
      rw [show parRes s (.ok (a, q)) = .ok (a, sk s q + 1) by simp [parRes, HC.out]]
      exact bodyPost_ret (results_cell_row results36 _ _ w.heap.size 55 _ (0, 0) _ rfl hP.blk Tryd.underlying55 rfl info55s) rfl
        ⟨_, rfl, HN5.out.step (fun b hb _ => ⟨by omega, hP.oth b (by omega)⟩), HX5.out.put hP (Nat.le_refl _) (by have := HG.out; omega), HQ5.out⟩
end Go.Proofs.YtambnodgfhlpfaaDoor.A
