/- Texts of this seat, put together: each part tells above it what it proves and on what conditions. -/
import Derived.Test.YthnfmpieoondaaaJQBx
import Derived.Lib.ConvBytes
import Derived.Deep.LoopGhost
import Derived.RegionTactic
import Derived.BigRegion
import Derived.WalkMore
import Derived.Outline
import Derived.Laws.BytesArg
import Derived.Deep.RegionWith
import Derived.Deep.RegionHeld3
import Derived.Deep.DeepCutAuto
import Derived.Deep.CutBlock
/- subst.Read's own function, walked. -/
section
set_option linter.unusedVariables false
set_option linter.unusedSimpArgs false
namespace Go.Proofs.Ythnfmpieoondaaa.G
open Go.RowKit Go.Proofs.YthnfmpieoondaaaW.PrintWords Go.Proofs.YthnfmpieoondaaaW.PrintLast Go.Proofs.YthnfmpieoondaaaW.PrintMore Go.Proofs.Ythnfmpieoondaaa.QA Go.Proofs.Ythnfmpieoondaaa.QB
theorem conv_one (a : Nat) (c : Int) (h0 : 0 ≤ c) (h1 : c ≤ 255) (W : World) (ha : W.cell? ⟨a, 0, none⟩ = some (.int .u8 c)) : (convert 58 9 (.slice (some ⟨a, 0, none⟩) 1 1)).run Try.prog W = .ok (.string (strOfNums [c])) W := by
  refine run_convert_bytes_arg W 58 5 Try.underlying58 Try.underlying5 a 0 1 1 [c] rfl (fun i hi => ?_) 9 Try.underlying9
  obtain rfl : i = 0 := by omega
  exact ha
set_option maxHeartbeats 4000000 in
set_option maxRecDepth 100000 in
theorem lay_calls (bo g n cap a : Nat) (t : ByteArray) (c : Int) (h0 : 0 ≤ c) (h1 : c ≤ 255) (w : World) (hb : w.cell? ⟨bo, 0, none⟩ = some (.slice (some ⟨g, 0, none⟩) (n + 1) cap)) (hg : w.cell? ⟨g, n, none⟩ = some (.string t)) (fg : w.frozen? ⟨g, n, none⟩ = false) (ha : w.cell? ⟨a, 0, none⟩ = some (.int .u8 c)) (hn : n + 1 ≤ 9223372036854775807) (hsz : t.size + 1 ≤ 9223372036854775807) :
    Calls Try.prog 35 #[.slice (some ⟨a, 0, none⟩) 1 1, .pointer (some ⟨bo, 0, none⟩)] w fun e w' => e = .returned (.tuple #[]) ∧ ∃ nd, w' = (w.setCell ⟨g, n, none⟩ (.string (t ++ strOfNums [c]))).drewN nd := by
  have hcv := conv_one a c h0 h1 w ha
  have hcv1 := conv_one a c h0 h1 w.drew ha
  have p0 : (0 : Int) ≤ (n : Int) := by omega
  have p1 : (n : Int) < (n : Int) + 1 := by omega
  have e1 : IntKind.i64.wrap (((n + 1 : Nat) : Int) - 1) = (n : Int) := by rw [IntKind.wrap_i64]; omega
  have e2 : wrap64 (((n + 1 : Nat) : Int) - 1) = (n : Int) := by unfold wrap64; omega
  have s1 : (strOfNums [c]).size = 1 := rfl
  go_enter Try.func35, Try.ntmps35
  go_wp2
  go_region
  all_goals (go_end0; exact ⟨rfl, 1, rfl⟩)
/-- A replacement that is read: what is left of it, the texts, the last one. -/
def subst_Read.l0 : Nat → ByteArray → List ByteArray → ByteArray → Option (List ByteArray × Int)
  | 0, _, _, _ => none
  | k + 1, s, init, last => if s.toList = ([] : List UInt8) then some (init ++ [last], 0) else if ¬ (0 < s.size ∧ last.size + 1 ≤ 9223372036854775807) then none else
      if bt s 0 = 38 then (if init.length < 8796093022200 then subst_Read.l0 k (s.extract 1 s.size) (init ++ [last]) ⟨#[]⟩ else none) else
      (strings_HasPrefix.f s ⟨#[92, 38]⟩).bind fun p => if p = true then (if 1 < s.size then subst_Read.l0 k ((s.extract 1 s.size).extract 1 (s.extract 1 s.size).size) init (last ++ strOfNums [bt (s.extract 1 s.size) 0]) else none) else
        if bt s 0 ≠ 92 ∧ bt s 0 ≠ 47 ∧ bt s 0 ≠ 10 then subst_Read.l0 k (s.extract 1 s.size) init (last ++ strOfNums [bt s 0]) else
        (class_Sign.f k s).bind fun q => if q.2.2 ≠ 0 ∨ bt s 0 ≠ 92 then some ([], 2) else if 0 ≤ q.1 ∧ q.1 ≤ 255 ∧ 0 ≤ q.2.1 ∧ q.2.1 ≤ s.size then subst_Read.l0 k (s.extract q.2.1.toNat s.size) init (last ++ strOfNums [q.1]) else none
def subst_Read.f (k : Nat) (s : ByteArray) : Option (List ByteArray × Int) := subst_Read.l0 k s [] ⟨#[]⟩
theorem info9r : (Try.prog.info? 9).map (fun i => (i.zero, i.size, i.bytes)) = some (some (.string ⟨#[]⟩), 1, 16) := by kernel_rfl
/-- The row of texts behind its variable. -/
structure RowAt (w : World) (bo : Nat) (W : World) (xs : List ByteArray) : Prop where
  box : ∃ v, W.heap[bo]? = some (.cells #[v] 25 (0, 0)) ∧ Kd.R Kd.string 9 W w.heap.size (fun k => k ≠ bo) v xs
  bel : Below w.heap.size w W
  hbo : w.heap.size ≤ bo
theorem RowAt.alloc {w W : World} {bo : Nat} {xs : List ByteArray} (h : RowAt w bo W xs) (o : Obj) : RowAt w bo (W.alloc o) xs := by
  obtain ⟨⟨v, h1, h2⟩, h3, h4⟩ := h
  exact ⟨⟨v, blk_alloc h1 o, Kd.R_alloc h2 o⟩, below_alloc h3 o, h4⟩
theorem RowAt.drewN {w W : World} {bo : Nat} {xs : List ByteArray} (h : RowAt w bo W xs) (n : Nat) : RowAt w bo (W.drewN n) xs := by
  obtain ⟨⟨v, h1, h2⟩, h3, h4⟩ := h
  exact ⟨⟨v, blk_drewN h1 n, Kd.R_drewN h2 n⟩, pw_below_drewN h3 n, h4⟩
theorem set_last (init : List ByteArray) (t u : ByteArray) : (init ++ [t]).set init.length u = init ++ [u] := by
  rw [List.set_append_right _ _ (Nat.le_refl _)]; simp
theorem RowAt.parts {w W : World} {bo : Nat} {init : List ByteArray} {t : ByteArray} (h : RowAt w bo W (init ++ [t])) :
    ∃ g cap, W.cell? ⟨bo, 0, none⟩ = some (.slice (some ⟨g, 0, none⟩) (init.length + 1) cap) ∧ W.cell? ⟨g, init.length, none⟩ = some (.string t) ∧ W.frozen? ⟨g, init.length, none⟩ = false ∧ init.length + 1 ≤ 9223372036854775807 ∧
      ∀ u nd, RowAt w bo ((W.setCell ⟨g, init.length, none⟩ (.string u)).drewN nd) (init ++ [u]) := by
  obtain ⟨⟨v, h1, h2⟩, h3, h4⟩ := h
  obtain ⟨g, cap, rfl, hg, hl, _⟩ := Kd.R_form h2 (by simp)
  have hgb : g ≠ bo := h2.1 g rfl
  have hL : (init ++ [t]).length = init.length + 1 := by simp
  have hR := h2
  obtain ⟨A, c, he, hle, hC⟩ := Kd.R_reads h2
  have hmax := hC.2.1
  obtain ⟨hc, hf⟩ := Kd.R_cell ByteArray.empty h2 (init.length : Int) (by omega) (by rw [hL]; omega)
  have hrd : rdOf ByteArray.empty (init ++ [t]) (init.length : Int) = t := by simp [rdOf]
  rw [Int.toNat_natCast, hrd] at hc
  rw [Int.toNat_natCast] at hf
  refine ⟨g, cap, (blk_cell h1 0).trans (by rw [hL]; rfl), hc, hf, by rw [hL] at hmax; omega, fun u nd => ?_⟩
  obtain ⟨k1, k2⟩ := Kd.R_put h2 (init.length : Int) u
  rw [Int.toNat_natCast, set_last] at k1
  rw [Int.toNat_natCast] at k2
  refine RowAt.drewN ⟨⟨_, (Below.heap_setCell W ⟨g, init.length, none⟩ (.string u) bo (Ne.symm hgb)).trans h1, ?_⟩, below_set h3 hg, h4⟩ nd
  simp only [List.length_append, List.length_cons, List.length_nil] at k1 ⊢
  exact k1
theorem row_start (w : World) : RowAt w (w.heap.size + 1) ((w.alloc (.cells #[.string ⟨#[]⟩] 9)).alloc (.cells #[.slice (some ⟨w.heap.size, 0, none⟩) 1 1] 25)) ([] ++ [(⟨#[]⟩ : ByteArray)]) := by
  have hn := blk_new (w.alloc (.cells #[.string ⟨#[]⟩] 9)) (.cells #[.slice (some ⟨w.heap.size, 0, none⟩) 1 1] 25)
  rw [show (w.alloc (.cells #[.string ⟨#[]⟩] 9)).heap.size = w.heap.size + 1 by simp] at hn
  refine ⟨⟨_, hn, ?_⟩, ((Below.refl _ _).alloc (Nat.le_refl _) _).alloc (by simp) _, by omega⟩
  have ho := own_lit_of (enc := Value.string) w w.heap.size 9 [(⟨#[]⟩ : ByteArray)] (Nat.le_refl _) (by decide)
  refine Kd.R_alloc (Kd.R_of_own (enc := Value.string) ?_ ?_) _
  · exact ho
  · intro k hk
    have : w.heap.size = k := by simpa [Value.ownBlock] using hk
    omega
/-- A byte is laid behind the last text. -/
theorem lay_at {w W : World} {bo : Nat} {init : List ByteArray} {t : ByteArray} {c : Int} (h0 : 0 ≤ c) (h1 : c ≤ 255) (hsz : t.size + 1 ≤ 9223372036854775807) (h : RowAt w bo W (init ++ [t])) :
    Calls Try.prog 35 #[.slice (some ⟨W.heap.size, 0, none⟩) 1 1, .pointer (some ⟨bo, 0, none⟩)] (W.alloc (.cells #[.int .u8 c] 5)) fun e w' => e = .returned (.tuple #[]) ∧ RowAt w bo w' (init ++ [t ++ strOfNums [c]]) := by
  obtain ⟨g, cap, h2, h3, h4, h5, h6⟩ := (h.alloc (.cells #[.int .u8 c] 5)).parts
  refine (lay_calls bo g init.length cap W.heap.size t c h0 h1 _ h2 h3 h4 ((blk_cell (blk_new W _) 0).trans rfl) h5 hsz).mono ?_
  rintro e w' ⟨rfl, nd, rfl⟩
  exact ⟨rfl, h6 _ nd⟩
theorem RowAt.pushed {w W w1 : World} {bo : Nat} {v v1 : Value} {ys : List ByteArray} (h1 : W.heap[bo]? = some (.cells #[v] 25 (0, 0))) (hne : ∀ k, v.ownBlock = some k → k ≠ bo) (h4 : w.heap.size ≤ bo) (ho : Kd.R Kd.string 9 w1 w.heap.size (fun k => k ≠ bo) v1 ys) (hb : Below w.heap.size w w1) (hg : W.grownBy w1 v.ownBlock) :
    w1.cell? ⟨bo, 0, none⟩ = some v ∧ w1.frozen? ⟨bo, 0, none⟩ = false ∧ RowAt w bo (w1.setCell ⟨bo, 0, none⟩ v1) ys := by
  have hb1 : w1.heap[bo]? = some (.cells #[v] 25 (0, 0)) := (hg.block bo (blk_lt h1) (fun e => hne bo e.symm rfl)).trans h1
  exact ⟨(blk_cell hb1 0).trans rfl, blk_frozen hb1 0, ⟨v1, blk_put hb1 0 v1 rfl, Kd.R_far ho (fun _ hk => hk) v1⟩, below_set hb h4, h4⟩
set_option maxHeartbeats 8000000 in
set_option maxRecDepth 100000 in
theorem subst_Read.calls (k : Nat) (a0 : ByteArray) (r1 : List ByteArray) (r2 : Int) (w : World) (h : subst_Read.f k a0 = some (r1, r2)) :
    Calls Try.prog 20 #[.string a0] w fun e w' => ∃ v0_ : Value, e = .returned (.tuple #[v0_, .int .i64 r2]) ∧ Kd.R Kd.string 9 w' w.heap.size (fun _ => True) v0_ r1 ∧ Below w.heap.size w w' := by
  have H' := Aside0.mk (show subst_Read.l0 k a0 [] ⟨#[]⟩ = some (r1, r2) from h)
  clear h
  have hmf : ∀ (fn : Fn) (first cap : Array Value) (w : World), (Instr.makeFunc fn first cap).run Try.prog w = .ok (.func fn first cap) w := fun _ _ _ _ => rfl
  go_enter Try.func20, Try.ntmps20
  go_wp2
  go_step3
  go_wp2
  have R0 := Aside0.mk (row_start w)
  go_step3
  go_wp2
  generalize hbo : w.heap.size + 1 = bo at R0 ⊢
  have HBO := Aside0.mk hbo
  clear hbo
  go_loopg [0] k (fun kq v0 w' => ∃ (s : ByteArray) (init : List ByteArray) (last : ByteArray), v0 = .string s ∧ Aside0 (subst_Read.l0 kq s init last = some (r1, r2)) ∧ Aside0 (RowAt w bo w' (init ++ [last])))
  case atStart => exact ⟨a0, [], ⟨#[]⟩, rfl, H', R0⟩
  case round =>
    clear H' R0
    obtain ⟨s, init, last, rfl, HA, HR⟩ := hrel
    cases gk with
    | zero => exact absurd HA.out (by simp [subst_Read.l0])
    | succ k1 =>
      have H := HA.out
      clear HA
      simp only [subst_Read.l0] at H
      by_cases c1 : s.toList = ([] : List UInt8)
      · rw [if_pos c1] at H
        have c1b0 : (s.toList == ([] : List UInt8)) = true := beq_iff_eq.mpr c1
        have c1b1 : (s.toList != ([] : List UInt8)) = false := bne_eq_false_iff_eq.mpr c1
        have H2 := Option.some.inj H
        obtain ⟨rfl, rfl⟩ := Prod.mk.inj H2
        clear H H2 c1
        obtain ⟨⟨v, hbx, hRv⟩, hbl, _⟩ := HR.out
        have HRV := Aside0.mk hRv
        have HBL := Aside0.mk hbl
        have hcx : wr.cell? ⟨bo, 0, none⟩ = some v := (blk_cell hbx 0).trans rfl
        clear hRv hbl hbx HR
        go_wp2
        rw [Exit.noGoto_ret]
        go_ret2
        exact ⟨v, rfl, Kd.R_mono HRV.out (fun _ _ => trivial), HBL.out⟩
      · rw [if_neg c1] at H
        have c1b0 : (s.toList == ([] : List UInt8)) = false := beq_eq_false_iff_ne.mpr c1
        have c1b1 : (s.toList != ([] : List UInt8)) = true := bne_iff_ne.mpr c1
        clear c1
        by_cases c2 : ¬ (0 < s.size ∧ last.size + 1 ≤ 9223372036854775807)
        · rw [if_pos c2] at H; exact absurd H (by simp)
        · rw [if_neg c2] at H
          obtain ⟨q2, hsz⟩ := Decidable.not_not.1 c2
          clear c2
          have HSZ := Aside0.mk hsz
          have hx : ∀ h : 0 < s.size, ((s[0]'h).toNat : Int) = bt s 0 := Go.Proofs.YthnfmpieoondaaaW.PrintWords.bt_at s 0
          have hbr := bt_range s 0
          have qi2 : (0 < (s.size : Int)) = True := eq_true (by omega)
          have qn2 : (1 ≤ s.size) = True := eq_true (by omega)
          have qm2 : (1 ≤ (s.size : Int)) = True := eq_true (by omega)
          replace q2 := eq_true q2
          clear hsz
          by_cases c3 : bt s 0 = 38
          · rw [if_pos c3] at H
            have c3b0 : ((bt s 0) == 38) = true := beq_iff_eq.mpr c3
            by_cases c4 : init.length < 8796093022200
            · rw [if_pos c4] at H
              have LM := Aside0.mk c4
              have HN := Aside0.mk H
              clear c4 c3 H
              obtain ⟨⟨v, hbx, hRv⟩, hbl, hle⟩ := HR.out
              have HRV := Aside0.mk hRv
              have HBL := Aside0.mk hbl
              have HBX := Aside0.mk hbx
              have hcx : wr.cell? ⟨bo, 0, none⟩ = some v := (blk_cell hbx 0).trans rfl
              clear hRv hbl hbx HR hbr
              go_wp2_with (((with_reducible refine gate_builtin (b := .append) (xs := #[.tmp 34, .tmp 35]) rfl ?_); at_builtin; refine Kd.R_append Kd.string (w0 := w) w.heap.size rfl (.tmp 34) (.tmp 35) 25 9 (.string ⟨#[]⟩) 16 rfl Try.underlying25 info9r rfl (by decide) (by omega) v (init ++ [last]) ⟨#[]⟩ [.string ⟨#[]⟩] (fun k => k ≠ bo) (fun _ => False) rfl rfl ?aP (fun _ hk => hk.elim) ?aF ?aO ?aB ?aS ?aL ?_; (case aP => exact rfl); (case aB => exact HBL.out); (case aF => exact (fun k hk e => absurd (blk_lt HBX.out) (by omega))); (case aO => exact HRV.out); (case aS => exact (below_size HBL.out)); (case aL => have := LM.out; simp; omega); intro v1 w7 ho hb hg ha_; have n0_ := RowAt.pushed HBX.out HRV.out.1 hle ho hb hg; obtain ⟨A1_, c1_, rfl⟩ := Kd.R_slice ho; obtain ⟨n1_, n2_, n3_⟩ := n0_; rw [show (init ++ [last] ++ [(⟨#[]⟩ : ByteArray)]).length = init.length + 2 by simp] at n3_; have HR := Aside0.mk n3_; clear n3_ ho hb hg ha_ HRV HBL HBX))
              go_roundg k1
              case measure => omega
              case rel => exact ⟨_, _, _, rfl, HN, HR⟩
            · rw [if_neg c4] at H; exact absurd H (by simp)
          · rw [if_neg c3] at H
            have c3b0 : ((bt s 0) == 38) = false := beq_eq_false_iff_ne.mpr c3
            clear c3
            replace H := Option.bind_eq_some_iff.1 H
            obtain ⟨p, hp, H⟩ := H
            have HP := Aside0.mk hp
            clear hp
            by_cases c4 : p = true
            · subst c4
              rw [if_pos rfl] at H
              by_cases c5 : 1 < s.size
              · rw [if_pos c5] at H
                have HN := Aside0.mk H
                clear H
                have hx1 : ∀ h : 0 < (s.extract 1 s.size).size, (((s.extract 1 s.size)[0]'h).toNat : Int) = bt (s.extract 1 s.size) 0 := Go.Proofs.YthnfmpieoondaaaW.PrintWords.bt_at (s.extract 1 s.size) 0
                have EX := Aside0.mk (show (s.extract 1 s.size).size = s.size - 1 by simp [ByteArray.size_extract])
                have HBR := Aside0.mk (bt_range (s.extract 1 s.size) 0)
                have qi5 : (0 < s.size - 1) = True := eq_true (by omega)
                have qn5 : (1 ≤ s.size - 1) = True := eq_true (by omega)
                have qm5 : (0 < ((s.size - 1 : Nat) : Int)) = True := eq_true (by omega)
                have qo5 : (1 ≤ ((s.size - 1 : Nat) : Int)) = True := eq_true (by omega)
                replace c5 := eq_true c5
                clear hbr
                go_wp2_with (go_at_call 36; refine (strings_HasPrefix.calls _ _ true _ HP.out).mono ?_; rintro e w' ⟨rfl, ⟨nd, rfl⟩⟩)
                have HR2 := Aside0.mk (HR.out.drewN nd)
                clear HR
                go_wp2_with (go_at_call 35; refine (lay_at HBR.out.1 HBR.out.2 HSZ.out HR2.out).mono ?_; rintro e w' ⟨rfl, hr⟩; have HR := Aside0.mk hr; clear hr HR2)
                go_roundg k1
                case measure => omega
                case rel => exact ⟨_, _, _, by rw [EX.out], HN, HR⟩
              · rw [if_neg c5] at H; exact absurd H (by simp)
            · obtain rfl : p = false := Bool.eq_false_iff.2 c4
              rw [if_neg (by decide)] at H
              by_cases c5 : bt s 0 ≠ 92 ∧ bt s 0 ≠ 47 ∧ bt s 0 ≠ 10
              · rw [if_pos c5] at H
                have HN := Aside0.mk H
                clear H c4
                have d1 : ((bt s 0) != 92) = true := bne_iff_ne.mpr c5.1
                have d2 : ((bt s 0) != 47) = true := bne_iff_ne.mpr c5.2.1
                have d3 : ((bt s 0) != 10) = true := bne_iff_ne.mpr c5.2.2
                have HBR := Aside0.mk hbr
                clear c5 hbr
                go_wp2_with (go_at_call 36; refine (strings_HasPrefix.calls _ _ false _ HP.out).mono ?_; rintro e w' ⟨rfl, ⟨nd, rfl⟩⟩)
                have HR2 := Aside0.mk (HR.out.drewN nd)
                clear HR
                go_wp2_with (go_at_call 35; refine (lay_at HBR.out.1 HBR.out.2 HSZ.out HR2.out).mono ?_; rintro e w' ⟨rfl, hr⟩; have HR := Aside0.mk hr; clear hr HR2)
                go_roundg k1
                case measure => omega
                case rel => exact ⟨_, _, _, rfl, HN, HR⟩
              · rw [if_neg c5] at H
                replace H := Option.bind_eq_some_iff.1 H
                obtain ⟨⟨q1, q2_, q3⟩, hq, H⟩ := H
                have HQ := Aside0.mk hq
                have HC := Aside0.mk H
                clear hq H c4
                have hcase : (((bt s 0) != 92) = false) ∨ (((bt s 0) != 92) = true ∧ ((bt s 0) != 47) = false) ∨ (((bt s 0) != 92) = true ∧ ((bt s 0) != 47) = true ∧ ((bt s 0) != 10) = false) := by
                  by_cases d1 : bt s 0 = 92
                  · exact .inl (bne_eq_false_iff_eq.mpr d1)
                  · by_cases d2 : bt s 0 = 47
                    · exact .inr (.inl ⟨bne_iff_ne.mpr d1, bne_eq_false_iff_eq.mpr d2⟩)
                    · exact .inr (.inr ⟨bne_iff_ne.mpr d1, bne_iff_ne.mpr d2, bne_eq_false_iff_eq.mpr (Decidable.byContradiction fun d3 => c5 ⟨d1, d2, d3⟩)⟩)
                clear c5 hbr
                by_cases e1 : q3 ≠ 0 ∨ bt s 0 ≠ 92
                · have H := HC.out
                  dsimp only at H
                  rw [if_pos e1] at H
                  obtain ⟨rfl, rfl⟩ := Prod.mk.inj (Option.some.inj H)
                  have he : (q3 != 0) = true ∨ ((q3 != 0) = false ∧ ((bt s 0) != 92) = true) := by
                    by_cases z : q3 = 0
                    · exact .inr ⟨bne_eq_false_iff_eq.mpr z, bne_iff_ne.mpr (e1.resolve_left (fun n => n z))⟩
                    · exact .inl (bne_iff_ne.mpr z)
                  clear H e1 HC
                  have HBL := Aside0.mk HR.out.bel
                  clear HR
                  rcases he with he | ⟨he, he'⟩
                  · rcases hcase with d1 | ⟨d1, d2⟩ | ⟨d1, d2, d3⟩
                    all_goals
                      go_wp2_with (first | (go_at_call 36; refine (strings_HasPrefix.calls _ _ false _ HP.out).mono ?_; rintro e w' ⟨rfl, ⟨nd, rfl⟩⟩) | (go_at_call 37; refine (class_Sign.calls _ _ _ _ _ _ HQ.out).mono ?_; rintro e w' ⟨rfl, ⟨nd, rfl⟩⟩))
                      rw [Exit.noGoto_ret]
                      go_ret2
                      exact ⟨_, rfl, Kd.R_nil _ _ _ _ _, by repeat (first | exact HBL.out | apply pw_below_drewN)⟩
                  · rcases hcase with d1 | ⟨d1, d2⟩ | ⟨d1, d2, d3⟩
                    · exact absurd (he'.symm.trans d1) (by decide)
                    all_goals
                      clear he'
                      go_wp2_with (first | (go_at_call 36; refine (strings_HasPrefix.calls _ _ false _ HP.out).mono ?_; rintro e w' ⟨rfl, ⟨nd, rfl⟩⟩) | (go_at_call 37; refine (class_Sign.calls _ _ _ _ _ _ HQ.out).mono ?_; rintro e w' ⟨rfl, ⟨nd, rfl⟩⟩))
                      rw [Exit.noGoto_ret]
                      go_ret2
                      exact ⟨_, rfl, Kd.R_nil _ _ _ _ _, by repeat (first | exact HBL.out | apply pw_below_drewN)⟩
                · have H := HC.out
                  dsimp only at H
                  rw [if_neg e1] at H
                  by_cases e2 : 0 ≤ q1 ∧ q1 ≤ 255 ∧ 0 ≤ q2_ ∧ q2_ ≤ (s.size : Int)
                  · rw [if_pos e2] at H
                    have HN := Aside0.mk H
                    have z1 : q3 = 0 := Decidable.byContradiction fun n => e1 (.inl n)
                    have z2 : bt s 0 = 92 := Decidable.byContradiction fun n => e1 (.inr n)
                    subst z1
                    have d1 : ((bt s 0) != 92) = false := bne_eq_false_iff_eq.mpr z2
                    obtain ⟨a1, a2, a3, a4⟩ := e2
                    have HB1 := Aside0.mk a1
                    have HB2 := Aside0.mk a2
                    have a3b : decide (0 ≤ q2_) = true := decide_eq_true a3
                    have a4b : decide (q2_ ≤ (s.size : Int)) = true := decide_eq_true a4
                    have a5 : (q2_.toNat ≤ s.size) = True := eq_true (by omega)
                    replace a3 := eq_true a3
                    replace a4 := eq_true a4
                    clear H e1 HC z2 a1 a2 hcase
                    go_wp2_with (first | (go_at_call 36; refine (strings_HasPrefix.calls _ _ false _ HP.out).mono ?_; rintro e w' ⟨rfl, ⟨nd, rfl⟩⟩) | (go_at_call 37; refine (class_Sign.calls _ _ _ _ _ _ HQ.out).mono ?_; rintro e w' ⟨rfl, ⟨nd2, rfl⟩⟩))
                    have HR2 := Aside0.mk (HR.out.drewN (nd + nd2))
                    clear HR
                    go_wp2_with (go_at_call 35; refine (lay_at HB1.out HB2.out HSZ.out HR2.out).mono ?_; rintro e w' ⟨rfl, hr⟩; have HR := Aside0.mk hr; clear hr HR2)
                    go_roundg k1
                    case measure => omega
                    case rel => exact ⟨_, _, _, rfl, HN, HR⟩
                  · rw [if_neg e2] at H; exact absurd H (by simp)
end Go.Proofs.Ythnfmpieoondaaa.G
end

/- subst.replaced, walked. -/
section
set_option linter.unusedVariables false
set_option linter.unusedSimpArgs false
namespace Go.Proofs.Ythnfmpieoondaaa.G
open Go.RowKit Go.Proofs.YthnfmpieoondaaaW.PrintWords Go.Proofs.YthnfmpieoondaaaW.PrintLast Go.Proofs.YthnfmpieoondaaaW.PrintMore Go.Proofs.Ythnfmpieoondaaa.QA Go.Proofs.Ythnfmpieoondaaa.QB
/-- A text with spans replaced, from one on. -/
def subst_replaced.l0 : Nat → ByteArray → List S28 → List ByteArray → List UInt8 → Int → Int → Option (List UInt8)
  | 0, _, _, _, _, _, _ => none
  | k + 1, s, x1, x2, acc, at_, i => if i < (x1.length : Int) then (if 0 ≤ i ∧ 0 ≤ at_ ∧ at_ ≤ (rd_T28 x1 i).f0 ∧ (rd_T28 x1 i).f0 ≤ (rd_T28 x1 i).f1 ∧ (rd_T28 x1 i).f1 ≤ (s.size : Int) then
      (subst_Put.f x2 (s.extract (rd_T28 x1 i).f0.toNat (rd_T28 x1 i).f1.toNat)).bind fun u =>
        if (s.extract at_.toNat (rd_T28 x1 i).f0.toNat).size + u.size ≤ 9223372036854775807 ∧ acc.length + (s.extract at_.toNat (rd_T28 x1 i).f0.toNat ++ u).size ≤ 140737488355328 then
          subst_replaced.l0 k s x1 x2 (acc ++ (s.extract at_.toNat (rd_T28 x1 i).f0.toNat ++ u).data.toList) (rd_T28 x1 i).f1 (wrap64 (i + 1)) else none else none)
      else if 0 ≤ at_ ∧ at_ ≤ (s.size : Int) ∧ acc.length + (s.extract at_.toNat s.size).size ≤ 140737488355328 then some (acc ++ (s.extract at_.toNat s.size).data.toList) else none
def subst_replaced.f (k : Nat) (s : ByteArray) (x1 : List S28) (x2 : List ByteArray) : Option (ByteArray × Int) := (subst_replaced.l0 k s x1 x2 [] 0 0).bind fun acc => some (⟨acc.toArray⟩, (x1.length : Int))
theorem subst_replaced.mono_l : ∀ k, (∀ y0 y1 y2 y3 y4 y5, LeO (subst_replaced.l0 k y0 y1 y2 y3 y4 y5) (subst_replaced.l0 (k + 1) y0 y1 y2 y3 y4 y5))
  | 0 => fun _ _ _ _ _ _ r h => by simp [subst_replaced.l0] at h
  | k + 1 => by
    have ih0 := subst_replaced.mono_l k
    intro y0 y1 y2 y3 y4 y5
    unfold subst_replaced.l0
    exact LeO.ite (LeO.ite (LeO.bind (LeO.refl _) fun _ => LeO.ite (ih0 _ _ _ _ _ _) (LeO.refl _)) (LeO.refl _)) (LeO.refl _)
theorem subst_replaced.mono : ∀ a0 a1 a2 k, LeO (subst_replaced.f k a0 a1 a2) (subst_replaced.f (k + 1) a0 a1 a2) := by
  intro a0 a1 a2 k
  unfold subst_replaced.f
  exact LeO.bind (subst_replaced.mono_l k _ _ _ _ _ _) fun _ => LeO.refl _
theorem subst_Read.mono_l : ∀ k, (∀ y0 y1 y2, LeO (subst_Read.l0 k y0 y1 y2) (subst_Read.l0 (k + 1) y0 y1 y2))
  | 0 => fun _ _ _ r h => by simp [subst_Read.l0] at h
  | k + 1 => by
    have ih0 := subst_Read.mono_l k
    intro y0 y1 y2
    unfold subst_Read.l0
    exact LeO.ite (LeO.refl _) (LeO.ite (LeO.refl _) (LeO.ite (LeO.ite (ih0 _ _ _) (LeO.refl _)) (LeO.bind (LeO.refl _) fun _ => LeO.ite (LeO.ite (ih0 _ _ _) (LeO.refl _)) (LeO.ite (ih0 _ _ _) (LeO.bind (class_Sign.mono _ k) fun _ => LeO.ite (LeO.refl _) (LeO.ite (ih0 _ _ _) (LeO.refl _)))))))
theorem subst_Read.mono : ∀ a0 k, LeO (subst_Read.f k a0) (subst_Read.f (k + 1) a0) := fun a0 k => subst_Read.mono_l k _ _ _
theorem isB_below {B b : Nat} {bs : List Value} {w W : World} (h : Lib.IsBuilder 76 5 B b bs w) (hb : Below w.heap.size w W) : Lib.IsBuilder 76 5 B b bs W := by
  rcases h with ⟨h1, v, h2, h3, h4⟩ | ⟨h1, v, h2, h3, h4⟩
  · exact .inl ⟨h1, v, blk_below h2 hb, pw_own_below h3 hb, h4⟩
  · exact .inr ⟨h1, v, blk_below h2 hb, pw_own_below h3 hb, h4⟩
set_option maxHeartbeats 8000000 in
set_option maxRecDepth 100000 in
theorem subst_replaced.calls (k : Nat) (a0 : ByteArray) (A1 : Option Addr) (c1 : Nat) (l1 : List S28) (A2 : Option Addr) (c2 : Nat) (l2 : List ByteArray) (r1 : ByteArray) (r2 : Int) (w : World)
    (hr1 : Kd.C k28 w A1 l1.length l1) (hc1 : l1.length ≤ c1) (hr2 : Kd.C Kd.string w A2 l2.length l2) (hc2 : l2.length ≤ c2) (h : subst_replaced.f k a0 l1 l2 = some (r1, r2)) :
    Calls Try.prog 29 #[.string a0, .slice A1 l1.length c1, .slice A2 l2.length c2] w fun e w' => e = .returned (.tuple #[.string r1, .int .i64 r2]) ∧ Below w.heap.size w w' := by
  have HR1 := Aside0.mk hr1
  have HR2 := Aside0.mk hr2
  have HC2 := Aside0.mk hc2
  unfold subst_replaced.f at h
  obtain ⟨outs, h1, h2⟩ := Option.bind_eq_some_iff.1 h
  obtain ⟨rfl, rfl⟩ := Prod.mk.inj (Option.some.inj h2)
  have H' := Aside0.mk h1
  clear h h1 h2 hr1 hr2 hc1 hc2
  have HB0 := Aside0.mk ((Below.refl w.heap.size w).alloc (Nat.le_refl _) (.cells #[.pointer none, .slice none 0 0] 76))
  have HI0 := Aside0.mk (Lib.fresh_isBuilder 76 5 w)
  go_enter Try.func29, Try.ntmps29
  go_wp2
  go_loopg [9, 14] k (fun kq v9 v14 w' => ∃ (acc : List UInt8) (x9 x14 : Int), v9 = .int .i64 x9 ∧ v14 = .int .i64 x14 ∧ Aside0 (subst_replaced.l0 kq a0 l1 l2 acc x9 x14 = some outs) ∧ Aside0 (Lib.IsBuilder 76 5 w.heap.size w.heap.size (Lib.byteCells acc) w') ∧ Aside0 (Below w.heap.size w w'))
  case atStart => exact ⟨[], 0, 0, rfl, rfl, H', HI0, HB0⟩
  case round =>
    clear H' HI0 HB0
    obtain ⟨acc, x9, x14, rfl, rfl, HA, HI, HB⟩ := hrel
    cases gk with
    | zero => exact absurd HA.out (by simp [subst_replaced.l0])
    | succ k1 =>
      have H := HA.out
      clear HA
      simp only [subst_replaced.l0] at H
      by_cases c3 : x14 < (l1.length : Int)
      · rw [if_pos c3] at H
        have c3b0 : decide (x14 < (l1.length : Int)) = true := decide_eq_true c3
        by_cases c4 : 0 ≤ x14 ∧ 0 ≤ x9 ∧ x9 ≤ (rd_T28 l1 x14).f0 ∧ (rd_T28 l1 x14).f0 ≤ (rd_T28 l1 x14).f1 ∧ (rd_T28 l1 x14).f1 ≤ (a0.size : Int)
        · rw [if_pos c4] at H
          replace H := Option.bind_eq_some_iff.1 H
          obtain ⟨u, hu, H⟩ := H
          have HU := Aside0.mk hu
          by_cases c5 : (a0.extract x9.toNat (rd_T28 l1 x14).f0.toNat).size + u.size ≤ 9223372036854775807 ∧ acc.length + (a0.extract x9.toNat (rd_T28 l1 x14).f0.toNat ++ u).size ≤ 140737488355328
          · rw [if_pos c5] at H
            have HN := Aside0.mk H
            clear H hu
            obtain ⟨d0, d1, d2, d3, d4⟩ := c4
            have HC1 := Aside0.mk (Kd.C_below HR1.out HB.out)
            obtain ⟨ad, e4, hx4, hx5⟩ := at_T28 HC1.out x14 d0 c3
            cases e4
            clear HC1
            generalize hf0 : (rd_T28 l1 x14).f0 = f0 at *
            generalize hf1 : (rd_T28 l1 x14).f1 = f1 at *
            clear hf0 hf1
            have D0 := Aside0.mk d0
            have b1 : decide (0 ≤ x9) = true := decide_eq_true d1
            have b2 : decide (x9 ≤ f0) = true := decide_eq_true d2
            have b3 : decide (0 ≤ f0) = true := decide_eq_true (by omega)
            have b4 : decide (f0 ≤ f1) = true := decide_eq_true d3
            have b5 : decide (f1 ≤ (a0.size : Int)) = true := decide_eq_true d4
            have b6 : decide (f0 ≤ (a0.size : Int)) = true := decide_eq_true (by omega)
            have e3 : (0 ≤ f0) = True := eq_true (by omega)
            have e6 : (f0 ≤ (a0.size : Int)) = True := eq_true (by omega)
            have e7 : (x9.toNat ≤ f0.toNat) = True := eq_true (by omega)
            have e8 : (f0.toNat ≤ f1.toNat) = True := eq_true (by omega)
            have e9 : (f0.toNat ≤ a0.size) = True := eq_true (by omega)
            have e10 : (f1.toNat ≤ a0.size) = True := eq_true (by omega)
            replace c3 := eq_true c3
            replace d0 := eq_true d0
            replace d1 := eq_true d1
            replace d2 := eq_true d2
            replace d3 := eq_true d3
            replace d4 := eq_true d4
            have S5 := Aside0.mk c5
            have z1 : decide ((a0.extract x9.toNat f0.toNat).size + u.size ≤ 9223372036854775807) = true := decide_eq_true c5.1
            have z2 : (9223372036854775807 < (a0.extract x9.toNat f0.toNat).size + u.size) = False := eq_false (Nat.not_lt.2 c5.1)
            have z3 := z2
            simp only [ByteArray.size_extract, Nat.min_self] at z3
            have z4 : (9223372036854775807 < f0.toNat - x9.toNat + u.size) = False := by
              rw [← z3, Nat.min_eq_left (of_eq_true e9)]
            clear c5
            go_wp2_with fail
            have HI1 := Aside0.mk (isB_below HI.out (below_alloc (Below.refl wr.heap.size wr) (.cells #[.int .i64 f0, .int .i64 f1] 28)))
            have HB1 := Aside0.mk (below_alloc HB.out (.cells #[.int .i64 f0, .int .i64 f1] 28))
            have HX := Aside0.mk (blk_new wr (.cells #[.int .i64 f0, .int .i64 f1] 28))
            have HGX := Aside0.mk (show wr.heap.size ≠ w.heap.size by have := HB.out.size; have h9 := HI.out; rcases h9 with h9 | h9 <;> (have := h9.lt; omega))
            generalize wr.heap.size = gx at HX HGX ⊢
            generalize hW0 : wr.alloc (.cells #[.int .i64 f0, .int .i64 f1] 28) = W0 at HI1 HB1 HX ⊢
            clear hW0 HI HB hx4 hx5
            have y0 : W0.cell? ⟨gx, 0, none⟩ = some (.int .i64 f0) := (blk_cell HX.out 0).trans rfl
            have y1 : W0.cell? ⟨gx, 1, none⟩ = some (.int .i64 f1) := (blk_cell HX.out 1).trans rfl
            go_region_held3 (fun w' => w'.cell? ⟨gx, 0, none⟩ = some (.int .i64 f0) ∧ w'.cell? ⟨gx, 1, none⟩ = some (.int .i64 f1)) (first | go_keep | (exact ⟨(blk_cell ((hb.block gx (blk_lt HX.out)).trans HX.out) 0).trans rfl, (blk_cell ((hb.block gx (blk_lt HX.out)).trans HX.out) 1).trans rfl⟩) | (have hX2 := (hkk gx _ _ ((hb.block gx (blk_lt HX.out)).trans HX.out) (by decide) HGX.out).trans ((hb.block gx (blk_lt HX.out)).trans HX.out); exact ⟨(blk_cell hX2 0).trans rfl, (blk_cell hX2 1).trans rfl⟩))
              (first | (go_at_call 15; refine (subst_Put.calls _ _ l2 _ u _ (Kd.C_below HR2.out (by first | exact HB1.out | exact below_drew HB1.out | exact pw_below_drewN HB1.out _)) HC2.out HU.out).mono ?_; rintro e w' ⟨rfl, hb⟩) | (go_at_call 45; refine (writeString w.heap.size w.heap.size (Lib.byteCells acc) (a0.extract x9.toNat f0.toNat ++ u) w' (isB_below HI1.out (by first | exact hb | exact ⟨hb.os, hb.tape, hb.output, hb.size, hb.block⟩)) (by rw [Lib.byteCells_length]; exact S5.out.2) (Nat.le_trans HB1.out.size hb.size)).mono ?_; rintro e w2 ⟨rfl, hbu, hbb, hkk⟩))
            have hX2 := (hkk gx _ _ ((hb.block gx (blk_lt HX.out)).trans HX.out) (by decide) HGX.out).trans ((hb.block gx (blk_lt HX.out)).trans HX.out)
            have y2 : w2.cell? ⟨gx, 1, none⟩ = some (.int .i64 f1) := (blk_cell hX2 1).trans rfl
            have HB3 := Aside0.mk ((HB1.out.trans (Below.mono (show Below W0.heap.size W0 w' from ⟨hb.os, hb.tape, hb.output, hb.size, hb.block⟩) HB1.out.size)).trans hbb)
            have HI3 := Aside0.mk (show Lib.IsBuilder 76 5 w.heap.size w.heap.size (Lib.byteCells (acc ++ (a0.extract x9.toNat f0.toNat ++ u).data.toList)) w2 by rw [Lib.byteCells_append]; exact .inr hbu)
            clear hX2 hkk hbu hbb hb y0 y1 HX HB1 HI1
            go_wp2
            go_roundg k1
            case measure => omega
            case rel => exact ⟨_, _, _, by first | rfl | (simp; done), by first | rfl | (simp; done), HN, HI3, HB3⟩
          · rw [if_neg c5] at H; exact absurd H (by simp)
        · rw [if_neg c4] at H; exact absurd H (by simp)
      · rw [if_neg c3] at H
        have c3b0 : decide (x14 < (l1.length : Int)) = false := decide_eq_false c3
        by_cases c4 : 0 ≤ x9 ∧ x9 ≤ (a0.size : Int) ∧ acc.length + (a0.extract x9.toNat a0.size).size ≤ 140737488355328
        · rw [if_pos c4] at H
          obtain rfl := Option.some.inj H
          obtain ⟨d1, d2, d3⟩ := c4
          have b1 : decide (0 ≤ x9) = true := decide_eq_true d1
          have b2 : decide (x9 ≤ (a0.size : Int)) = true := decide_eq_true d2
          have e1 : (x9.toNat ≤ a0.size) = True := eq_true (by omega)
          have D3 := Aside0.mk d3
          replace d1 := eq_true d1
          replace d2 := eq_true d2
          clear H c3 d3
          go_wp2_with (go_at_call 45; refine (writeString w.heap.size w.heap.size (Lib.byteCells acc) (a0.extract x9.toNat a0.size) _ HI.out (by rw [Lib.byteCells_length]; exact D3.out) HB.out.size).mono ?_; rintro e w2 ⟨rfl, hbu, hbb, hkk⟩)
          have HB3 := Aside0.mk (HB.out.trans hbb)
          have HI3 := Aside0.mk (show Lib.IsBuilder 76 5 w.heap.size w.heap.size (Lib.byteCells (acc ++ (a0.extract x9.toNat a0.size).data.toList)) w2 by rw [Lib.byteCells_append]; exact .inr hbu)
          clear hkk hbu hbb HB HI
          go_wp2_with (go_at_call 46; refine (builderString w.heap.size w.heap.size _ _ HI3.out HB3.out.size).mono ?_; rintro e w3 ⟨rfl, hb⟩)
          have HL := Aside0.mk (show acc ++ List.take (a0.size - x9.toNat) (List.drop x9.toNat a0.data.toList) = acc ++ (a0.extract x9.toNat a0.size).data.toList by simp)
          go_ret2
          exact ⟨by rw [← HL.out]; rfl, HB3.out.trans hb⟩
        · rw [if_neg c4] at H; exact absurd H (by simp)
end Go.Proofs.Ythnfmpieoondaaa.G
end
