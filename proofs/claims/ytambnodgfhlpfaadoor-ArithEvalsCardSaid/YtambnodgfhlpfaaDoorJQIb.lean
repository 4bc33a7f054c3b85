import Derived.Test.YtambnodgfhlpfaaDoorProg
import Derived.Below
import Derived.Deep.Draws
import Derived.Deep.AppendLies
import Derived.Maps.AppendAt
import Derived.OwnWalk
import Derived.Laws.BytesArg
import Derived.Laws.MakeOwn
import Derived.Laws.OwnMore
import Derived.Deep.OwnRows
import Derived.Tactics
import Derived.Lib.ConvBytes
import Derived.Laws.Slices
import Derived.WalkKit
import Derived.KernelRfl
import Derived.RowKit3
import Derived.Deep.LoopGhost
import Derived.Deep.QuietTactic
import Derived.BigQuiet
import Derived.WideLaws
import Derived.Deep.DeepCutAuto
import Derived.Deep.CutBlock
import Derived.Deep.RegionHeld3
import Derived.Laws.Rows
import Derived.Lib.AppendStr
import Derived.ArgAppend
import Derived.Laws.IdiomCopy
import Derived.OrdersHeld
import Derived.Laws.BitsLemmas
import Derived.RowKit
import Derived.Test.YtambnodgfhlpfaaDoorJQHx2
import Derived.Test.YtambnodgfhlpfaaDoorJWWords
import Derived.Test.YtambnodgfhlpfaaDoorJWLast
import Derived.Test.YtambnodgfhlpfaaDoorJWTab
import Derived.Test.YtambnodgfhlpfaaDoorJWApart
import Derived.Test.YtambnodgfhlpfaaDoorJWFoot
import Derived.Test.YtambnodgfhlpfaaDoorJWKept
import Derived.Test.YtambnodgfhlpfaaDoorJWShare
import Derived.Test.YtambnodgfhlpfaaDoorJWN
import Derived.Test.YtambnodgfhlpfaaDoorJWEqStruct
import Derived.Test.YtambnodgfhlpfaaDoorJWRepsOne
import Derived.Test.YtambnodgfhlpfaaDoorJWMore
/- The Go functions of this part as Lean functions, each with a proof that a call of it comes to just what the Lean function does. Written by a program of the session's. Conditions: none but those in each theorem. -/
namespace Go.Proofs.YtambnodgfhlpfaaDoor.QI
open Go.Proofs.YtambnodgfhlpfaaDoor.G Go.Proofs.YtambnodgfhlpfaaDoor.QA Go.Proofs.YtambnodgfhlpfaaDoor.QG Go.Proofs.YtambnodgfhlpfaaDoor.QH
open Go.RowKit Go.Proofs.YtambnodgfhlpfaaDoorW.PrintWords Go.Proofs.YtambnodgfhlpfaaDoorW.PrintLast Go.Proofs.YtambnodgfhlpfaaDoorW.PrintMore
attribute [local go_sem] max2_int min2_int max_two min_two max_three min_three max_four min_four   -- for this text's walks alone
set_option linter.unusedVariables false
set_option linter.unusedSimpArgs false



def errW : Option Int → Value
  | none => .nilIface
  | some c => .iface 0 (.int .i64 c)
theorem errW_none : errW none = .nilIface := rfl
theorem errW_some (c : Int) : errW (some c) = .iface 0 (.int .i64 c) := rfl

-- the values' own types

end Go.Proofs.YtambnodgfhlpfaaDoor.QI

/- The Go functions of this part as Lean functions, each with a proof that a call of it comes to just what the Lean function does. Written by a program of the session's. Conditions: none but those in each theorem. -/
namespace Go.Proofs.YtambnodgfhlpfaaDoor.QI
open Go.Proofs.YtambnodgfhlpfaaDoor.G Go.Proofs.YtambnodgfhlpfaaDoor.QA Go.Proofs.YtambnodgfhlpfaaDoor.QG Go.Proofs.YtambnodgfhlpfaaDoor.QH
open Go.RowKit Go.Proofs.YtambnodgfhlpfaaDoorW.PrintWords Go.Proofs.YtambnodgfhlpfaaDoorW.PrintLast Go.Proofs.YtambnodgfhlpfaaDoorW.PrintMore
attribute [local go_sem] max2_int min2_int max_two min_two max_three min_three max_four min_four   -- for this text's walks alone
set_option linter.unusedVariables false
set_option linter.unusedSimpArgs false
variable [Inhabited OrG]

/-! ### dragomanref10_eval_or: function 32 -/
def dragomanref10_eval_or.l0 : Nat → Bool → Int → ByteArray → Int → Int → List (S39) → Int → Int → Option (Int × ByteArray × Int × Int × Int × Int)
  | 0, _, _, _, _, _, _, _, _ => none
  | k + 1, x1, x5, x1000, x1001, x1002, x1003, x1004, x1005 => (dragomanref10_eval_is.f k x1000 x1001 x1002 x1003 x1004 x1005 (⟨#[124, 124]⟩ : ByteArray)).bind fun bt107 => (if bt107.1 = true then (if x1 = true then ((dragomanref10_eval_and.f k bt107.2.1 bt107.2.2.1 bt107.2.2.2.1 x1003 bt107.2.2.2.2.1 bt107.2.2.2.2.2 (x5 == 0)).bind fun bt113 => (if x5 = 0 then ((dragomanref10_one.f (bt113.1 != 0)).bind fun t119 => (dragomanref10_eval_or.l0 k x1 t119 bt113.2.1 bt113.2.2.1 bt113.2.2.2.1 x1003 bt113.2.2.2.2.1 bt113.2.2.2.2.2)) else ((dragomanref10_one.f true).bind fun t120 => (dragomanref10_eval_or.l0 k x1 t120 bt113.2.1 bt113.2.2.1 bt113.2.2.2.1 x1003 bt113.2.2.2.2.1 bt113.2.2.2.2.2)))) else ((dragomanref10_eval_and.f k bt107.2.1 bt107.2.2.1 bt107.2.2.2.1 x1003 bt107.2.2.2.2.1 bt107.2.2.2.2.2 false).bind fun bt121 => (if x5 = 0 then ((dragomanref10_one.f (bt121.1 != 0)).bind fun t127 => (dragomanref10_eval_or.l0 k x1 t127 bt121.2.1 bt121.2.2.1 bt121.2.2.2.1 x1003 bt121.2.2.2.2.1 bt121.2.2.2.2.2)) else ((dragomanref10_one.f true).bind fun t128 => (dragomanref10_eval_or.l0 k x1 t128 bt121.2.1 bt121.2.2.1 bt121.2.2.2.1 x1003 bt121.2.2.2.2.1 bt121.2.2.2.2.2))))) else (some (x5, bt107.2.1, bt107.2.2.1, bt107.2.2.2.1, bt107.2.2.2.2.1, bt107.2.2.2.2.2)))
def dragomanref10_eval_or.f (k : Nat) (s0_0 : ByteArray) (s0_1 : Int) (s0_2 : Int) (s0_3 : List (S39)) (s0_4 : Int) (s0_5 : Int) (a1 : Bool) : Option (Int × ByteArray × Int × Int × Int × Int) := (dragomanref10_eval_and.f k s0_0 s0_1 s0_2 s0_3 s0_4 s0_5 a1).bind fun bt101 => (dragomanref10_eval_or.l0 k a1 bt101.1 bt101.2.1 bt101.2.2.1 bt101.2.2.2.1 s0_3 bt101.2.2.2.2.1 bt101.2.2.2.2.2)
theorem dragomanref10_eval_or.mono_l : ∀ k, (∀ y0 y1 y2 y3 y4 y5 y6 y7, LeO (dragomanref10_eval_or.l0 k y0 y1 y2 y3 y4 y5 y6 y7) (dragomanref10_eval_or.l0 (k + 1) y0 y1 y2 y3 y4 y5 y6 y7))
  | 0 => fun _ _ _ _ _ _ _ _ r h => by simp [dragomanref10_eval_or.l0] at h
  | k + 1 => by
    have ih0 := dragomanref10_eval_or.mono_l k
    · intro y0 y1 y2 y3 y4 y5 y6 y7
      unfold dragomanref10_eval_or.l0
      repeat' first
      | (with_reducible exact ih0 _ _ _ _ _ _ _ _)
      | (with_reducible exact dragomanref10_eval_and.mono _ _ _ _ _ _ _ _)
      | (with_reducible exact dragomanref10_eval_is.mono _ _ _ _ _ _ _ _)
      | (with_reducible exact LeO.refl _)
      | (with_reducible exact LeO.none _)
      | (with_reducible refine LeO.ite ?_ ?_)
      | (with_reducible refine LeO.bind ?_ (fun _ => ?_))
      | exact ih0 _ _ _ _ _ _ _ _
      | exact dragomanref10_eval_and.mono _ _ _ _ _ _ _ _
      | exact dragomanref10_eval_is.mono _ _ _ _ _ _ _ _
      | exact LeO.none _
      | refine LeO.ite ?_ ?_
      | refine LeO.bind ?_ (fun _ => ?_)
theorem dragomanref10_eval_or.mono : ∀ a0 a1 a2 a3 a4 a5 a6 k, LeO (dragomanref10_eval_or.f k a0 a1 a2 a3 a4 a5 a6) (dragomanref10_eval_or.f (k + 1) a0 a1 a2 a3 a4 a5 a6) := by
  intro a0 a1 a2 a3 a4 a5 a6 k
  have ih0 := dragomanref10_eval_or.mono_l k
  unfold dragomanref10_eval_or.f
  repeat' first
      | (with_reducible exact ih0 _ _ _ _ _ _ _ _)
      | (with_reducible exact dragomanref10_eval_and.mono _ _ _ _ _ _ _ _)
      | (with_reducible exact dragomanref10_eval_is.mono _ _ _ _ _ _ _ _)
      | (with_reducible exact LeO.refl _)
      | (with_reducible exact LeO.none _)
      | (with_reducible refine LeO.ite ?_ ?_)
      | (with_reducible refine LeO.bind ?_ (fun _ => ?_))
      | exact ih0 _ _ _ _ _ _ _ _
      | exact dragomanref10_eval_and.mono _ _ _ _ _ _ _ _
      | exact dragomanref10_eval_is.mono _ _ _ _ _ _ _ _
      | exact LeO.none _
      | refine LeO.ite ?_ ?_
      | refine LeO.bind ?_ (fun _ => ?_)
set_option maxHeartbeats 8000000 in
set_option maxRecDepth 100000 in
theorem dragomanref10_eval_or.calls (k : Nat) (g : Nat) (s0_0 : ByteArray) (s0_1 : Int) (s0_2 : Int) (s0_3 : List (S39)) (s0_4 : Int) (s0_5 : Int) (a1 : Bool) (r1 : Int) (r2 : ByteArray) (r3 : Int) (r4 : Int) (r5 : Int) (r6 : Int) (w0 w : World) (hI : IsS67 w0 w g s0_0 s0_1 s0_2 s0_3 s0_4 s0_5) (hB : Below w0.heap.size w0 w) (h : dragomanref10_eval_or.f k s0_0 s0_1 s0_2 s0_3 s0_4 s0_5 a1 = some (r1, r2, r3, r4, r5, r6)) :
    Calls Tryd.prog 32 #[.pointer (some ⟨g, 0, none⟩), .bool a1] w fun e w' => e = .returned (.int .i64 r1) ∧ IsS67 w0 w' g r2 r3 r4 s0_3 r5 r6 ∧ Below w0.heap.size w0 w' ∧ KeepBut w w' g none := by
  have HI0 := Aside0.mk hI
  have HK := Aside0.mk (KeepBut.refl w g none)
  have HL := Aside0.mk hB.size
  clear hI
  have HW0 := Aside0.mk hB.size
  have HB := Aside0.mk hB
  clear hB
  have H : ((dragomanref10_eval_and.f k s0_0 s0_1 s0_2 s0_3 s0_4 s0_5 a1).bind fun bt101 => (dragomanref10_eval_or.l0 k a1 bt101.1 bt101.2.1 bt101.2.2.1 bt101.2.2.2.1 s0_3 bt101.2.2.2.2.1 bt101.2.2.2.2.2)) = some (r1, r2, r3, r4, r5, r6) := h
  clear h
  replace H := Option.bind_eq_some_iff.mp H
  obtain ⟨⟨t101, t102, t103, t104, t105, t106⟩, A30, H⟩ := H
  replace H : (dragomanref10_eval_or.l0 k a1 t101 t102 t103 t104 s0_3 t105 t106) = some (r1, r2, r3, r4, r5, r6) := H
  have A3 := Aside0.mk A30
  clear A30
  have H' := Aside0.mk H
  clear H
  go_enter Tryd.func32, Tryd.ntmps32
  go_wp2_with (first | ((with_reducible refine gate_callee (f := 49) rfl ?_); refine goesL_ (some 9) rfl rfl Tryd.func49 (by kernel_rfl) rfl #[.pointer (some ⟨g, 0, none⟩), .bool a1] rfl (by (try simp only [List.map_toArray, List.map_cons, List.map_nil]); first | done | rfl | (simp only [List.length_drop, List.length_take]; rfl)) ?_; (with_reducible refine (dragomanref10_eval_and.calls k g s0_0 s0_1 s0_2 s0_3 s0_4 s0_5 a1 t101 t102 t103 t104 t105 t106 w0 _ ?side1 ?side2 A3.out).mono ?_); (case side1 => repeat (first | (with_reducible first | exact HI0.out | apply IsS67.alloc | apply IsS67.drewN | apply IsS67.drew | apply IsS67.set_0 | apply IsS67.set_1 | apply IsS67.set_2 | apply IsS67.set_4 | apply IsS67.set_5) | exact HI0.out)); (case side2 => repeat (first | (with_reducible first | exact HB.out | apply below_alloc | apply pw_below_drewN | apply below_drew1 | refine below_set ?_ (IsS67.ge HI0.out)) | exact HB.out)); rintro e w4 ⟨rfl, hi, hb, hk⟩; refine ⟨_, rfl, ?_⟩; have n0_ := Aside0.mk (KeepBut.trans (by repeat (first | (with_reducible first | exact HK.out | apply KeepBut.set_ | apply keep_drewN | apply keep_drew | apply keep_alloc) | exact HK.out)) hk (.inl rfl)); have n1_ := Aside0.mk (hb); have n2_ := Aside0.mk (hi); clear HK; clear HB; clear HI0; have HK := n0_; have HB := n1_; have HI0 := n2_; clear n0_ n1_ n2_; (try clear hb); (try clear hb2); (try clear hk); (try clear hi)))
  go_loopg [5] k (fun kq v5 w' => ∃ (x5_1 : Int) (x1000_1 : ByteArray) (x1001_1 : Int) (x1002_1 : Int) (x1004_1 : Int) (x1005_1 : Int), v5 = .int .i64 x5_1 ∧ Aside0 (dragomanref10_eval_or.l0 kq a1 x5_1 x1000_1 x1001_1 x1002_1 s0_3 x1004_1 x1005_1 = some (r1, r2, r3, r4, r5, r6)) ∧ Aside0 (kq ≤ k) ∧ Aside0 (IsS67 w0 w' g x1000_1 x1001_1 x1002_1 s0_3 x1004_1 x1005_1) ∧ Aside0 (KeepBut w w' g none) ∧ Aside0 (Below w0.heap.size w0 w'))
  case atStart => exact ⟨(t101), (t102), (t103), (t104), (t105), (t106), (by first | rfl | (simp; done) | (simp [*]; done)), H', ⟨Nat.le_refl _⟩, ⟨by repeat (first | (with_reducible first | exact HI0.out | apply IsS67.alloc | apply IsS67.drewN | apply IsS67.drew | apply IsS67.set_0 | apply IsS67.set_1 | apply IsS67.set_2 | apply IsS67.set_4 | apply IsS67.set_5) | exact HI0.out)⟩, ⟨by repeat (first | (with_reducible first | exact HK.out | apply KeepBut.set_ | apply keep_drewN | apply keep_drew | apply keep_alloc) | exact HK.out)⟩, ⟨by repeat (first | (with_reducible first | exact HB.out | apply below_alloc | apply pw_below_drewN | apply below_drew1 | refine below_set ?_ (IsS67.ge HI0.out)) | exact HB.out)⟩⟩
  case round =>
    clear H'
    try clear p2
    try clear c3
    try clear c4
    obtain ⟨x5_1, x1000_1, x1001_1, x1002_1, x1004_1, x1005_1, rfl, HA, HK1, HI0, HK, HB⟩ := hrel
    cases gk with
    | zero => exact absurd HA.out (by simp [dragomanref10_eval_or.l0])
    | succ k1 =>
      have H := HA.out
      clear HA
      simp only [dragomanref10_eval_or.l0] at H
      replace H := Option.bind_eq_some_iff.mp H
      obtain ⟨⟨t107, t108, t109, t110, t111, t112⟩, A50, H⟩ := H
      replace H : (if t107 = true then (if a1 = true then ((dragomanref10_eval_and.f k1 t108 t109 t110 s0_3 t111 t112 (x5_1 == 0)).bind fun bt113 => (if x5_1 = 0 then ((dragomanref10_one.f (bt113.1 != 0)).bind fun t119 => (dragomanref10_eval_or.l0 k1 a1 t119 bt113.2.1 bt113.2.2.1 bt113.2.2.2.1 s0_3 bt113.2.2.2.2.1 bt113.2.2.2.2.2)) else ((dragomanref10_one.f true).bind fun t120 => (dragomanref10_eval_or.l0 k1 a1 t120 bt113.2.1 bt113.2.2.1 bt113.2.2.2.1 s0_3 bt113.2.2.2.2.1 bt113.2.2.2.2.2)))) else ((dragomanref10_eval_and.f k1 t108 t109 t110 s0_3 t111 t112 false).bind fun bt121 => (if x5_1 = 0 then ((dragomanref10_one.f (bt121.1 != 0)).bind fun t127 => (dragomanref10_eval_or.l0 k1 a1 t127 bt121.2.1 bt121.2.2.1 bt121.2.2.2.1 s0_3 bt121.2.2.2.2.1 bt121.2.2.2.2.2)) else ((dragomanref10_one.f true).bind fun t128 => (dragomanref10_eval_or.l0 k1 a1 t128 bt121.2.1 bt121.2.2.1 bt121.2.2.2.1 s0_3 bt121.2.2.2.2.1 bt121.2.2.2.2.2))))) else (some (x5_1, t108, t109, t110, t111, t112))) = some (r1, r2, r3, r4, r5, r6) := H
      have A5 := Aside0.mk A50
      clear A50
      by_cases c6 : t107 = true
      · subst c6
        have H1 : (if a1 = true then ((dragomanref10_eval_and.f k1 t108 t109 t110 s0_3 t111 t112 (x5_1 == 0)).bind fun bt113 => (if x5_1 = 0 then ((dragomanref10_one.f (bt113.1 != 0)).bind fun t119 => (dragomanref10_eval_or.l0 k1 a1 t119 bt113.2.1 bt113.2.2.1 bt113.2.2.2.1 s0_3 bt113.2.2.2.2.1 bt113.2.2.2.2.2)) else ((dragomanref10_one.f true).bind fun t120 => (dragomanref10_eval_or.l0 k1 a1 t120 bt113.2.1 bt113.2.2.1 bt113.2.2.2.1 s0_3 bt113.2.2.2.2.1 bt113.2.2.2.2.2)))) else ((dragomanref10_eval_and.f k1 t108 t109 t110 s0_3 t111 t112 false).bind fun bt121 => (if x5_1 = 0 then ((dragomanref10_one.f (bt121.1 != 0)).bind fun t127 => (dragomanref10_eval_or.l0 k1 a1 t127 bt121.2.1 bt121.2.2.1 bt121.2.2.2.1 s0_3 bt121.2.2.2.2.1 bt121.2.2.2.2.2)) else ((dragomanref10_one.f true).bind fun t128 => (dragomanref10_eval_or.l0 k1 a1 t128 bt121.2.1 bt121.2.2.1 bt121.2.2.2.1 s0_3 bt121.2.2.2.2.1 bt121.2.2.2.2.2))))) = some (r1, r2, r3, r4, r5, r6) := by rw [if_pos rfl] at H; exact H
        clear H
        have H := H1
        clear H1
        by_cases c7 : a1 = true
        · subst c7
          have H1 : ((dragomanref10_eval_and.f k1 t108 t109 t110 s0_3 t111 t112 (x5_1 == 0)).bind fun bt113 => (if x5_1 = 0 then ((dragomanref10_one.f (bt113.1 != 0)).bind fun t119 => (dragomanref10_eval_or.l0 k1 true t119 bt113.2.1 bt113.2.2.1 bt113.2.2.2.1 s0_3 bt113.2.2.2.2.1 bt113.2.2.2.2.2)) else ((dragomanref10_one.f true).bind fun t120 => (dragomanref10_eval_or.l0 k1 true t120 bt113.2.1 bt113.2.2.1 bt113.2.2.2.1 s0_3 bt113.2.2.2.2.1 bt113.2.2.2.2.2)))) = some (r1, r2, r3, r4, r5, r6) := by rw [if_pos rfl] at H; exact H
          clear H
          have H := H1
          clear H1
          replace H := Option.bind_eq_some_iff.mp H
          obtain ⟨⟨t113, t114, t115, t116, t117, t118⟩, A80, H⟩ := H
          replace H : (if x5_1 = 0 then ((dragomanref10_one.f (t113 != 0)).bind fun t119 => (dragomanref10_eval_or.l0 k1 true t119 t114 t115 t116 s0_3 t117 t118)) else ((dragomanref10_one.f true).bind fun t120 => (dragomanref10_eval_or.l0 k1 true t120 t114 t115 t116 s0_3 t117 t118))) = some (r1, r2, r3, r4, r5, r6) := H
          have A8 := Aside0.mk A80
          clear A80
          by_cases c9 : x5_1 = 0
          · rw [if_pos c9] at H
            have c9b0 : (x5_1 == 0) = true := beq_iff_eq.mpr c9
            have c9b1 : (x5_1 != 0) = false := bne_eq_false_iff_eq.mpr c9
            clear c9
            replace H := Option.bind_eq_some_iff.mp H
            obtain ⟨t119, A100, H⟩ := H
            replace H : (dragomanref10_eval_or.l0 k1 true t119 t114 t115 t116 s0_3 t117 t118) = some (r1, r2, r3, r4, r5, r6) := H
            have A10 := Aside0.mk A100
            clear A100
            have H' := Aside0.mk H
            clear H
            have XA8 := Aside0.mk (by have h_ := A8.out; rw [c9b0] at h_; exact h_)
            go_wp2_with (first | ((with_reducible refine gate_callee (f := 50) rfl ?_); refine goesL_ (some 11) rfl rfl Tryd.func50 (by kernel_rfl) rfl #[.pointer (some ⟨g, 0, none⟩), .string (⟨#[124, 124]⟩ : ByteArray)] rfl (by (try simp only [List.map_toArray, List.map_cons, List.map_nil]); first | done | rfl | (simp only [List.length_drop, List.length_take]; rfl)) ?_; (with_reducible refine (dragomanref10_eval_is.calls k1 g x1000_1 x1001_1 x1002_1 s0_3 x1004_1 x1005_1 (⟨#[124, 124]⟩ : ByteArray) true t108 t109 t110 t111 t112 w0 _ ?side1 ?side2 A5.out).mono ?_); (case side1 => repeat (first | (with_reducible first | exact HI0.out | apply IsS67.alloc | apply IsS67.drewN | apply IsS67.drew | apply IsS67.set_0 | apply IsS67.set_1 | apply IsS67.set_2 | apply IsS67.set_4 | apply IsS67.set_5) | exact HI0.out)); (case side2 => repeat (first | (with_reducible first | exact HB.out | apply below_alloc | apply pw_below_drewN | apply below_drew1 | refine below_set ?_ (IsS67.ge HI0.out)) | exact HB.out)); rintro e w11 ⟨rfl, hi, hb, hk⟩; refine ⟨_, rfl, ?_⟩; have n0_ := Aside0.mk (KeepBut.trans (by repeat (first | (with_reducible first | exact HK.out | apply KeepBut.set_ | apply keep_drewN | apply keep_drew | apply keep_alloc) | exact HK.out)) hk (.inl rfl)); have n1_ := Aside0.mk (hb); have n2_ := Aside0.mk (hi); clear HK; clear HB; clear HI0; have HK := n0_; have HB := n1_; have HI0 := n2_; clear n0_ n1_ n2_; (try clear hb); (try clear hb2); (try clear hk); (try clear hi)) | ((with_reducible refine gate_callee (f := 49) rfl ?_); refine goesL_ (some 18) rfl rfl Tryd.func49 (by kernel_rfl) rfl #[.pointer (some ⟨g, 0, none⟩), .bool true] rfl (by (try simp only [List.map_toArray, List.map_cons, List.map_nil]); first | done | rfl | (simp only [List.length_drop, List.length_take]; rfl)) ?_; (with_reducible refine (dragomanref10_eval_and.calls k1 g t108 t109 t110 s0_3 t111 t112 true t113 t114 t115 t116 t117 t118 w0 _ ?side1 ?side2 XA8.out).mono ?_); (case side1 => repeat (first | (with_reducible first | exact HI0.out | apply IsS67.alloc | apply IsS67.drewN | apply IsS67.drew | apply IsS67.set_0 | apply IsS67.set_1 | apply IsS67.set_2 | apply IsS67.set_4 | apply IsS67.set_5) | exact HI0.out)); (case side2 => repeat (first | (with_reducible first | exact HB.out | apply below_alloc | apply pw_below_drewN | apply below_drew1 | refine below_set ?_ (IsS67.ge HI0.out)) | exact HB.out)); rintro e w12 ⟨rfl, hi, hb, hk⟩; refine ⟨_, rfl, ?_⟩; have n0_ := Aside0.mk (KeepBut.trans (by repeat (first | (with_reducible first | exact HK.out | apply KeepBut.set_ | apply keep_drewN | apply keep_drew | apply keep_alloc) | exact HK.out)) hk (.inl rfl)); have n1_ := Aside0.mk (hb); have n2_ := Aside0.mk (hi); clear HK; clear HB; clear HI0; have HK := n0_; have HB := n1_; have HI0 := n2_; clear n0_ n1_ n2_; (try clear hb); (try clear hb2); (try clear hk); (try clear hi)) | ((with_reducible refine gate_callee (f := 51) rfl ?_); refine goesL_ (some 25) rfl rfl Tryd.func51 (by kernel_rfl) rfl #[.bool (t113 != 0)] rfl (by (try simp only [List.map_toArray, List.map_cons, List.map_nil]); first | done | rfl | (simp only [List.length_drop, List.length_take]; rfl)) ?_; (with_reducible refine (dragomanref10_one.calls (t113 != 0) t119 _ A10.out).mono ?_); rintro e w' ⟨rfl, ⟨nd, rfl⟩⟩; refine ⟨_, rfl, ?_⟩))
            go_roundg k1
            case measure => have := HK1.out; omega
            case rel => exact ⟨(t119), (t114), (t115), (t116), (t117), (t118), (by first | rfl | (simp; done) | (simp [*]; done)), H', ⟨by have := HK1.out; omega⟩, ⟨by repeat (first | (with_reducible first | exact HI0.out | apply IsS67.alloc | apply IsS67.drewN | apply IsS67.drew | apply IsS67.set_0 | apply IsS67.set_1 | apply IsS67.set_2 | apply IsS67.set_4 | apply IsS67.set_5) | exact HI0.out)⟩, ⟨by repeat (first | (with_reducible first | exact HK.out | apply KeepBut.set_ | apply keep_drewN | apply keep_drew | apply keep_alloc) | exact HK.out)⟩, ⟨by repeat (first | (with_reducible first | exact HB.out | apply below_alloc | apply pw_below_drewN | apply below_drew1 | refine below_set ?_ (IsS67.ge HI0.out)) | exact HB.out)⟩⟩
          · rw [if_neg c9] at H
            have c9b0 : (x5_1 == 0) = false := beq_eq_false_iff_ne.mpr c9
            have c9b1 : (x5_1 != 0) = true := bne_iff_ne.mpr c9
            replace H := Option.bind_eq_some_iff.mp H
            obtain ⟨t120, A130, H⟩ := H
            replace H : (dragomanref10_eval_or.l0 k1 true t120 t114 t115 t116 s0_3 t117 t118) = some (r1, r2, r3, r4, r5, r6) := H
            have A13 := Aside0.mk A130
            clear A130
            have H' := Aside0.mk H
            clear H
            have XA8 := Aside0.mk (by have h_ := A8.out; rw [c9b0] at h_; exact h_)
            go_wp2_with (first | ((with_reducible refine gate_callee (f := 50) rfl ?_); refine goesL_ (some 11) rfl rfl Tryd.func50 (by kernel_rfl) rfl #[.pointer (some ⟨g, 0, none⟩), .string (⟨#[124, 124]⟩ : ByteArray)] rfl (by (try simp only [List.map_toArray, List.map_cons, List.map_nil]); first | done | rfl | (simp only [List.length_drop, List.length_take]; rfl)) ?_; (with_reducible refine (dragomanref10_eval_is.calls k1 g x1000_1 x1001_1 x1002_1 s0_3 x1004_1 x1005_1 (⟨#[124, 124]⟩ : ByteArray) true t108 t109 t110 t111 t112 w0 _ ?side1 ?side2 A5.out).mono ?_); (case side1 => repeat (first | (with_reducible first | exact HI0.out | apply IsS67.alloc | apply IsS67.drewN | apply IsS67.drew | apply IsS67.set_0 | apply IsS67.set_1 | apply IsS67.set_2 | apply IsS67.set_4 | apply IsS67.set_5) | exact HI0.out)); (case side2 => repeat (first | (with_reducible first | exact HB.out | apply below_alloc | apply pw_below_drewN | apply below_drew1 | refine below_set ?_ (IsS67.ge HI0.out)) | exact HB.out)); rintro e w14 ⟨rfl, hi, hb, hk⟩; refine ⟨_, rfl, ?_⟩; have n0_ := Aside0.mk (KeepBut.trans (by repeat (first | (with_reducible first | exact HK.out | apply KeepBut.set_ | apply keep_drewN | apply keep_drew | apply keep_alloc) | exact HK.out)) hk (.inl rfl)); have n1_ := Aside0.mk (hb); have n2_ := Aside0.mk (hi); clear HK; clear HB; clear HI0; have HK := n0_; have HB := n1_; have HI0 := n2_; clear n0_ n1_ n2_; (try clear hb); (try clear hb2); (try clear hk); (try clear hi)) | ((with_reducible refine gate_callee (f := 49) rfl ?_); refine goesL_ (some 18) rfl rfl Tryd.func49 (by kernel_rfl) rfl #[.pointer (some ⟨g, 0, none⟩), .bool false] rfl (by (try simp only [List.map_toArray, List.map_cons, List.map_nil]); first | done | rfl | (simp only [List.length_drop, List.length_take]; rfl)) ?_; (with_reducible refine (dragomanref10_eval_and.calls k1 g t108 t109 t110 s0_3 t111 t112 false t113 t114 t115 t116 t117 t118 w0 _ ?side1 ?side2 XA8.out).mono ?_); (case side1 => repeat (first | (with_reducible first | exact HI0.out | apply IsS67.alloc | apply IsS67.drewN | apply IsS67.drew | apply IsS67.set_0 | apply IsS67.set_1 | apply IsS67.set_2 | apply IsS67.set_4 | apply IsS67.set_5) | exact HI0.out)); (case side2 => repeat (first | (with_reducible first | exact HB.out | apply below_alloc | apply pw_below_drewN | apply below_drew1 | refine below_set ?_ (IsS67.ge HI0.out)) | exact HB.out)); rintro e w15 ⟨rfl, hi, hb, hk⟩; refine ⟨_, rfl, ?_⟩; have n0_ := Aside0.mk (KeepBut.trans (by repeat (first | (with_reducible first | exact HK.out | apply KeepBut.set_ | apply keep_drewN | apply keep_drew | apply keep_alloc) | exact HK.out)) hk (.inl rfl)); have n1_ := Aside0.mk (hb); have n2_ := Aside0.mk (hi); clear HK; clear HB; clear HI0; have HK := n0_; have HB := n1_; have HI0 := n2_; clear n0_ n1_ n2_; (try clear hb); (try clear hb2); (try clear hk); (try clear hi)) | ((with_reducible refine gate_callee (f := 51) rfl ?_); refine goesL_ (some 25) rfl rfl Tryd.func51 (by kernel_rfl) rfl #[.bool true] rfl (by (try simp only [List.map_toArray, List.map_cons, List.map_nil]); first | done | rfl | (simp only [List.length_drop, List.length_take]; rfl)) ?_; (with_reducible refine (dragomanref10_one.calls true t120 _ A13.out).mono ?_); rintro e w' ⟨rfl, ⟨nd, rfl⟩⟩; refine ⟨_, rfl, ?_⟩))
            go_roundg k1
            case measure => have := HK1.out; omega
            case rel => exact ⟨(t120), (t114), (t115), (t116), (t117), (t118), (by first | rfl | (simp; done) | (simp [*]; done)), H', ⟨by have := HK1.out; omega⟩, ⟨by repeat (first | (with_reducible first | exact HI0.out | apply IsS67.alloc | apply IsS67.drewN | apply IsS67.drew | apply IsS67.set_0 | apply IsS67.set_1 | apply IsS67.set_2 | apply IsS67.set_4 | apply IsS67.set_5) | exact HI0.out)⟩, ⟨by repeat (first | (with_reducible first | exact HK.out | apply KeepBut.set_ | apply keep_drewN | apply keep_drew | apply keep_alloc) | exact HK.out)⟩, ⟨by repeat (first | (with_reducible first | exact HB.out | apply below_alloc | apply pw_below_drewN | apply below_drew1 | refine below_set ?_ (IsS67.ge HI0.out)) | exact HB.out)⟩⟩
        · replace c7 := Bool.eq_false_iff.mpr c7
          subst c7
          have H1 : ((dragomanref10_eval_and.f k1 t108 t109 t110 s0_3 t111 t112 false).bind fun bt121 => (if x5_1 = 0 then ((dragomanref10_one.f (bt121.1 != 0)).bind fun t127 => (dragomanref10_eval_or.l0 k1 false t127 bt121.2.1 bt121.2.2.1 bt121.2.2.2.1 s0_3 bt121.2.2.2.2.1 bt121.2.2.2.2.2)) else ((dragomanref10_one.f true).bind fun t128 => (dragomanref10_eval_or.l0 k1 false t128 bt121.2.1 bt121.2.2.1 bt121.2.2.2.1 s0_3 bt121.2.2.2.2.1 bt121.2.2.2.2.2)))) = some (r1, r2, r3, r4, r5, r6) := by rw [if_neg (show ¬ (false = true) by decide)] at H; exact H
          clear H
          have H := H1
          clear H1
          replace H := Option.bind_eq_some_iff.mp H
          obtain ⟨⟨t121, t122, t123, t124, t125, t126⟩, A160, H⟩ := H
          replace H : (if x5_1 = 0 then ((dragomanref10_one.f (t121 != 0)).bind fun t127 => (dragomanref10_eval_or.l0 k1 false t127 t122 t123 t124 s0_3 t125 t126)) else ((dragomanref10_one.f true).bind fun t128 => (dragomanref10_eval_or.l0 k1 false t128 t122 t123 t124 s0_3 t125 t126))) = some (r1, r2, r3, r4, r5, r6) := H
          have A16 := Aside0.mk A160
          clear A160
          by_cases c17 : x5_1 = 0
          · rw [if_pos c17] at H
            have c17b0 : (x5_1 == 0) = true := beq_iff_eq.mpr c17
            have c17b1 : (x5_1 != 0) = false := bne_eq_false_iff_eq.mpr c17
            clear c17
            replace H := Option.bind_eq_some_iff.mp H
            obtain ⟨t127, A180, H⟩ := H
            replace H : (dragomanref10_eval_or.l0 k1 false t127 t122 t123 t124 s0_3 t125 t126) = some (r1, r2, r3, r4, r5, r6) := H
            have A18 := Aside0.mk A180
            clear A180
            have H' := Aside0.mk H
            clear H
            go_wp2_with (first | ((with_reducible refine gate_callee (f := 50) rfl ?_); refine goesL_ (some 11) rfl rfl Tryd.func50 (by kernel_rfl) rfl #[.pointer (some ⟨g, 0, none⟩), .string (⟨#[124, 124]⟩ : ByteArray)] rfl (by (try simp only [List.map_toArray, List.map_cons, List.map_nil]); first | done | rfl | (simp only [List.length_drop, List.length_take]; rfl)) ?_; (with_reducible refine (dragomanref10_eval_is.calls k1 g x1000_1 x1001_1 x1002_1 s0_3 x1004_1 x1005_1 (⟨#[124, 124]⟩ : ByteArray) true t108 t109 t110 t111 t112 w0 _ ?side1 ?side2 A5.out).mono ?_); (case side1 => repeat (first | (with_reducible first | exact HI0.out | apply IsS67.alloc | apply IsS67.drewN | apply IsS67.drew | apply IsS67.set_0 | apply IsS67.set_1 | apply IsS67.set_2 | apply IsS67.set_4 | apply IsS67.set_5) | exact HI0.out)); (case side2 => repeat (first | (with_reducible first | exact HB.out | apply below_alloc | apply pw_below_drewN | apply below_drew1 | refine below_set ?_ (IsS67.ge HI0.out)) | exact HB.out)); rintro e w19 ⟨rfl, hi, hb, hk⟩; refine ⟨_, rfl, ?_⟩; have n0_ := Aside0.mk (KeepBut.trans (by repeat (first | (with_reducible first | exact HK.out | apply KeepBut.set_ | apply keep_drewN | apply keep_drew | apply keep_alloc) | exact HK.out)) hk (.inl rfl)); have n1_ := Aside0.mk (hb); have n2_ := Aside0.mk (hi); clear HK; clear HB; clear HI0; have HK := n0_; have HB := n1_; have HI0 := n2_; clear n0_ n1_ n2_; (try clear hb); (try clear hb2); (try clear hk); (try clear hi)) | ((with_reducible refine gate_callee (f := 49) rfl ?_); refine goesL_ (some 18) rfl rfl Tryd.func49 (by kernel_rfl) rfl #[.pointer (some ⟨g, 0, none⟩), .bool false] rfl (by (try simp only [List.map_toArray, List.map_cons, List.map_nil]); first | done | rfl | (simp only [List.length_drop, List.length_take]; rfl)) ?_; (with_reducible refine (dragomanref10_eval_and.calls k1 g t108 t109 t110 s0_3 t111 t112 false t121 t122 t123 t124 t125 t126 w0 _ ?side1 ?side2 A16.out).mono ?_); (case side1 => repeat (first | (with_reducible first | exact HI0.out | apply IsS67.alloc | apply IsS67.drewN | apply IsS67.drew | apply IsS67.set_0 | apply IsS67.set_1 | apply IsS67.set_2 | apply IsS67.set_4 | apply IsS67.set_5) | exact HI0.out)); (case side2 => repeat (first | (with_reducible first | exact HB.out | apply below_alloc | apply pw_below_drewN | apply below_drew1 | refine below_set ?_ (IsS67.ge HI0.out)) | exact HB.out)); rintro e w20 ⟨rfl, hi, hb, hk⟩; refine ⟨_, rfl, ?_⟩; have n0_ := Aside0.mk (KeepBut.trans (by repeat (first | (with_reducible first | exact HK.out | apply KeepBut.set_ | apply keep_drewN | apply keep_drew | apply keep_alloc) | exact HK.out)) hk (.inl rfl)); have n1_ := Aside0.mk (hb); have n2_ := Aside0.mk (hi); clear HK; clear HB; clear HI0; have HK := n0_; have HB := n1_; have HI0 := n2_; clear n0_ n1_ n2_; (try clear hb); (try clear hb2); (try clear hk); (try clear hi)) | ((with_reducible refine gate_callee (f := 51) rfl ?_); refine goesL_ (some 25) rfl rfl Tryd.func51 (by kernel_rfl) rfl #[.bool (t121 != 0)] rfl (by (try simp only [List.map_toArray, List.map_cons, List.map_nil]); first | done | rfl | (simp only [List.length_drop, List.length_take]; rfl)) ?_; (with_reducible refine (dragomanref10_one.calls (t121 != 0) t127 _ A18.out).mono ?_); rintro e w' ⟨rfl, ⟨nd, rfl⟩⟩; refine ⟨_, rfl, ?_⟩))
            go_roundg k1
            case measure => have := HK1.out; omega
            case rel => exact ⟨(t127), (t122), (t123), (t124), (t125), (t126), (by first | rfl | (simp; done) | (simp [*]; done)), H', ⟨by have := HK1.out; omega⟩, ⟨by repeat (first | (with_reducible first | exact HI0.out | apply IsS67.alloc | apply IsS67.drewN | apply IsS67.drew | apply IsS67.set_0 | apply IsS67.set_1 | apply IsS67.set_2 | apply IsS67.set_4 | apply IsS67.set_5) | exact HI0.out)⟩, ⟨by repeat (first | (with_reducible first | exact HK.out | apply KeepBut.set_ | apply keep_drewN | apply keep_drew | apply keep_alloc) | exact HK.out)⟩, ⟨by repeat (first | (with_reducible first | exact HB.out | apply below_alloc | apply pw_below_drewN | apply below_drew1 | refine below_set ?_ (IsS67.ge HI0.out)) | exact HB.out)⟩⟩
          · rw [if_neg c17] at H
            have c17b0 : (x5_1 == 0) = false := beq_eq_false_iff_ne.mpr c17
            have c17b1 : (x5_1 != 0) = true := bne_iff_ne.mpr c17
            replace H := Option.bind_eq_some_iff.mp H
            obtain ⟨t128, A210, H⟩ := H
            replace H : (dragomanref10_eval_or.l0 k1 false t128 t122 t123 t124 s0_3 t125 t126) = some (r1, r2, r3, r4, r5, r6) := H
            have A21 := Aside0.mk A210
            clear A210
            have H' := Aside0.mk H
            clear H
            go_wp2_with (first | ((with_reducible refine gate_callee (f := 50) rfl ?_); refine goesL_ (some 11) rfl rfl Tryd.func50 (by kernel_rfl) rfl #[.pointer (some ⟨g, 0, none⟩), .string (⟨#[124, 124]⟩ : ByteArray)] rfl (by (try simp only [List.map_toArray, List.map_cons, List.map_nil]); first | done | rfl | (simp only [List.length_drop, List.length_take]; rfl)) ?_; (with_reducible refine (dragomanref10_eval_is.calls k1 g x1000_1 x1001_1 x1002_1 s0_3 x1004_1 x1005_1 (⟨#[124, 124]⟩ : ByteArray) true t108 t109 t110 t111 t112 w0 _ ?side1 ?side2 A5.out).mono ?_); (case side1 => repeat (first | (with_reducible first | exact HI0.out | apply IsS67.alloc | apply IsS67.drewN | apply IsS67.drew | apply IsS67.set_0 | apply IsS67.set_1 | apply IsS67.set_2 | apply IsS67.set_4 | apply IsS67.set_5) | exact HI0.out)); (case side2 => repeat (first | (with_reducible first | exact HB.out | apply below_alloc | apply pw_below_drewN | apply below_drew1 | refine below_set ?_ (IsS67.ge HI0.out)) | exact HB.out)); rintro e w22 ⟨rfl, hi, hb, hk⟩; refine ⟨_, rfl, ?_⟩; have n0_ := Aside0.mk (KeepBut.trans (by repeat (first | (with_reducible first | exact HK.out | apply KeepBut.set_ | apply keep_drewN | apply keep_drew | apply keep_alloc) | exact HK.out)) hk (.inl rfl)); have n1_ := Aside0.mk (hb); have n2_ := Aside0.mk (hi); clear HK; clear HB; clear HI0; have HK := n0_; have HB := n1_; have HI0 := n2_; clear n0_ n1_ n2_; (try clear hb); (try clear hb2); (try clear hk); (try clear hi)) | ((with_reducible refine gate_callee (f := 49) rfl ?_); refine goesL_ (some 18) rfl rfl Tryd.func49 (by kernel_rfl) rfl #[.pointer (some ⟨g, 0, none⟩), .bool false] rfl (by (try simp only [List.map_toArray, List.map_cons, List.map_nil]); first | done | rfl | (simp only [List.length_drop, List.length_take]; rfl)) ?_; (with_reducible refine (dragomanref10_eval_and.calls k1 g t108 t109 t110 s0_3 t111 t112 false t121 t122 t123 t124 t125 t126 w0 _ ?side1 ?side2 A16.out).mono ?_); (case side1 => repeat (first | (with_reducible first | exact HI0.out | apply IsS67.alloc | apply IsS67.drewN | apply IsS67.drew | apply IsS67.set_0 | apply IsS67.set_1 | apply IsS67.set_2 | apply IsS67.set_4 | apply IsS67.set_5) | exact HI0.out)); (case side2 => repeat (first | (with_reducible first | exact HB.out | apply below_alloc | apply pw_below_drewN | apply below_drew1 | refine below_set ?_ (IsS67.ge HI0.out)) | exact HB.out)); rintro e w23 ⟨rfl, hi, hb, hk⟩; refine ⟨_, rfl, ?_⟩; have n0_ := Aside0.mk (KeepBut.trans (by repeat (first | (with_reducible first | exact HK.out | apply KeepBut.set_ | apply keep_drewN | apply keep_drew | apply keep_alloc) | exact HK.out)) hk (.inl rfl)); have n1_ := Aside0.mk (hb); have n2_ := Aside0.mk (hi); clear HK; clear HB; clear HI0; have HK := n0_; have HB := n1_; have HI0 := n2_; clear n0_ n1_ n2_; (try clear hb); (try clear hb2); (try clear hk); (try clear hi)) | ((with_reducible refine gate_callee (f := 51) rfl ?_); refine goesL_ (some 25) rfl rfl Tryd.func51 (by kernel_rfl) rfl #[.bool true] rfl (by (try simp only [List.map_toArray, List.map_cons, List.map_nil]); first | done | rfl | (simp only [List.length_drop, List.length_take]; rfl)) ?_; (with_reducible refine (dragomanref10_one.calls true t128 _ A21.out).mono ?_); rintro e w' ⟨rfl, ⟨nd, rfl⟩⟩; refine ⟨_, rfl, ?_⟩))
            go_roundg k1
            case measure => have := HK1.out; omega
            case rel => exact ⟨(t128), (t122), (t123), (t124), (t125), (t126), (by first | rfl | (simp; done) | (simp [*]; done)), H', ⟨by have := HK1.out; omega⟩, ⟨by repeat (first | (with_reducible first | exact HI0.out | apply IsS67.alloc | apply IsS67.drewN | apply IsS67.drew | apply IsS67.set_0 | apply IsS67.set_1 | apply IsS67.set_2 | apply IsS67.set_4 | apply IsS67.set_5) | exact HI0.out)⟩, ⟨by repeat (first | (with_reducible first | exact HK.out | apply KeepBut.set_ | apply keep_drewN | apply keep_drew | apply keep_alloc) | exact HK.out)⟩, ⟨by repeat (first | (with_reducible first | exact HB.out | apply below_alloc | apply pw_below_drewN | apply below_drew1 | refine below_set ?_ (IsS67.ge HI0.out)) | exact HB.out)⟩⟩
      · replace c6 := Bool.eq_false_iff.mpr c6
        subst c6
        have H1 : (some (x5_1, t108, t109, t110, t111, t112)) = some (r1, r2, r3, r4, r5, r6) := by rw [if_neg (show ¬ (false = true) by decide)] at H; exact H
        clear H
        have H := H1
        clear H1
        simp only [Option.some.injEq, Prod.mk.injEq] at H
        obtain ⟨rfl, rfl, rfl, rfl, rfl, rfl⟩ := H
        go_wp2_with (first | ((with_reducible refine gate_callee (f := 50) rfl ?_); refine goesL_ (some 11) rfl rfl Tryd.func50 (by kernel_rfl) rfl #[.pointer (some ⟨g, 0, none⟩), .string (⟨#[124, 124]⟩ : ByteArray)] rfl (by (try simp only [List.map_toArray, List.map_cons, List.map_nil]); first | done | rfl | (simp only [List.length_drop, List.length_take]; rfl)) ?_; (with_reducible refine (dragomanref10_eval_is.calls k1 g x1000_1 x1001_1 x1002_1 s0_3 x1004_1 x1005_1 (⟨#[124, 124]⟩ : ByteArray) false t108 t109 t110 t111 t112 w0 _ ?side1 ?side2 A5.out).mono ?_); (case side1 => repeat (first | (with_reducible first | exact HI0.out | apply IsS67.alloc | apply IsS67.drewN | apply IsS67.drew | apply IsS67.set_0 | apply IsS67.set_1 | apply IsS67.set_2 | apply IsS67.set_4 | apply IsS67.set_5) | exact HI0.out)); (case side2 => repeat (first | (with_reducible first | exact HB.out | apply below_alloc | apply pw_below_drewN | apply below_drew1 | refine below_set ?_ (IsS67.ge HI0.out)) | exact HB.out)); rintro e w24 ⟨rfl, hi, hb, hk⟩; refine ⟨_, rfl, ?_⟩; have n0_ := Aside0.mk (KeepBut.trans (by repeat (first | (with_reducible first | exact HK.out | apply KeepBut.set_ | apply keep_drewN | apply keep_drew | apply keep_alloc) | exact HK.out)) hk (.inl rfl)); have n1_ := Aside0.mk (hb); have n2_ := Aside0.mk (hi); clear HK; clear HB; clear HI0; have HK := n0_; have HB := n1_; have HI0 := n2_; clear n0_ n1_ n2_; (try clear hb); (try clear hb2); (try clear hk); (try clear hi)))
        go_ret
        exact ⟨by first | rfl | (simp [errW_none, errW_some] <;> rfl) | (simp [*, errW_none, errW_some] <;> rfl), by repeat (first | (with_reducible first | exact HI0.out | apply IsS67.alloc | apply IsS67.drewN | apply IsS67.drew | apply IsS67.set_0 | apply IsS67.set_1 | apply IsS67.set_2 | apply IsS67.set_4 | apply IsS67.set_5) | exact HI0.out), by repeat (first | (with_reducible first | exact HB.out | apply below_alloc | apply pw_below_drewN | apply below_drew1 | refine below_set ?_ (IsS67.ge HI0.out)) | exact HB.out), by repeat (first | (with_reducible first | exact HK.out | apply KeepBut.set_ | apply keep_drewN | apply keep_drew | apply keep_alloc) | exact HK.out)⟩

end Go.Proofs.YtambnodgfhlpfaaDoor.QI

/- The document's Eval: the recursion is closed by rounds, and a call of Eval is walked. -/
set_option linter.unusedVariables false
set_option linter.unusedSimpArgs false
namespace Go.Proofs.YtambnodgfhlpfaaDoor.G
open Go.RowKit Go.Proofs.YtambnodgfhlpfaaDoorW.PrintWords Go.Proofs.YtambnodgfhlpfaaDoorW.PrintLast Go.Proofs.YtambnodgfhlpfaaDoorW.PrintMore Go.Proofs.YtambnodgfhlpfaaDoor.QA Go.Proofs.YtambnodgfhlpfaaDoor.QG Go.Proofs.YtambnodgfhlpfaaDoor.QH Go.Proofs.YtambnodgfhlpfaaDoor.QI

/-- 'or', n brackets deep at most. -/
def orG : Nat → OrG
  | 0 => ⟨fun _ _ _ _ _ _ _ _ => none, fun _ _ _ _ _ _ _ _ => LeO.none _, fun _ _ _ _ _ _ _ _ _ _ _ _ _ _ _ _ _ _ _ h => by cases h⟩
  | n + 1 => ⟨@dragomanref10_eval_or.f ⟨orG n⟩, @dragomanref10_eval_or.mono ⟨orG n⟩, @dragomanref10_eval_or.calls ⟨orG n⟩⟩
abbrev orI (n : Nat) : Inhabited OrG := ⟨orG n⟩

/-- What is told at the end. -/
def evalEnd (n : Int) (bad wrong : Int) : Option (Int × Int) := if bad = 0 then (if wrong = 0 then some (n, 0) else some (0, wrong)) else some (0, bad)
/-- What the document's Eval comes to. -/
def evalD [Inhabited OrG] (k : Nat) (a0 : ByteArray) (l1 : List S39) : Option (Int × Int) :=
  (eor.f k a0 0 0 l1 0 0 true).bind fun b => (dragomanref10_eval_blanks.f k b.2.1 b.2.2.1 b.2.2.2.1 l1 b.2.2.2.2.1 b.2.2.2.2.2).bind fun c =>
    if c.2.1 < (a0.size : Int) then (dragomanref10_eval_fails.f c.1 c.2.1 c.2.2.1 l1 c.2.2.2.1 c.2.2.2.2 9).bind fun e => evalEnd b.1 e.2.2.2.1 e.2.2.2.2 else evalEnd b.1 c.2.2.2.1 c.2.2.2.2
theorem start67 (w : World) (s : ByteArray) (A : Option Addr) (c : Nat) (l : List S39) (h : Kd.C k39 w A l.length l) :
    IsS67 w (w.alloc (.cells #[.string s, .int .i64 0, .int .i64 0, .slice A l.length c, .int .i64 0, .int .i64 0] 67)) w.heap.size s 0 0 l 0 0 ∧ Below w.heap.size w (w.alloc (.cells #[.string s, .int .i64 0, .int .i64 0, .slice A l.length c, .int .i64 0, .int .i64 0] 67)) :=
  ⟨IsS67.new w w A c s 0 0 l 0 0 (Below.refl _ _) h, below_alloc (Below.refl _ _) _⟩
theorem cells67 {w0 W : World} {g : Nat} {f0 : ByteArray} {f1 f2 : Int} {f3 : List S39} {f4 f5 : Int} (h : IsS67 w0 W g f0 f1 f2 f3 f4 f5) :
    W.cell? ⟨g, 1, none⟩ = some (.int .i64 f1) ∧ W.cell? ⟨g, 4, none⟩ = some (.int .i64 f4) ∧ W.cell? ⟨g, 5, none⟩ = some (.int .i64 f5) := by
  obtain ⟨A, c, hb, _, _⟩ := h
  exact ⟨(blk_cell hb 1).trans rfl, (blk_cell hb 4).trans rfl, (blk_cell hb 5).trans rfl⟩
section
variable [Inhabited OrG]
set_option maxHeartbeats 4000000 in
set_option maxRecDepth 100000 in
theorem evalD_calls (k : Nat) (s : ByteArray) (A : Option Addr) (c : Nat) (l : List S39) (r1 r2 : Int) (w : World) (hr : Kd.C k39 w A l.length l) (h : evalD k s l = some (r1, r2)) :
    Calls Tryd.prog 22 #[.string s, .slice A l.length c] w fun e w' => e = .returned (.tuple #[.int .i64 r1, .int .i64 r2]) ∧ Below w.heap.size w w' := by
  unfold evalD at h
  obtain ⟨⟨t1, t2, t3, t4, t5, t6⟩, E1, h⟩ := Option.bind_eq_some_iff.mp h
  obtain ⟨⟨u2, u3, u4, u5, u6⟩, E2, h⟩ := Option.bind_eq_some_iff.mp h
  have A1 := Aside0.mk E1; clear E1
  have A2 := Aside0.mk (show dragomanref10_eval_blanks.f k t2 t3 t4 l t5 t6 = some (u2, u3, u4, u5, u6) from E2); clear E2
  have H := Aside0.mk (show (if u3 < (s.size : Int) then (dragomanref10_eval_fails.f u2 u3 u4 l u5 u6 9).bind fun e => evalEnd t1 e.2.2.2.1 e.2.2.2.2 else evalEnd t1 u5 u6) = some (r1, r2) from h); clear h
  have HR := Aside0.mk hr; clear hr
  go_enter Tryd.func22, Tryd.ntmps22
  go_wp2_with fail
  obtain ⟨hi, hb⟩ := start67 w s A c l HR.out
  have HI := Aside0.mk hi; have HB := Aside0.mk hb; clear hi hb
  generalize w.alloc _ = W0 at HI HB ⊢
  refine (eor.calls k w.heap.size s 0 0 l 0 0 true t1 t2 t3 t4 t5 t6 w W0 HI.out HB.out A1.out).mono ?_
  rintro e w1 ⟨rfl, hi, hb, hk⟩
  clear HI HB hk
  have HI := Aside0.mk hi; have HB := Aside0.mk hb; clear hi hb
  go_wp2_with fail
  refine (dragomanref10_eval_blanks.calls k w.heap.size t2 t3 t4 l t5 t6 u2 u3 u4 u5 u6 w _ HI.out HB.out A2.out).mono ?_
  rintro e w2 ⟨rfl, hi, hb, hk⟩
  clear HI HB hk
  have HI := Aside0.mk hi; have HB := Aside0.mk hb; clear hi hb
  obtain ⟨k1, k4, k5⟩ := cells67 HI.out
  have HH := H.out
  by_cases hc : u3 < (s.size : Int)
  · rw [if_pos hc] at HH
    obtain ⟨⟨v2, v3, v4, v5, v6⟩, E3, h⟩ := Option.bind_eq_some_iff.mp HH
    have A3 := Aside0.mk E3; clear E3
    have H2 := Aside0.mk (show evalEnd t1 v5 v6 = some (r1, r2) from h); clear h HH H
    have c1 : decide (u3 < (s.size : Int)) = true := decide_eq_true hc
    clear hc k4 k5
    go_wp2_with fail
    refine (dragomanref10_eval_fails.calls w.heap.size u2 u3 u4 l u5 u6 9 v2 v3 v4 v5 v6 w _ HI.out HB.out A3.out).mono ?_
    rintro e w3 ⟨rfl, hi, hb, hk⟩
    clear HI HB hk k1
    have HI := Aside0.mk hi; have HB := Aside0.mk hb; clear hi hb
    obtain ⟨k1, k4, k5⟩ := cells67 HI.out
    have h2 := H2.out
    unfold evalEnd at h2
    by_cases h5 : v5 = 0
    · rw [if_pos h5] at h2
      by_cases h6 : v6 = 0
      · rw [if_pos h6] at h2
        obtain ⟨rfl, rfl⟩ := Prod.mk.inj (Option.some.inj h2)
        subst h5; subst h6
        clear H2
        go_wp2
        go_ret2
        exact ⟨rfl, HB.out⟩
      · rw [if_neg h6] at h2
        obtain ⟨rfl, rfl⟩ := Prod.mk.inj (Option.some.inj h2)
        subst h5
        have c6 : (v6 != 0) = true := bne_iff_ne.mpr h6
        have c7 : (v6 == 0) = false := beq_eq_false_iff_ne.mpr h6
        clear H2 h6
        go_wp2
        repeat (go_quiet (fail); try go_wp2)
        go_ret2
        exact ⟨rfl, pw_below_drewN HB.out _⟩
    · rw [if_neg h5] at h2
      obtain ⟨rfl, rfl⟩ := Prod.mk.inj (Option.some.inj h2)
      have c6 : (v5 != 0) = true := bne_iff_ne.mpr h5
      have c7 : (v5 == 0) = false := beq_eq_false_iff_ne.mpr h5
      clear H2 h5
      go_wp2
      repeat (go_quiet (fail); try go_wp2)
      go_ret2
      exact ⟨rfl, pw_below_drewN HB.out _⟩
  · rw [if_neg hc] at HH
    have H2 := Aside0.mk HH; clear HH H
    have c1 : decide (u3 < (s.size : Int)) = false := decide_eq_false hc
    clear hc
    have h2 := H2.out
    unfold evalEnd at h2
    by_cases h5 : u5 = 0
    · rw [if_pos h5] at h2
      by_cases h6 : u6 = 0
      · rw [if_pos h6] at h2
        obtain ⟨rfl, rfl⟩ := Prod.mk.inj (Option.some.inj h2)
        subst h5; subst h6
        clear H2
        go_wp2
        go_ret2
        exact ⟨rfl, HB.out⟩
      · rw [if_neg h6] at h2
        obtain ⟨rfl, rfl⟩ := Prod.mk.inj (Option.some.inj h2)
        subst h5
        have c6 : (u6 != 0) = true := bne_iff_ne.mpr h6
        have c7 : (u6 == 0) = false := beq_eq_false_iff_ne.mpr h6
        clear H2 h6
        go_wp2
        repeat (go_quiet (fail); try go_wp2)
        go_ret2
        exact ⟨rfl, pw_below_drewN HB.out _⟩
    · rw [if_neg h5] at h2
      obtain ⟨rfl, rfl⟩ := Prod.mk.inj (Option.some.inj h2)
      have c6 : (u5 != 0) = true := bne_iff_ne.mpr h5
      have c7 : (u5 == 0) = false := beq_eq_false_iff_ne.mpr h5
      clear H2 h5
      go_wp2
      repeat (go_quiet (fail); try go_wp2)
      go_ret2
      exact ⟨rfl, pw_below_drewN HB.out _⟩
end
/-- The document's Eval, k rounds and k brackets deep. -/
def dragomanref10_Eval.f (k : Nat) (a0 : ByteArray) (l1 : List S39) : Option (Int × Int) := @evalD (orI k) k a0 l1
theorem dragomanref10_Eval.calls (k : Nat) (a0 : ByteArray) (A1 : Option Addr) (c1 : Nat) (l1 : List S39) (r1 r2 : Int) (w : World) (hr1 : Kd.C k39 w A1 l1.length l1) (hc1 : l1.length ≤ c1) (h : dragomanref10_Eval.f k a0 l1 = some (r1, r2)) :
    Calls Tryd.prog 22 #[.string a0, .slice A1 l1.length c1] w fun e w' => e = .returned (.tuple #[.int .i64 r1, .int .i64 r2]) ∧ Below w.heap.size w w' := @evalD_calls (orI k) k a0 A1 c1 l1 r1 r2 w hr1 h
end Go.Proofs.YtambnodgfhlpfaaDoor.G
