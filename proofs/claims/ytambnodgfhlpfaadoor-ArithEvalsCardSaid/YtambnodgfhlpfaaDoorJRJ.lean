/- Package arith: what a variable's name, and a node, come to, walked. -/
import Derived.Test.YtambnodgfhlpfaaDoorJRI
import Derived.Test.YtambnodgfhlpfaaDoorJRD
set_option linter.unusedVariables false
set_option linter.unusedSimpArgs false
namespace Go.Proofs.YtambnodgfhlpfaaDoor.A
open Go.RowKit Go.Proofs.YtambnodgfhlpfaaDoorW.PrintWords Go.Proofs.YtambnodgfhlpfaaDoorW.PrintLast Go.Proofs.YtambnodgfhlpfaaDoor.G Go.Proofs.YtambnodgfhlpfaaDoor.QA

/-- The row's values are not too long for a number to be read of. -/
def Fit (l : Vars) : Prop := ∀ x ∈ l, x.f1.size ≤ 140737488355328
theorem Fit.find {l : Vars} (h : Fit l) (t : ByteArray) : (findV l t).size ≤ 281474976710656 := by
  unfold findV
  split
  · unfold valAt rd_T39
    rw [Int.toNat_natCast]
    rcases Nat.lt_or_ge (placeV l t) l.length with hl | hl
    · rw [List.getD_eq_getElem?_getD, List.getElem?_eq_getElem hl, Option.getD_some]
      have := h _ (List.getElem_mem hl)
      omega
    · rw [List.getD_eq_getElem?_getD, List.getElem?_eq_none hl, Option.getD_none]
      decide
  · decide
section
variable (A : Option Addr) (c : Nat) (l : Vars) (t : ByteArray) (w : World) (hr : Kd.C k39 w A l.length l) (hl : l.length ≤ 140737488355328) (hf : Fit l) (hg : GE w)
include hr hl hf hg
set_option maxHeartbeats 2000000 in
set_option maxRecDepth 100000 in
theorem valueOf_ok (v : Int) (h : valueOfV l t = .ok v) :
    Calls Tryd.prog 39 #[.slice A l.length c, .string t] w fun e w' => e = .returned (.int .i64 v) ∧ Below w.heap.size w w' := by
  have HR := Lib.hid hr; clear hr
  have HG := Lib.hid hg; clear hg
  have HF := Lib.hid (hf.find t); clear hf
  unfold valueOfV at h
  by_cases hz : (findV l t).size = 0
  · rw [if_pos hz] at h
    obtain rfl := Except.ok.inj h
    have hl0 := toList_nil_of _ hz
    clear hz h
    go_enter Tryd.func39, Tryd.ntmps39
    go_wp2_with fail
    refine (find_calls A c l t _ HR.out hl).mono ?_
    rintro e w' ⟨rfl, hb⟩
    have HB := Aside0.mk hb; clear hb
    generalize findV l t = ft at hl0 ⊢
    go_wp2_with fail
    go_ret
    exact ⟨rfl, HB.out⟩
  · rw [if_neg hz] at h
    have hp : 0 < (findV l t).size := by omega
    have hl0 := toList_ne_of _ hp
    have hl1 : ((findV l t).toList == ([] : List UInt8)) = false := beq_eq_false_iff_ne.mpr hl0
    clear hz hp
    by_cases hc : (wholeV (findV l t)).2.2 = 0 ∧ ¬ (wholeV (findV l t)).2.1 < (findV l t).size
    · rw [if_pos hc] at h
      have HV := Aside0.mk (Except.ok.inj h)
      obtain ⟨c1, c2⟩ := hc
      have d1 : ((wholeV (findV l t)).2.2 != 0) = false := by simpa using c1
      have d1' : ((wholeV (findV l t)).2.2 == 0) = true := by simpa using c1
      have d2 : decide ((wholeV (findV l t)).2.1 < ((findV l t).size : Int)) = false := decide_eq_false c2
      clear c1 c2 h
      go_enter Tryd.func39, Tryd.ntmps39
      go_wp2_with fail
      refine (find_calls A c l t _ HR.out hl).mono ?_
      rintro e w' ⟨rfl, hb⟩
      have HB := Aside0.mk hb; clear hb
      have HG2 := Aside0.mk (HG.out.below HB.out)
      generalize findV l t = ft at *
      go_wp2_with fail
      refine (whole_calls ft _ HF.out HG2.out).mono ?_
      rintro e w2 ⟨rfl, hb2⟩
      have HB2 := Aside0.mk (below_then HB.out HB.out.size hb2); clear hb2
      generalize (wholeV ft).2.2 = v3 at *
      generalize (wholeV ft).2.1 = v2 at *
      generalize (wholeV ft).1 = v1 at *
      go_wp2_with fail
      go_ret
      exact ⟨by rw [← HV.out]; rfl, HB2.out⟩
    · rw [if_neg hc] at h; cases h
set_option maxHeartbeats 2000000 in
set_option maxRecDepth 100000 in
theorem valueOf_err (x : Int) (h : valueOfV l t = .error x) :
    Calls Tryd.prog 39 #[.slice A l.length c, .string t] w fun e w' => e = .panicked [fault x] ∧ Below w.heap.size w w' := by
  have HR := Lib.hid hr; clear hr
  have HG := Lib.hid hg; clear hg
  have HF := Lib.hid (hf.find t); clear hf
  unfold valueOfV at h
  by_cases hz : (findV l t).size = 0
  · rw [if_pos hz] at h; cases h
  · rw [if_neg hz] at h
    have hp : 0 < (findV l t).size := by omega
    have hl0 := toList_ne_of _ hp
    have hl1 : ((findV l t).toList == ([] : List UInt8)) = false := beq_eq_false_iff_ne.mpr hl0
    clear hz hp
    by_cases hc : (wholeV (findV l t)).2.2 = 0 ∧ ¬ (wholeV (findV l t)).2.1 < (findV l t).size
    · rw [if_pos hc] at h; cases h
    · rw [if_neg hc] at h
      obtain rfl := Except.error.inj h
      clear h
      by_cases c1 : (wholeV (findV l t)).2.2 = 0
      · have c2 : (wholeV (findV l t)).2.1 < (findV l t).size := by
          by_cases c2 : (wholeV (findV l t)).2.1 < (findV l t).size
          · exact c2
          · exact absurd ⟨c1, c2⟩ hc
        have d1 : ((wholeV (findV l t)).2.2 != 0) = false := by simpa using c1
        have d1' : ((wholeV (findV l t)).2.2 == 0) = true := by simpa using c1
        have d2 : decide ((wholeV (findV l t)).2.1 < ((findV l t).size : Int)) = true := decide_eq_true c2
        clear c1 c2 hc
        go_enter Tryd.func39, Tryd.ntmps39
        go_wp2_with fail
        refine (find_calls A c l t _ HR.out hl).mono ?_
        rintro e w' ⟨rfl, hb⟩
        have HB := Aside0.mk hb; clear hb
        have HG2 := Aside0.mk (HG.out.below HB.out)
        generalize findV l t = ft at *
        go_wp2_with fail
        refine (whole_calls ft _ HF.out HG2.out).mono ?_
        rintro e w2 ⟨rfl, hb2⟩
        have HB2 := Aside0.mk (below_then HB.out HB.out.size hb2); clear hb2
        generalize (wholeV ft).2.2 = v3 at *
        generalize (wholeV ft).2.1 = v2 at *
        generalize (wholeV ft).1 = v1 at *
        go_wp2_with fail
        exact ⟨rfl, rfl, HB2.out⟩
      · have d1 : ((wholeV (findV l t)).2.2 != 0) = true := by simpa using c1
        have d1' : ((wholeV (findV l t)).2.2 == 0) = false := by simpa using c1
        clear c1 hc
        go_enter Tryd.func39, Tryd.ntmps39
        go_wp2_with fail
        refine (find_calls A c l t _ HR.out hl).mono ?_
        rintro e w' ⟨rfl, hb⟩
        have HB := Aside0.mk hb; clear hb
        have HG2 := Aside0.mk (HG.out.below HB.out)
        generalize findV l t = ft at *
        go_wp2_with fail
        refine (whole_calls ft _ HF.out HG2.out).mono ?_
        rintro e w2 ⟨rfl, hb2⟩
        have HB2 := Aside0.mk (below_then HB.out HB.out.size hb2); clear hb2
        generalize (wholeV ft).2.2 = v3 at *
        generalize (wholeV ft).2.1 = v2 at *
        generalize (wholeV ft).1 = v1 at *
        go_wp2_with fail
        exact ⟨rfl, rfl, HB2.out⟩
end
end Go.Proofs.YtambnodgfhlpfaaDoor.A
