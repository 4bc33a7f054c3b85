/- match.ends, walked whole. -/
import Derived.Test.YthnfmpieoondaaaJGG
import Derived.Test.YthnfmpieoondaaaJGA
import Derived.Outline
import Derived.WalkMore
import Derived.BigRegion
set_option linter.unusedVariables false
set_option linter.unusedSimpArgs false
namespace Go.Proofs.Ythnfmpieoondaaa.G
open Go.RowKit Go.Proofs.YthnfmpieoondaaaW.PrintWords Go.Proofs.YthnfmpieoondaaaW.PrintLast Go.Proofs.YthnfmpieoondaaaW.PrintMore Go.Proofs.Ythnfmpieoondaaa.QA
set_option maxHeartbeats 4000000 in
set_option maxRecDepth 100000 in
theorem ends_start (k : Nat) (seen1 : List Bool) (wait1 : List S113) (A0 : Option Addr) (c0 : Nat) (l0 : List S55) (s : ByteArray) (a : Nat) (r : List Bool) (up : List Int) (w : World) (hr0 : Kd.C k55 w A0 l0.length l0) (hc0 : l0.length ≤ c0)
    (hn : 0 < l0.length) (hup : match_parents.f k l0 = some up) (hlu : up.length = l0.length) (hm : l0.length * (s.size + 1) ≤ 1000000) (hs : s.size ≤ 100000) (hl : l0.length ≤ 100000) (hr1 : reachP l0.length (s.size + 1) (List.replicate (2 * (l0.length * (s.size + 1))) false, []) ((l0.length : Int) - 1) false a = some (seen1, wait1))
    (hk : endsL l0 up s k (List.replicate (s.size + 1) false) (seen1, wait1) = some r) :
    Calls Try.prog 68 #[.slice A0 l0.length c0, .string s, .int .i64 a] w fun e w' => ∃ v0_, e = .returned v0_ ∧ Kd.R Kd.bool 4 w' w.heap.size (fun _ => True) v0_ r ∧ Below w.heap.size w w' := by
  have HLU := Lib.hid hlu
  have HEL := Lib.hid hk
  clear hlu hk
  have HR := Lib.hid hr0
  have HUP := Lib.hid hup
  clear hr0 hup
  have mk1 := mk_bools ((s.size : Int) + 1) (s.size + 1) (by omega) (by omega)
  obtain ⟨M, hM⟩ : ∃ M, M = 2 * (l0.length * (s.size + 1)) := ⟨_, rfl⟩
  have hMb : M ≤ 2000000 := by omega
  have mk2 := mk_bools (wrap64 (2 * (l0.length : Int) * ((s.size : Int) + 1))) M (by
    have e : 2 * (l0.length : Int) * ((s.size : Int) + 1) = (M : Int) := by rw [hM]; simp [Int.mul_assoc]
    rw [e]; exact wrap_nat M (by omega)) (by omega)
  have HM := Lib.hid hM
  rw [← hM] at hr1
  have HR1 := Lib.hid hr1
  clear hM hr1
  go_enter Try.func68, Try.ntmps68
  go_wp2_with fail
  go_step3
  go_wp2_with fail
  refine (match_parents.calls k A0 c0 l0 up _ (Kd.C_alloc HR.out _) hc0 HUP.out).mono ?_
  rintro e w1 ⟨vup, rfl, hR, hB⟩
  have hsz : w.heap.size + 1 ≤ w1.heap.size := by have := hB.size; simp at this; omega
  have HRU := Lib.hid hR
  have HRO := Lib.hid (Kd.own_of_R hR)
  have HB1 := Lib.hid hB
  have d1 : w1.heap[w.heap.size]? = some (.cells #[.slice A0 l0.length c0] 22 (0, 0)) := blk_below (blk_new w _) hB
  have e1 : w1.cell? ⟨w.heap.size, 0, none⟩ = some (.slice A0 l0.length c0) := (blk_cell d1 0).trans rfl
  have e1_1 : ∀ X0, (w1.alloc X0).cell? ⟨w.heap.size, 0, none⟩ = some (.slice A0 l0.length c0) := fun X0 => (blk_cell (blk_alloc d1 X0) 0).trans rfl
  have e1_2 : ∀ X0 X1, ((w1.alloc X0).alloc X1).cell? ⟨w.heap.size, 0, none⟩ = some (.slice A0 l0.length c0) := fun X0 X1 => (blk_cell (blk_alloc (blk_alloc d1 X0) X1) 0).trans rfl
  have e1_3 : ∀ X0 X1 X2, (((w1.alloc X0).alloc X1).alloc X2).cell? ⟨w.heap.size, 0, none⟩ = some (.slice A0 l0.length c0) := fun X0 X1 X2 => (blk_cell (blk_alloc (blk_alloc (blk_alloc d1 X0) X1) X2) 0).trans rfl
  have e1_4 : ∀ X0 X1 X2 X3, ((((w1.alloc X0).alloc X1).alloc X2).alloc X3).cell? ⟨w.heap.size, 0, none⟩ = some (.slice A0 l0.length c0) := fun X0 X1 X2 X3 => (blk_cell (blk_alloc (blk_alloc (blk_alloc (blk_alloc d1 X0) X1) X2) X3) 0).trans rfl
  have e1_5 : ∀ X0 X1 X2 X3 X4, (((((w1.alloc X0).alloc X1).alloc X2).alloc X3).alloc X4).cell? ⟨w.heap.size, 0, none⟩ = some (.slice A0 l0.length c0) := fun X0 X1 X2 X3 X4 => (blk_cell (blk_alloc (blk_alloc (blk_alloc (blk_alloc (blk_alloc d1 X0) X1) X2) X3) X4) 0).trans rfl
  have e1_6 : ∀ X0 X1 X2 X3 X4 X5, ((((((w1.alloc X0).alloc X1).alloc X2).alloc X3).alloc X4).alloc X5).cell? ⟨w.heap.size, 0, none⟩ = some (.slice A0 l0.length c0) := fun X0 X1 X2 X3 X4 X5 => (blk_cell (blk_alloc (blk_alloc (blk_alloc (blk_alloc (blk_alloc (blk_alloc d1 X0) X1) X2) X3) X4) X5) 0).trans rfl
  have D1 := Lib.hid d1
  clear hR hB d1
  go_wp2_with fail
  have hE : EW ((((((w1.alloc (boolsB (List.replicate (s.size + 1) false))).alloc (.cells #[.slice (some ⟨w1.heap.size, 0, none⟩) (s.size + 1) (s.size + 1)] 105)).alloc (boolsB (List.replicate M false))).alloc (.cells #[.slice (some ⟨w1.heap.size + 1 + 1, 0, none⟩) M M] 105)).alloc (.cells #[.slice none 0 0] 111)))
      w.heap.size (w1.heap.size + 1) (w1.heap.size + 1 + 1 + 1) (w1.heap.size + 1 + 1 + 1 + 1) w1.heap.size (w1.heap.size + 1 + 1) l0.length (s.size + 1) (w1.heap.size + 1 + 1 + 1 + 1 + 1) A0 c0 (List.replicate (s.size + 1) false) (List.replicate M false) (.slice none 0 0) [] := by
    have z1 := blk_new w1 (boolsB (List.replicate (s.size + 1) false))
    have z2 := blk_new (w1.alloc (boolsB (List.replicate (s.size + 1) false))) (.cells #[.slice (some ⟨w1.heap.size, 0, none⟩) (s.size + 1) (s.size + 1)] 105)
    have z3 := blk_new ((w1.alloc (boolsB (List.replicate (s.size + 1) false))).alloc (.cells #[.slice (some ⟨w1.heap.size, 0, none⟩) (s.size + 1) (s.size + 1)] 105)) (boolsB (List.replicate M false))
    have z4 := blk_new (((w1.alloc (boolsB (List.replicate (s.size + 1) false))).alloc (.cells #[.slice (some ⟨w1.heap.size, 0, none⟩) (s.size + 1) (s.size + 1)] 105)).alloc (boolsB (List.replicate M false))) (.cells #[.slice (some ⟨w1.heap.size + 1 + 1, 0, none⟩) M M] 105)
    have z5 := blk_new ((((w1.alloc (boolsB (List.replicate (s.size + 1) false))).alloc (.cells #[.slice (some ⟨w1.heap.size, 0, none⟩) (s.size + 1) (s.size + 1)] 105)).alloc (boolsB (List.replicate M false))).alloc (.cells #[.slice (some ⟨w1.heap.size + 1 + 1, 0, none⟩) M M] 105)) (.cells #[.slice none 0 0] 111)
    rw [World.size_alloc] at z2
    rw [World.size_alloc, World.size_alloc] at z3
    rw [World.size_alloc, World.size_alloc, World.size_alloc] at z4
    rw [World.size_alloc, World.size_alloc, World.size_alloc, World.size_alloc] at z5
    refine ⟨blk_alloc (blk_alloc (blk_alloc (blk_alloc (blk_alloc D1.out _) _) _) _) _, blk_alloc (blk_alloc (blk_alloc z2 _) _) _, ?_, z5, blk_alloc (blk_alloc (blk_alloc (blk_alloc z1 _) _) _) _, blk_alloc (blk_alloc z3 _) _, World.ownsRow_nil _ _ _ _⟩
    rw [List.length_replicate]
    exact blk_alloc z4 _
  have hA : Apart w.heap.size (w1.heap.size + 1) (w1.heap.size + 1 + 1 + 1) (w1.heap.size + 1 + 1 + 1 + 1) w1.heap.size (w1.heap.size + 1 + 1) (w1.heap.size + 1 + 1 + 1 + 1 + 1) := ⟨by omega, by omega⟩
  refine (reach_calls _ _ _ _ _ _ _ _ _ _ _ _ _ _ _ _ _ _ _ _ _ hE hA (by simp) HR1.out).mono ?_
  rintro e w2 ⟨rfl, vw1, hE1, hM1, hO1⟩
  have HE1 := Lib.hid hE1
  have HA := Lib.hid hA
  have hz2 : w1.heap.size + 1 + 1 + 1 + 1 + 1 ≤ w2.heap.size := by have := hM1.size; simp at this; omega
  have hbel : Below w.heap.size w w2 := by
    have b0 : Below w.heap.size w ((((((w1.alloc (boolsB (List.replicate (s.size + 1) false))).alloc (.cells #[.slice (some ⟨w1.heap.size, 0, none⟩) (s.size + 1) (s.size + 1)] 105)).alloc (boolsB (List.replicate M false))).alloc (.cells #[.slice (some ⟨w1.heap.size + 1 + 1, 0, none⟩) M M] 105)).alloc (.cells #[.slice none 0 0] 111))) :=
      (((((below_then ((Below.refl _ _).alloc (Nat.le_refl _) _) (by simp) HB1.out).alloc (by omega) _).alloc (by simp; omega) _).alloc (by simp; omega) _).alloc (by simp; omega) _).alloc (by simp; omega) _
    exact b0.trans (hM1.below (by omega) (by omega) (fun g h => by simp [Value.ownBlock] at h) (by simp; omega))
  have HBEL := Lib.hid hbel
  have HM1 := Lib.hid hM1
  clear hE hE1 hA hM1 hO1 hbel e1 e1_1 e1_2 e1_3 e1_4 e1_5 e1_6 mk1 mk2
  go_wp2_with fail
  go_step3
  go_wp2_with fail
  obtain ⟨gu, capu, curu, hvu, hgu1, hgu3, hgu2, hcu⟩ : ∃ gu capu curu, vup = .slice (some ⟨gu, 0, none⟩) up.length capu ∧ w.heap.size + 1 ≤ gu ∧ gu < w1.heap.size ∧ w2.heap[gu]? = some (.cells curu 3 (0, 0)) ∧ ∀ i, i < up.length → curu[i]? = some (.int .i64 (up.getD i 0)) := by
    have ho := HRO.out
    have hlu := HLU.out
    rcases ho.2 with ⟨_, h⟩ | ⟨g, cap, cur, hv, hb, hg, h1, h2, h3, h4⟩
    · omega
    · refine ⟨g, cap, cur, hv, by simpa using hb, blk_lt hg, (HM1.out.block g (by have := blk_lt hg; simp; omega) (by have := blk_lt hg; omega) (by have := blk_lt hg; omega) (by simp [Value.ownBlock])).trans ?_, fun i hi => ?_⟩
      · exact blk_alloc (blk_alloc (blk_alloc (blk_alloc (blk_alloc hg _) _) _) _) _
      · have h5 := congrArg (fun q => q[i]?) h4
        simp only [List.getElem?_take, Nat.mul_one] at h5
        rw [if_pos hi] at h5
        rw [← Array.getElem?_toList, h5, encs_get]
        simp [hi]
  subst hvu
  have hlu := HLU.out
  refine ends_loop w w1.heap.size gu capu curu A0 c0 l0 up s r (by omega) hgu1 hgu3 hcu hlu hs hl HR.out k _ w2 ?_ _ ?_
  · exact ⟨_, fr_of _ (by rfl), ⟨rfl, rfl, rfl, rfl, rfl, rfl⟩, _, seen1, vw1, wait1, HE1.out, HEL.out, HBEL.out, hz2, by simp, hgu2⟩
  rintro a' w3 ⟨u, rfl, ⟨h1, h3, h7, h8, h10, h11⟩, ho, hr, hrl, hb⟩
  unfold fr
  rw [h1, h3, h7, h8, h10, h11]
  have co : w3.cell? ⟨w1.heap.size + 1, 0, none⟩ = some (.slice (some ⟨w1.heap.size, 0, none⟩) (s.size + 1) (s.size + 1)) := (blk_cell ho 0).trans rfl
  have HRR := Lib.hid hr
  have HRL := Lib.hid hrl
  have HBB := Lib.hid hb
  clear hr hrl hb ho h1 h3 h7 h8 h10 h11
  go_wp2_with fail
  rw [Exit.noGoto_ret]
  go_ret
  refine ⟨_, rfl, Kd.R_of_own ?_ (fun _ _ => trivial), HBB.out⟩
  have hrl := HRL.out
  have hr := HRR.out
  refine ⟨?_, .inr ⟨w1.heap.size, s.size + 1, _, ?_, ?_, hr, ?_, ?_, ?_, ?_⟩⟩
  · simp [encs]
  · show Value.slice _ (s.size + 1) _ = Value.slice _ _ _
    rw [hrl]
  · omega
  · omega
  · unfold maxLen; omega
  · simp [hrl]
  · rw [hrl, Nat.mul_one, ← hrl]
    simp [encs, List.take_of_length_le]
/-- What match.ends computes. -/
def match_ends.f (k : Nat) (l0 : List S55) (s : ByteArray) (a : Int) : Option (List Bool) :=
  if 0 < l0.length ∧ l0.length * (s.size + 1) ≤ 1000000 ∧ s.size ≤ 100000 ∧ l0.length ≤ 100000 ∧ 0 ≤ a then
    (match_parents.f k l0).bind fun up => if up.length = l0.length then (reachP l0.length (s.size + 1) (List.replicate (2 * (l0.length * (s.size + 1))) false, []) ((l0.length : Int) - 1) false a).bind fun sw => endsL l0 up s k (List.replicate (s.size + 1) false) sw else none
  else none
theorem match_ends.calls (k : Nat) (A0 : Option Addr) (c0 : Nat) (l0 : List S55) (s : ByteArray) (a : Int) (r : List Bool) (w : World) (hr0 : Kd.C k55 w A0 l0.length l0) (hc0 : l0.length ≤ c0) (h : match_ends.f k l0 s a = some r) :
    Calls Try.prog 68 #[.slice A0 l0.length c0, .string s, .int .i64 a] w fun e w' => ∃ v0_ : Value, e = .returned (v0_) ∧ Kd.R Kd.bool 4 w' w.heap.size (fun _ => True) v0_ r ∧ Below w.heap.size w w' := by
  unfold match_ends.f at h
  by_cases hg : 0 < l0.length ∧ l0.length * (s.size + 1) ≤ 1000000 ∧ s.size ≤ 100000 ∧ l0.length ≤ 100000 ∧ 0 ≤ a
  case neg => rw [if_neg hg] at h; cases h
  rw [if_pos hg] at h
  obtain ⟨g1, g2, g3, g4, g5⟩ := hg
  obtain ⟨n, rfl⟩ := Int.eq_ofNat_of_zero_le g5
  cases hu : match_parents.f k l0 with
  | none => rw [hu] at h; cases h
  | some up =>
  rw [hu, Option.bind_some] at h
  by_cases hlu : up.length = l0.length
  case neg => rw [if_neg hlu] at h; cases h
  rw [if_pos hlu] at h
  cases hr : reachP l0.length (s.size + 1) (List.replicate (2 * (l0.length * (s.size + 1))) false, []) ((l0.length : Int) - 1) false n with
  | none => rw [hr] at h; cases h
  | some sw =>
  rw [hr, Option.bind_some] at h
  exact ends_start k sw.1 sw.2 A0 c0 l0 s n r up w hr0 hc0 g1 hu hlu g2 g3 g4 hr h
end Go.Proofs.Ythnfmpieoondaaa.G
