/- dragomanref06.from1, walked whole. -/
import Derived.Test.YthnfmpieoondaaaVFR
set_option linter.unusedVariables false
set_option linter.unusedSimpArgs false
namespace Go.Proofs.Ythnfmpieoondaaa.G
open Go.RowKit Go.Proofs.YthnfmpieoondaaaW.PrintWords Go.Proofs.YthnfmpieoondaaaW.PrintLast Go.Proofs.YthnfmpieoondaaaW.PrintMore Go.Proofs.Ythnfmpieoondaaa.QA Go.Proofs.Ythnfmpieoondaaa.QB
theorem mk_bools32 (x : Int) (m : Nat) (hx : x = (m : Int)) (hm : m ≤ 16000000) (W : World) : (Instr.makeSlice 72 (.int .i64 x) (.int .i64 x)).run Try.prog W = .ok (.slice (some ⟨W.heap.size, 0, none⟩) m m) (W.alloc (boolsB (List.replicate m false))) := by
  subst hx
  obtain ⟨i, hi, hz, hs, hb⟩ := info_parts info4
  have h := run_makeSlice (P := Try.prog) W 72 4 i (.bool false) Try.underlying72 hi hz .i64 .i64 (m : Int) (m : Int) (by omega) (by omega) (by rw [hs]; omega) (by rw [hb]; omega) (by omega)
  rw [hs, Nat.mul_one, Int.toNat_natCast, show (Value.bool false).cells = #[Value.bool false] from rfl, made_bools] at h
  exact h
theorem made_two (m : Nat) : madeCells #[Value.bool false, Value.bool false] m = ((List.replicate m false).map Value.bool).toArray := by
  apply Array.ext'
  simp only [madeCells, Array.toList_map, Array.toList_range, List.toList_toArray]
  rw [List.map_replicate, List.eq_replicate_iff]
  refine ⟨by simp, fun b hb => ?_⟩
  rw [List.mem_map] at hb
  obtain ⟨i, _, rfl⟩ := hb
  have : i % 2 = 0 ∨ i % 2 = 1 := by omega
  rcases this with h | h <;> simp [h]
theorem mk_seen (x : Int) (m : Nat) (hx : x = (m : Int)) (hm : m ≤ 8000000) (W : World) : (Instr.makeSlice 95 (.int .i64 x) (.int .i64 x)).run Try.prog W = .ok (.slice (some ⟨W.heap.size, 0, none⟩) m m) (W.alloc (seenB (List.replicate (m * 2) false))) := by
  subst hx
  obtain ⟨i, hi, hz, hs, hb⟩ := info_parts info76e
  have h := run_makeSlice (P := Try.prog) W 95 99 i (.agg #[(.bool false), (.bool false)]) Try.underlying95 hi hz .i64 .i64 (m : Int) (m : Int) (by omega) (by omega) (by rw [hs]; omega) (by rw [hb]; omega) (by omega)
  rw [hs, Int.toNat_natCast, show (Value.agg #[(.bool false), (.bool false)]).cells = #[Value.bool false, Value.bool false] from rfl, made_two] at h
  exact h
set_option maxHeartbeats 4000000 in
set_option maxRecDepth 100000 in
theorem from1_start (k : Nat) (A0 : Option Addr) (c0 : Nat) (l0 : List S55) (s : ByteArray) (a : Nat) (r : List Bool) (w : World) (hr0 : Kd.C k55 w A0 l0.length l0) (hc0 : l0.length ≤ c0) (hn : 0 < l0.length) (M : Nat) (hM : M = l0.length * (s.size + 1)) (hMb : M ≤ 1000000) (hs : s.size ≤ 100000) (hl : l0.length ≤ 100000)
    (hk : from1L l0 s k (List.replicate (s.size + 1) false) (List.replicate (M * 2) false) [⟨(l0.length : Int) - 1, false, a⟩] = some r) :
    Calls Try.prog 44 #[.slice A0 l0.length c0, .string s, .int .i64 a] w fun e w' => ∃ v0_ : Value, e = .returned (v0_) ∧ Kd.R Kd.bool 4 w' w.heap.size (fun _ => True) v0_ r ∧ Below w.heap.size w w' := by
  have mk1 := mk_bools32 ((s.size : Int) + 1) (s.size + 1) (by omega) (by omega)
  have mk2 := mk_seen (wrap64 ((l0.length : Int) * ((s.size : Int) + 1))) M (by
    have e : (l0.length : Int) * ((s.size : Int) + 1) = (M : Int) := by rw [hM]; simp
    rw [e]; exact wrap_nat M (by omega)) (by omega)
  have HM := Lib.hid hM
  have HK := Lib.hid hk
  have HR := Aside0.mk hr0
  clear hM hk hr0
  go_enter Try.func44, Try.ntmps44
  go_wp2_with fail
  refine fr_loop w w.heap.size (w.heap.size + 1) (w.heap.size + 1 + 1) M A0 c0 l0 s r (Nat.le_refl _) (by omega) (by omega) (by omega) (by omega) HM.out hMb hs hl hn HR.out hc0 k _ _ ?_ _ ?_
  · have z1 := blk_new w (boolsB (List.replicate (s.size + 1) false))
    have z2 := blk_new (w.alloc (boolsB (List.replicate (s.size + 1) false))) (seenB (List.replicate (M * 2) false))
    rw [World.size_alloc] at z2
    have z3 := World.ownsRow_lit (base := w.heap.size + 1 + 1) (e := 97) (size := 3) ((w.alloc (boolsB (List.replicate (s.size + 1) false))).alloc (seenB (List.replicate (M * 2) false))) #[.int .i64 ((l0.length : Int) - 1), .bool false, .int .i64 a] 1 (by simp) (by simp [maxLen]) (by rfl)
    simp only [World.size_alloc] at z3
    refine ⟨_, fr2_of _ (by rfl), ⟨rfl, rfl, rfl, rfl⟩, List.replicate (s.size + 1) false, List.replicate (M * 2) false, [⟨(l0.length : Int) - 1, false, a⟩], ⟨blk_alloc (blk_alloc z1 _) _, blk_alloc z2 _, ⟨fun _ _ => trivial, _, z3, ?_⟩⟩, HK.out, ?_, by simp, by simp, by simp⟩
    · exact Reps.c3 (k97_mkM _ _ _ ⟨(l0.length : Int) - 1, false, a⟩) (Reps.none _ _)
    · exact (((Below.refl _ _).alloc (Nat.le_refl _) _).alloc (by simp) _).alloc (by simp; omega) _
  · rintro a' w3 ⟨u, rfl, ⟨h0, h1, h7, h8⟩, ho, hrl, hb⟩
    unfold fr2
    rw [h0, h1, h7, h8]
    have HRR := Lib.hid ho
    have HRL := Lib.hid hrl
    have HBB := Lib.hid hb
    clear ho hrl hb h0 h1 h7 h8
    go_wp2_with fail
    go_ret
    refine ⟨_, rfl, Kd.R_of_own ?_ (fun _ _ => trivial), HBB.out⟩
    have hrl := HRL.out
    have hr := HRR.out
    refine ⟨?_, .inr ⟨w.heap.size, s.size + 1, _, ?_, ?_, hr, ?_, ?_, ?_, ?_⟩⟩
    · simp [encs]
    · show Value.slice _ (s.size + 1) _ = Value.slice _ _ _
      rw [hrl]
    · omega
    · omega
    · unfold maxLen; omega
    · simp [hrl]
    · rw [hrl, Nat.mul_one, ← hrl]
      simp [encs, List.take_of_length_le]
/-- What dragomanref06.from1 computes. -/
def ref06_from1.f (k : Nat) (l0 : List S55) (s : ByteArray) (a : Int) : Option (List Bool) :=
  if 0 < l0.length ∧ l0.length * (s.size + 1) ≤ 1000000 ∧ s.size ≤ 100000 ∧ l0.length ≤ 100000 ∧ 0 ≤ a then
    from1L l0 s k (List.replicate (s.size + 1) false) (List.replicate (l0.length * (s.size + 1) * 2) false) [⟨(l0.length : Int) - 1, false, a⟩]
  else none
theorem ref06_from1.calls (k : Nat) (A0 : Option Addr) (c0 : Nat) (l0 : List S55) (s : ByteArray) (a : Int) (r : List Bool) (w : World) (hr0 : Kd.C k55 w A0 l0.length l0) (hc0 : l0.length ≤ c0) (h : ref06_from1.f k l0 s a = some r) :
    Calls Try.prog 44 #[.slice A0 l0.length c0, .string s, .int .i64 a] w fun e w' => ∃ v0_ : Value, e = .returned (v0_) ∧ Kd.R Kd.bool 4 w' w.heap.size (fun _ => True) v0_ r ∧ Below w.heap.size w w' := by
  unfold ref06_from1.f at h
  by_cases hg : 0 < l0.length ∧ l0.length * (s.size + 1) ≤ 1000000 ∧ s.size ≤ 100000 ∧ l0.length ≤ 100000 ∧ 0 ≤ a
  case neg => rw [if_neg hg] at h; cases h
  rw [if_pos hg] at h
  obtain ⟨g1, g2, g3, g4, g5⟩ := hg
  obtain ⟨n, rfl⟩ := Int.eq_ofNat_of_zero_le g5
  exact from1_start k A0 c0 l0 s n r w hr0 hc0 g1 _ rfl g2 g3 g4 h
theorem from1L_mono (l : List S55) (s : ByteArray) : ∀ k out seen wait, LeO (from1L l s k out seen wait) (from1L l s (k + 1) out seen wait)
  | 0, _, _, _ => fun r h => by simp [from1L] at h
  | k + 1, out, seen, wait => by
    have ih := from1L_mono l s k
    unfold from1L
    cases wait.getLast? with
    | none => exact LeO.refl _
    | some x => exact LeO.ite (LeO.ite (ih _ _ _) (LeO.ite (LeO.ite (ih _ _ _) (LeO.bind (dragomanref06_beyond.mono l _ _ _ k) fun ys => LeO.ite (ih _ _ _) (LeO.refl _))) (LeO.bind (dragomanref06_within.mono l s _ _ _ k) fun ys => LeO.ite (ih _ _ _) (LeO.refl _)))) (LeO.refl _)
theorem ref06_from1.mono : ∀ l0 s a k, LeO (ref06_from1.f k l0 s a) (ref06_from1.f (k + 1) l0 s a) := by
  intro l0 s a k
  unfold ref06_from1.f
  exact LeO.ite (from1L_mono l0 s k _ _ _) (LeO.refl _)
end Go.Proofs.Ythnfmpieoondaaa.G
