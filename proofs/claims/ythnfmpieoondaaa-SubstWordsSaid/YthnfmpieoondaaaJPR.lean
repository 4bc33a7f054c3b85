/- dragomanref05.Read at a text of one plain byte, or of one and a sign behind it: walked. -/
import Derived.Test.YthnfmpieoondaaaJQBx
import Derived.BigRegion
import Derived.Deep.RegionLaw
import Derived.BigQuiet
import Derived.Deep.QuietTactic
import Derived.Outline
import Derived.WalkMore
import Derived.LoopN
set_option linter.unusedVariables false
set_option linter.unusedSimpArgs false
namespace Go.Proofs.Ythnfmpieoondaaa.G
open Go.RowKit Go.Proofs.YthnfmpieoondaaaW.PrintWords Go.Proofs.YthnfmpieoondaaaW.PrintLast Go.Proofs.YthnfmpieoondaaaW.PrintMore Go.Proofs.Ythnfmpieoondaaa.QA Go.Proofs.Ythnfmpieoondaaa.QB
/-- How a parser lies. -/
structure PS (W : World) (g : Nat) (s : ByteArray) (i : Nat) (tv : Value) (xs : List S55) : Prop where
  h : W.heap[g]? = some (.cells #[.string s, .int .i64 i, .int .i64 0, tv, .int .i64 0] 68 (0, 0))
  r : Kd.R k55 55 W (g + 1) (fun _ => True) tv xs
theorem PS.drewN {W : World} {g : Nat} {s : ByteArray} {i : Nat} {tv : Value} {xs : List S55} (h : PS W g s i tv xs) (n : Nat) : PS (W.drewN n) g s i tv xs := ⟨blk_drewN h.h n, Kd.R_drewN h.r n⟩
theorem PS.below {W W' : World} {g : Nat} {s : ByteArray} {i : Nat} {tv : Value} {xs : List S55} (h : PS W g s i tv xs) (hb : Below W.heap.size W W') : PS W' g s i tv xs := ⟨blk_below h.h hb, Kd.R_below h.r hb⟩
theorem name_exit {K : Act → World → Prop} {Q : Exit → Act → World → Prop} {e : Exit} {a : Act} {W : World} (S : World → Prop) (hS : S W) (k : ∀ w', S w' → Exit.then K Q e a w') : Exit.then K Q e a W := k W hS
set_option maxHeartbeats 4000000 in
set_option maxRecDepth 100000 in
theorem is_in (W : World) (g : Nat) (s : ByteArray) (i : Nat) (tv : Value) (xs : List S55) (c : Int) (hp : PS W g s i tv xs) (hi : i < s.size) (b : Bool) (hb : (((s[i]'hi).toNat : Int) == c) = b) :
    Calls Try.prog 60 #[.pointer (some ⟨g, 0, none⟩), .int .u8 c] W fun e W' => e = .returned (.bool b) ∧ ∃ n, W' = W.drewN n := by
  have c0 : W.cell? ⟨g, 0, none⟩ = some (.string s) := (blk_cell hp.h 0).trans rfl
  have c1 : W.cell? ⟨g, 1, none⟩ = some (.int .i64 i) := (blk_cell hp.h 1).trans rfl
  have c4 : W.cell? ⟨g, 4, none⟩ = some (.int .i64 0) := (blk_cell hp.h 4).trans rfl
  have h1 : decide ((i : Int) < (s.size : Int)) = true := decide_eq_true (by omega)
  have h2 : decide (i < s.size) = true := decide_eq_true hi
  clear hp
  go_enter Try.func60, Try.ntmps60
  go_wp2_with fail
  go_quiet (fail)
  go_wp2_with fail
  go_ret
  exact ⟨rfl, _, rfl⟩
set_option maxHeartbeats 4000000 in
set_option maxRecDepth 100000 in
theorem is_out (W : World) (g : Nat) (s : ByteArray) (i : Nat) (tv : Value) (xs : List S55) (c : Int) (hp : PS W g s i tv xs) (hi : s.size ≤ i) :
    Calls Try.prog 60 #[.pointer (some ⟨g, 0, none⟩), .int .u8 c] W fun e W' => e = .returned (.bool false) ∧ ∃ n, W' = W.drewN n := by
  have c0 : W.cell? ⟨g, 0, none⟩ = some (.string s) := (blk_cell hp.h 0).trans rfl
  have c1 : W.cell? ⟨g, 1, none⟩ = some (.int .i64 i) := (blk_cell hp.h 1).trans rfl
  have c4 : W.cell? ⟨g, 4, none⟩ = some (.int .i64 0) := (blk_cell hp.h 4).trans rfl
  have h1 : decide ((i : Int) < (s.size : Int)) = false := decide_eq_false (by omega)
  have h2 : decide (i < s.size) = false := decide_eq_false (by omega)
  clear hp
  go_enter Try.func60, Try.ntmps60
  go_wp2_with fail
  go_quiet (fail)
  go_wp2_with fail
  go_ret
  exact ⟨rfl, _, rfl⟩
theorem is_in' (W : World) (g : Nat) (s : ByteArray) (i : Nat) (tv : Value) (xs : List S55) (c : Int) (hp : PS W g s i tv xs) (hi : i < s.size) (b : Bool) (hb : (((s[i]'hi).toNat : Int) == c) = b) :
    Calls Try.prog 60 #[.pointer (some ⟨g, 0, none⟩), .int .u8 c] W fun e W' => e = .returned (.bool b) ∧ Below g W W' ∧ PS W' g s i tv xs :=
  (is_in W g s i tv xs c hp hi b hb).mono fun e W' ⟨he, n, hn⟩ => ⟨he, by rw [hn]; exact pw_below_drewN (Below.refl _ _) n, by rw [hn]; exact hp.drewN n⟩
theorem is_out' (W : World) (g : Nat) (s : ByteArray) (i : Nat) (tv : Value) (xs : List S55) (c : Int) (hp : PS W g s i tv xs) (hi : s.size ≤ i) :
    Calls Try.prog 60 #[.pointer (some ⟨g, 0, none⟩), .int .u8 c] W fun e W' => e = .returned (.bool false) ∧ Below g W W' ∧ PS W' g s i tv xs :=
  (is_out W g s i tv xs c hp hi).mono fun e W' ⟨he, n, hn⟩ => ⟨he, by rw [hn]; exact pw_below_drewN (Below.refl _ _) n, by rw [hn]; exact hp.drewN n⟩
def nodeOf (kind : Int) (a b c d : Int) (x y : Int) : S55 := ⟨kind, ⟨a, b, c, d⟩, ⟨x, y⟩⟩
theorem info42' : (Try.prog.info? 55).map (fun i => (i.zero, i.size, i.bytes)) = some (some (.agg #[(.int .i64 0), (.int .u64 0), (.int .u64 0), (.int .u64 0), (.int .u64 0), (.int .i64 0), (.int .i64 0)]), 7, 56) := by kernel_rfl
set_option maxHeartbeats 8000000 in
set_option maxRecDepth 100000 in
theorem lay_ok (W : World) (g : Nat) (s : ByteArray) (i : Nat) (tv : Value) (xs : List S55) (kind a b c d x y : Int) (hp : PS W g s i tv xs) (hl : xs.length < 2000) :
    Calls Try.prog 61 #[.pointer (some ⟨g, 0, none⟩), .int .i64 kind, .agg #[.int .u64 a, .int .u64 b, .int .u64 c, .int .u64 d], .int .i64 x, .int .i64 y] W fun e W' => e = .returned (.int .i64 xs.length) ∧ Below g W W' ∧ ∃ tv', PS W' g s i tv' (xs ++ [nodeOf kind a b c d x y]) := by
  obtain ⟨A, cap, rfl⟩ := Kd.R_slice hp.r
  have c3 : W.cell? ⟨g, 3, none⟩ = some (.slice A xs.length cap) := (blk_cell hp.h 3).trans rfl
  have c4 : W.cell? ⟨g, 4, none⟩ = some (.int .i64 0) := (blk_cell hp.h 4).trans rfl
  have f3 : W.frozen? ⟨g, 3, none⟩ = false := blk_frozen hp.h 3
  have h1 : ((xs.length : Int) == 2000) = false := beq_eq_false_iff_ne.2 (by omega)
  have HP := Lib.hid hp
  have HR := Lib.hid (Kd.R_alloc (Kd.R_mono (Kd.R_bound HP.out.r) (fun k h => h.2.1) : Kd.R k55 55 W (g + 1) (fun k => g + 1 ≤ k) _ xs) (.cells #[.int .u64 a, .int .u64 b, .int .u64 c, .int .u64 d] 53))
  have hgs := blk_lt HP.out.h
  go_enter Try.func61, Try.ntmps61
  go_upto_region 4 with (fail)
  have hg1 : (W.alloc (.cells #[.int .u64 a, .int .u64 b, .int .u64 c, .int .u64 d] 53)).heap[g]? = _ := blk_alloc HP.out.h _
  have hx1 := blk_new W (.cells #[.int .u64 a, .int .u64 b, .int .u64 c, .int .u64 d] 53)
  have hB1 : Below g W (W.alloc (.cells #[.int .u64 a, .int .u64 b, .int .u64 c, .int .u64 d] 53)) := (Below.refl _ _).alloc (by omega) _
  have hz1 : (W.alloc (.cells #[.int .u64 a, .int .u64 b, .int .u64 c, .int .u64 d] 53)).heap.size = W.heap.size + 1 := by simp
  clear c3 c4 f3 h1
  generalize (W.alloc (.cells #[.int .u64 a, .int .u64 b, .int .u64 c, .int .u64 d] 53)) = W1 at *
  generalize W.heap.size = gb at *
  have c3 : W1.cell? ⟨g, 3, none⟩ = some (.slice A xs.length cap) := (blk_cell hg1 3).trans rfl
  have x0 : W1.cell? ⟨gb, 0, none⟩ = some (.int .u64 a) := (blk_cell hx1 0).trans rfl
  have x1 : W1.cell? ⟨gb, 1, none⟩ = some (.int .u64 b) := (blk_cell hx1 1).trans rfl
  have x2 : W1.cell? ⟨gb, 2, none⟩ = some (.int .u64 c) := (blk_cell hx1 2).trans rfl
  have x3 : W1.cell? ⟨gb, 3, none⟩ = some (.int .u64 d) := (blk_cell hx1 3).trans rfl
  have c3a : ∀ X, (W1.alloc X).cell? ⟨g, 3, none⟩ = some (.slice A xs.length cap) := fun X => (blk_cell (blk_alloc hg1 X) 3).trans rfl
  have HG1 := Lib.hid hg1
  have HB1 := Lib.hid hB1
  have HZ1 := Lib.hid hz1
  clear hg1 hx1 hB1 hz1
  go_region_law ((refine Kd.R_append_step k55 (w0 := W1.drew) (g + 1) (by rfl) (.tmp 35) (.tmp 42) 22 55 (.agg #[(.int .i64 0), (.int .u64 0), (.int .u64 0), (.int .u64 0), (.int .u64 0), (.int .i64 0), (.int .i64 0)]) 56 rfl Try.underlying22 info42' rfl (by decide) (by omega) (.slice A xs.length cap) xs (nodeOf kind a b c d x y) [.int .i64 kind, .int .u64 a, .int .u64 b, .int .u64 c, .int .u64 d, .int .i64 x, .int .i64 y] (fun k => g + 1 ≤ k) (fun _ => False) (by simp [Act.eval, Act.put]) (by simp [Act.eval, Act.put]) (k55_mkM _ _ _ (nodeOf kind a b c d x y)) (fun _ h => h.elim) (fun k hk => by have : W1.heap.size ≤ k := hk; have := HZ1.out; omega) (Kd.R_drew HR.out) (Below.refl _ _) (by have := HZ1.out; show g + 1 ≤ W1.heap.size; omega) (by omega) ?_); intro v1 w1 ho hb hg hat; obtain ⟨A1, cap1, rfl⟩ := Kd.R_slice ho; have hq : w1.heap[g]? = some (.cells #[.string s, .int .i64 i, .int .i64 0, .slice A xs.length cap, .int .i64 0] 68 (0, 0)) := blk_grown (blk_drew HG1.out) hg (Kd.R_away HR.out (fun k hk => by have : g + 1 ≤ k := hk; omega)); have e3 : w1.cell? ⟨g, 3, none⟩ = some (.slice A xs.length cap) := (blk_cell hq 3).trans rfl; have f3 : w1.frozen? ⟨g, 3, none⟩ = false := blk_frozen hq 3; have HQ := Lib.hid hq; have HO := Lib.hid ho; have HBB := Lib.hid hb; clear hq ho hb hg hat)
  all_goals
    rw [show (xs ++ [nodeOf kind a b c d x y]).length = xs.length + 1 by simp] at HO
    have hq4 : (w1.setCell ⟨g, 3, none⟩ (.slice A1 (xs.length + 1) cap1)).heap[g]? = some (.cells #[.string s, .int .i64 i, .int .i64 0, .slice A1 (xs.length + 1) cap1, .int .i64 0] 68 (0, 0)) := blk_put HQ.out 3 _ rfl
    have hb4 : Below g W1.drew (w1.setCell ⟨g, 3, none⟩ (.slice A1 (xs.length + 1) cap1)) := (HBB.out.mono (by omega)).setCell (by show g ≤ g; omega) _
    have ho4 : Kd.R k55 55 (w1.setCell ⟨g, 3, none⟩ (.slice A1 (xs.length + 1) cap1)) (g + 1) (fun _ => True) (.slice A1 (xs.length + 1) cap1) (xs ++ [nodeOf kind a b c d x y]) := Kd.R_mono (Kd.R_far HO.out (fun k hk => by have : g + 1 ≤ k := hk; show k ≠ g; omega) _) (fun _ _ => trivial)
    generalize (w1.setCell ⟨g, 3, none⟩ (.slice A1 (xs.length + 1) cap1)) = w4 at *
    have d3 : w4.cell? ⟨g, 3, none⟩ = some (.slice A1 (xs.length + 1) cap1) := (blk_cell hq4 3).trans rfl
    have HQ4 := Lib.hid hq4
    have HO4 := Lib.hid ho4
    have HB4 := Lib.hid hb4
    clear hq4 ho4 hb4 e3 f3 c3 c3a x0 x1 x2 x3 HO HQ hp
    go_wp2_with fail
    go_ret
    exact ⟨rfl, (HB1.out.trans (show Below g W1 W1.drew from ⟨rfl, rfl, rfl, Nat.le_refl _, fun _ _ => rfl⟩)).trans HB4.out, _, HQ4.out, HO4.out⟩
set_option maxHeartbeats 8000000 in
set_option maxRecDepth 100000 in
theorem atom_ok (W : World) (g : Nat) (s : ByteArray) (i : Nat) (tv : Value) (xs : List S55) (k : Nat) (c a1 a2 a3 a4 : Int) (hp : PS W g s i tv xs) (hi : i < s.size) (hs : s.size ≤ 100000)
    (h40 : (((s[i]'hi).toNat : Int) == 40) = false) (h46 : (((s[i]'hi).toNat : Int) == 46) = false) (h94 : (((s[i]'hi).toNat : Int) == 94) = false) (h36 : (((s[i]'hi).toNat : Int) == 36) = false) (h91 : (((s[i]'hi).toNat : Int) == 91) = false)
    (h42 : (((s[i]'hi).toNat : Int) == 42) = false) (h43 : (((s[i]'hi).toNat : Int) == 43) = false) (h63 : (((s[i]'hi).toNat : Int) == 63) = false) (h41 : (((s[i]'hi).toNat : Int) == 41) = false) (h124 : (((s[i]'hi).toNat : Int) == 124) = false) (h123 : (((s[i]'hi).toNat : Int) == 123) = false) (h125 : (((s[i]'hi).toNat : Int) == 125) = false) (h47 : (((s[i]'hi).toNat : Int) == 47) = false)
    (hsg : dragomanref04_Sign.f k (s.extract i s.size) = some (c, 1, 0)) (ho : dragomanref04_One.f c = some (a1, a2, a3, a4)) (hl : xs.length < 1990) :
    Calls Try.prog 79 #[.pointer (some ⟨g, 0, none⟩)] W fun e W' => e = .returned (.int .i64 xs.length) ∧ Below g W W' ∧ ∃ tv', PS W' g s (i + 1) tv' (xs ++ [nodeOf 1 a1 a2 a3 a4 0 0]) := by
  have HP := Lib.hid hp
  have HSG := Lib.hid hsg
  have HO := Lib.hid ho
  have h1 : decide ((i : Int) < (s.size : Int)) = true := decide_eq_true (by omega)
  have h2 : decide (i < s.size) = true := decide_eq_true hi
  have HW : Hid (Below g W W) := Lib.hid (Below.refl _ _)
  clear hp hsg ho
  go_enter Try.func79, Try.ntmps79
  go_wp2_with fail
  refine (is_in' _ g s i tv xs 40 HP.out hi false h40).mono ?_
  rintro e w40 ⟨rfl, hb40, hp40⟩
  have HW := Lib.hid (HW.out.trans hb40)
  have HP := Lib.hid hp40
  clear hb40 hp40
  go_wp2_with fail
  refine (is_in' _ g s i tv xs 46 HP.out hi false h46).mono ?_
  rintro e w46 ⟨rfl, hb46, hp46⟩
  have HW := Lib.hid (HW.out.trans hb46)
  have HP := Lib.hid hp46
  clear hb46 hp46
  go_wp2_with fail
  refine (is_in' _ g s i tv xs 94 HP.out hi false h94).mono ?_
  rintro e w94 ⟨rfl, hb94, hp94⟩
  have HW := Lib.hid (HW.out.trans hb94)
  have HP := Lib.hid hp94
  clear hb94 hp94
  go_wp2_with fail
  refine (is_in' _ g s i tv xs 36 HP.out hi false h36).mono ?_
  rintro e w36 ⟨rfl, hb36, hp36⟩
  have HW := Lib.hid (HW.out.trans hb36)
  have HP := Lib.hid hp36
  clear hb36 hp36
  go_wp2_with fail
  refine (is_in' _ g s i tv xs 91 HP.out hi false h91).mono ?_
  rintro e w91 ⟨rfl, hb91, hp91⟩
  have HW := Lib.hid (HW.out.trans hb91)
  have HP := Lib.hid hp91
  clear hb91 hp91
  go_wp2_with fail
  have c0 : w91.cell? ⟨g, 0, none⟩ = some (.string s) := (blk_cell HP.out.h 0).trans rfl
  have c1 : w91.cell? ⟨g, 1, none⟩ = some (.int .i64 i) := (blk_cell HP.out.h 1).trans rfl
  go_quiet (fail)
  refine name_exit (fun w' => Below g W w' ∧ PS w' g s i tv xs) ⟨HW.out.trans (pw_below_drewN (Below.refl _ _) _), HP.out.drewN _⟩ ?_
  rintro wq ⟨hb, hp⟩
  clear HW HP c0 c1
  have HW := Lib.hid hb
  have HP := Lib.hid hp
  have c0 : wq.cell? ⟨g, 0, none⟩ = some (.string s) := (blk_cell hp.h 0).trans rfl
  have c1 : wq.cell? ⟨g, 1, none⟩ = some (.int .i64 i) := (blk_cell hp.h 1).trans rfl
  clear hb hp
  go_wp2_with fail
  go_quiet ((go_at_call 38; exact Calls.quiet_of ((dragomanref04_Sign.calls k _ _ _ _ _ HSG.out).mono fun e w' ⟨he, hd⟩ => ⟨he, hd.out⟩)))
  refine name_exit (fun w' => Below g W w' ∧ PS w' g s i tv xs) ⟨HW.out.trans (pw_below_drewN (Below.refl _ _) _), HP.out.drewN _⟩ ?_
  rintro wr ⟨hb, hp⟩
  clear HW HP c0 c1
  have HW := Lib.hid hb
  have HP := Lib.hid hp
  have c1 : wr.cell? ⟨g, 1, none⟩ = some (.int .i64 i) := (blk_cell hp.h 1).trans rfl
  have f1 : wr.frozen? ⟨g, 1, none⟩ = false := blk_frozen hp.h 1
  have hb2 : Below g W (wr.setCell ⟨g, 1, none⟩ (.int .i64 ((i : Int) + 1))) := hb.setCell (by show g ≤ g; omega) _
  have hp2 : PS (wr.setCell ⟨g, 1, none⟩ (.int .i64 ((i : Int) + 1))) g s (i + 1) tv xs := ⟨blk_put hp.h 1 _ rfl, Kd.R_mono (Kd.R_far (Kd.R_mono (Kd.R_bound hp.r) (fun k h => h.2.1)) (fun k hk => by have : g + 1 ≤ k := hk; show k ≠ g; omega) _) (fun _ _ => trivial)⟩
  have HW2 := Lib.hid hb2
  have HP2 := Lib.hid hp2
  clear hb hp hb2 hp2
  go_wp2_with fail
  refine (dragomanref04_One.calls c a1 a2 a3 a4 _ HO.out).mono ?_
  rintro e wo ⟨rfl, hb⟩
  have hgl : g < (wr.setCell ⟨g, 1, none⟩ (.int .i64 ((i : Int) + 1))).heap.size := blk_lt HP2.out.h
  have HW3 := Lib.hid (HW2.out.trans (hb.mono (Nat.le_of_lt hgl)))
  have HP3 := Lib.hid (HP2.out.below hb)
  clear hb hgl HW2 HP2 HW HP c1 f1
  go_wp2_with fail
  refine (lay_ok _ g s (i + 1) tv xs 1 a1 a2 a3 a4 0 0 HP3.out (by omega)).mono ?_
  rintro e wl ⟨rfl, hb, tv', hp⟩
  have HW4 := Lib.hid (HW3.out.trans hb)
  have HP4 := Lib.hid hp
  clear hb hp HW3 HP3
  go_wp2_with fail
  go_ret
  exact ⟨rfl, HW4.out, tv', HP4.out⟩
end Go.Proofs.Ythnfmpieoondaaa.G
