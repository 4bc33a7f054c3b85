/- Texts of this seat, put together: each part tells above it what it proves and on what conditions. -/
import Derived.Test.YthnfmpieoondaaaJPR
import Derived.BigRegion
import Derived.BigQuiet
import Derived.Deep.QuietTactic
import Derived.Outline
import Derived.WalkMore
import Derived.LoopN
/- dragomanref05.Read at a text of one plain byte, or of one and a sign behind it: its upper functions, walked. -/
section
set_option linter.unusedVariables false
set_option linter.unusedSimpArgs false
namespace Go.Proofs.Ythnfmpieoondaaa.G
open Go.RowKit Go.Proofs.YthnfmpieoondaaaW.PrintWords Go.Proofs.YthnfmpieoondaaaW.PrintLast Go.Proofs.YthnfmpieoondaaaW.PrintMore Go.Proofs.Ythnfmpieoondaaa.QA Go.Proofs.Ythnfmpieoondaaa.QB
set_option maxHeartbeats 8000000 in
set_option maxRecDepth 100000 in
theorem piece_end (W : World) (g : Nat) (s : ByteArray) (i : Nat) (tv : Value) (xs : List S55) (k : Nat) (c a1 a2 a3 a4 : Int) (hp : PS W g s i tv xs) (hi : i < s.size) (hs : s.size ≤ 100000) (h40 : (((s[i]'hi).toNat : Int) == 40) = false) (h46 : (((s[i]'hi).toNat : Int) == 46) = false) (h94 : (((s[i]'hi).toNat : Int) == 94) = false) (h36 : (((s[i]'hi).toNat : Int) == 36) = false) (h91 : (((s[i]'hi).toNat : Int) == 91) = false) (h42 : (((s[i]'hi).toNat : Int) == 42) = false) (h43 : (((s[i]'hi).toNat : Int) == 43) = false) (h63 : (((s[i]'hi).toNat : Int) == 63) = false) (h41 : (((s[i]'hi).toNat : Int) == 41) = false) (h124 : (((s[i]'hi).toNat : Int) == 124) = false) (h123 : (((s[i]'hi).toNat : Int) == 123) = false) (h125 : (((s[i]'hi).toNat : Int) == 125) = false) (h47 : (((s[i]'hi).toNat : Int) == 47) = false) (hsg : dragomanref04_Sign.f k (s.extract i s.size) = some (c, 1, 0)) (ho : dragomanref04_One.f c = some (a1, a2, a3, a4)) (hl : xs.length < 1980) (he : i + 1 = s.size) :
    Calls Try.prog 71 #[.pointer (some ⟨g, 0, none⟩)] W fun e W' => e = .returned (.int .i64 xs.length) ∧ Below g W W' ∧ ∃ tv', PS W' g s (i + 1) tv' (xs ++ [nodeOf 1 a1 a2 a3 a4 0 0]) := by
  have HP := Lib.hid hp
  have HSG := Lib.hid hsg
  have HO := Lib.hid ho
  have HW : Hid (Below g W W) := Lib.hid (Below.refl _ _)
  clear hp hsg ho
  go_enter Try.func71, Try.ntmps71
  go_wp2_with fail
  refine (atom_ok _ g s i tv xs k c a1 a2 a3 a4 HP.out hi hs h40 h46 h94 h36 h91 h42 h43 h63 h41 h124 h123 h125 h47 HSG.out HO.out (by omega)).mono ?_
  rintro e wa ⟨rfl, hb, tv1, hp⟩
  have HW' := Lib.hid (HW.out.trans hb)
  have HP' := Lib.hid hp
  clear hb hp HW HP
  have HW := HW'
  have HP := HP'
  clear HW' HP'
  go_wp2_with fail
  refine wp_loop_rounds 3 ?_
  rw [rounds_succ]
  go_wp2_with fail
  refine (is_out' _ g s (i + 1) tv1 (xs ++ [nodeOf 1 a1 a2 a3 a4 0 0]) 42 HP.out (by omega)).mono ?_
  rintro e w1_ ⟨rfl, hb, hp⟩
  have HW' := Lib.hid (HW.out.trans hb)
  have HP' := Lib.hid hp
  clear hb hp HW HP
  have HW := HW'
  have HP := HP'
  clear HW' HP'
  go_wp2_with fail
  refine (is_out' _ g s (i + 1) tv1 (xs ++ [nodeOf 1 a1 a2 a3 a4 0 0]) 43 HP.out (by omega)).mono ?_
  rintro e w2_ ⟨rfl, hb, hp⟩
  have HW' := Lib.hid (HW.out.trans hb)
  have HP' := Lib.hid hp
  clear hb hp HW HP
  have HW := HW'
  have HP := HP'
  clear HW' HP'
  go_wp2_with fail
  refine (is_out' _ g s (i + 1) tv1 (xs ++ [nodeOf 1 a1 a2 a3 a4 0 0]) 63 HP.out (by omega)).mono ?_
  rintro e w3_ ⟨rfl, hb, hp⟩
  have HW' := Lib.hid (HW.out.trans hb)
  have HP' := Lib.hid hp
  clear hb hp HW HP
  have HW := HW'
  have HP := HP'
  clear HW' HP'
  go_wp2_with fail
  rw [rounds_succ]
  go_wp2_with fail
  go_ret
  exact ⟨rfl, HW.out, tv1, HP.out⟩
set_option maxHeartbeats 8000000 in
set_option maxRecDepth 100000 in
theorem piece_42 (W : World) (g : Nat) (s : ByteArray) (i : Nat) (tv : Value) (xs : List S55) (k : Nat) (c a1 a2 a3 a4 : Int) (hp : PS W g s i tv xs) (hi : i < s.size) (hs : s.size ≤ 100000) (h40 : (((s[i]'hi).toNat : Int) == 40) = false) (h46 : (((s[i]'hi).toNat : Int) == 46) = false) (h94 : (((s[i]'hi).toNat : Int) == 94) = false) (h36 : (((s[i]'hi).toNat : Int) == 36) = false) (h91 : (((s[i]'hi).toNat : Int) == 91) = false) (h42 : (((s[i]'hi).toNat : Int) == 42) = false) (h43 : (((s[i]'hi).toNat : Int) == 43) = false) (h63 : (((s[i]'hi).toNat : Int) == 63) = false) (h41 : (((s[i]'hi).toNat : Int) == 41) = false) (h124 : (((s[i]'hi).toNat : Int) == 124) = false) (h123 : (((s[i]'hi).toNat : Int) == 123) = false) (h125 : (((s[i]'hi).toNat : Int) == 125) = false) (h47 : (((s[i]'hi).toNat : Int) == 47) = false) (hsg : dragomanref04_Sign.f k (s.extract i s.size) = some (c, 1, 0)) (ho : dragomanref04_One.f c = some (a1, a2, a3, a4)) (hl : xs.length < 1980) (he : i + 2 = s.size) (hi1 : i + 1 < s.size) (hv : ((s[i + 1]'hi1).toNat : Int) = 42) :
    Calls Try.prog 71 #[.pointer (some ⟨g, 0, none⟩)] W fun e W' => e = .returned (.int .i64 ((xs.length : Int) + 1)) ∧ Below g W W' ∧ ∃ tv', PS W' g s (i + 2) tv' ((xs ++ [nodeOf 1 a1 a2 a3 a4 0 0]) ++ [nodeOf 4 0 0 0 0 xs.length 0]) := by
  have HP := Lib.hid hp
  have HSG := Lib.hid hsg
  have HO := Lib.hid ho
  have HW : Hid (Below g W W) := Lib.hid (Below.refl _ _)
  clear hp hsg ho
  have q42 : (((s[i + 1]'hi1).toNat : Int) == 42) = true := by rw [hv]; decide
  have q43 : (((s[i + 1]'hi1).toNat : Int) == 43) = false := by rw [hv]; decide
  have q63 : (((s[i + 1]'hi1).toNat : Int) == 63) = false := by rw [hv]; decide
  have HV := Lib.hid hv
  clear hv
  go_enter Try.func71, Try.ntmps71
  go_wp2_with fail
  refine (atom_ok _ g s i tv xs k c a1 a2 a3 a4 HP.out hi hs h40 h46 h94 h36 h91 h42 h43 h63 h41 h124 h123 h125 h47 HSG.out HO.out (by omega)).mono ?_
  rintro e wa ⟨rfl, hb, tv1, hp⟩
  have HW' := Lib.hid (HW.out.trans hb)
  have HP' := Lib.hid hp
  clear hb hp HW HP
  have HW := HW'
  have HP := HP'
  clear HW' HP'
  go_wp2_with fail
  refine wp_loop_rounds 4 ?_
  rw [rounds_succ]
  go_wp2_with fail
  refine (is_in' _ g s (i + 1) tv1 (xs ++ [nodeOf 1 a1 a2 a3 a4 0 0]) 42 HP.out hi1 true q42).mono ?_
  rintro e w4_ ⟨rfl, hb, hp⟩
  have HW' := Lib.hid (HW.out.trans hb)
  have HP' := Lib.hid hp
  clear hb hp HW HP
  have HW := HW'
  have HP := HP'
  clear HW' HP'
  go_wp2_with fail
  refine (is_in' _ g s (i + 1) tv1 (xs ++ [nodeOf 1 a1 a2 a3 a4 0 0]) 43 HP.out hi1 false q43).mono ?_
  rintro e w5_ ⟨rfl, hb, hp⟩
  have HW' := Lib.hid (HW.out.trans hb)
  have HP' := Lib.hid hp
  clear hb hp HW HP
  have HW := HW'
  have HP := HP'
  clear HW' HP'
  go_wp2_with fail
  refine (is_in' _ g s (i + 1) tv1 (xs ++ [nodeOf 1 a1 a2 a3 a4 0 0]) 63 HP.out hi1 false q63).mono ?_
  rintro e w6_ ⟨rfl, hb, hp⟩
  have HW' := Lib.hid (HW.out.trans hb)
  have HP' := Lib.hid hp
  clear hb hp HW HP
  have HW := HW'
  have HP := HP'
  clear HW' HP'
  have hp := HP.out
  have hb := HW.out
  have c1 : w6_.cell? ⟨g, 1, none⟩ = some (.int .i64 ((i : Int) + 1)) := (blk_cell hp.h 1).trans rfl
  have f1 : w6_.frozen? ⟨g, 1, none⟩ = false := blk_frozen hp.h 1
  have hb2 : Below g W (w6_.setCell ⟨g, 1, none⟩ (.int .i64 ((i : Int) + 2))) := hb.setCell (by show g ≤ g; omega) _
  have hp2 : PS (w6_.setCell ⟨g, 1, none⟩ (.int .i64 ((i : Int) + 2))) g s (i + 2) tv1 (xs ++ [nodeOf 1 a1 a2 a3 a4 0 0]) := ⟨blk_put hp.h 1 _ rfl, Kd.R_mono (Kd.R_far (Kd.R_mono (Kd.R_bound hp.r) (fun k h => h.2.1)) (fun k hk => by have : g + 1 ≤ k := hk; show k ≠ g; omega) _) (fun _ _ => trivial)⟩
  have HW2 := Lib.hid hb2
  have HP2 := Lib.hid hp2
  clear hb hp hb2 hp2
  go_wp2_with fail
  refine (lay_ok _ g s (i + 2) tv1 (xs ++ [nodeOf 1 a1 a2 a3 a4 0 0]) 4 0 0 0 0 xs.length 0 HP2.out (by simp; omega)).mono ?_
  rintro e wl ⟨rfl, hb, tv2, hp⟩
  have HW3 := Lib.hid (HW2.out.trans hb)
  have HP3 := Lib.hid hp
  clear hb hp HW2 HP2 HW HP c1 f1
  have HW := HW3
  have HP := HP3
  clear HW3 HP3
  go_wp2_with fail
  rw [rounds_succ]
  go_wp2_with fail
  refine (is_out' _ g s (i + 2) tv2 ((xs ++ [nodeOf 1 a1 a2 a3 a4 0 0]) ++ [nodeOf 4 0 0 0 0 xs.length 0]) 42 HP.out (by omega)).mono ?_
  rintro e w7_ ⟨rfl, hb, hp⟩
  have HW' := Lib.hid (HW.out.trans hb)
  have HP' := Lib.hid hp
  clear hb hp HW HP
  have HW := HW'
  have HP := HP'
  clear HW' HP'
  go_wp2_with fail
  refine (is_out' _ g s (i + 2) tv2 ((xs ++ [nodeOf 1 a1 a2 a3 a4 0 0]) ++ [nodeOf 4 0 0 0 0 xs.length 0]) 43 HP.out (by omega)).mono ?_
  rintro e w8_ ⟨rfl, hb, hp⟩
  have HW' := Lib.hid (HW.out.trans hb)
  have HP' := Lib.hid hp
  clear hb hp HW HP
  have HW := HW'
  have HP := HP'
  clear HW' HP'
  go_wp2_with fail
  refine (is_out' _ g s (i + 2) tv2 ((xs ++ [nodeOf 1 a1 a2 a3 a4 0 0]) ++ [nodeOf 4 0 0 0 0 xs.length 0]) 63 HP.out (by omega)).mono ?_
  rintro e w9_ ⟨rfl, hb, hp⟩
  have HW' := Lib.hid (HW.out.trans hb)
  have HP' := Lib.hid hp
  clear hb hp HW HP
  have HW := HW'
  have HP := HP'
  clear HW' HP'
  go_wp2_with fail
  rw [rounds_succ]
  go_wp2_with fail
  go_ret
  exact ⟨by simp, HW.out, tv2, HP.out⟩
set_option maxHeartbeats 8000000 in
set_option maxRecDepth 100000 in
theorem piece_43 (W : World) (g : Nat) (s : ByteArray) (i : Nat) (tv : Value) (xs : List S55) (k : Nat) (c a1 a2 a3 a4 : Int) (hp : PS W g s i tv xs) (hi : i < s.size) (hs : s.size ≤ 100000) (h40 : (((s[i]'hi).toNat : Int) == 40) = false) (h46 : (((s[i]'hi).toNat : Int) == 46) = false) (h94 : (((s[i]'hi).toNat : Int) == 94) = false) (h36 : (((s[i]'hi).toNat : Int) == 36) = false) (h91 : (((s[i]'hi).toNat : Int) == 91) = false) (h42 : (((s[i]'hi).toNat : Int) == 42) = false) (h43 : (((s[i]'hi).toNat : Int) == 43) = false) (h63 : (((s[i]'hi).toNat : Int) == 63) = false) (h41 : (((s[i]'hi).toNat : Int) == 41) = false) (h124 : (((s[i]'hi).toNat : Int) == 124) = false) (h123 : (((s[i]'hi).toNat : Int) == 123) = false) (h125 : (((s[i]'hi).toNat : Int) == 125) = false) (h47 : (((s[i]'hi).toNat : Int) == 47) = false) (hsg : dragomanref04_Sign.f k (s.extract i s.size) = some (c, 1, 0)) (ho : dragomanref04_One.f c = some (a1, a2, a3, a4)) (hl : xs.length < 1980) (he : i + 2 = s.size) (hi1 : i + 1 < s.size) (hv : ((s[i + 1]'hi1).toNat : Int) = 43) :
    Calls Try.prog 71 #[.pointer (some ⟨g, 0, none⟩)] W fun e W' => e = .returned (.int .i64 ((xs.length : Int) + 1)) ∧ Below g W W' ∧ ∃ tv', PS W' g s (i + 2) tv' ((xs ++ [nodeOf 1 a1 a2 a3 a4 0 0]) ++ [nodeOf 5 0 0 0 0 xs.length 0]) := by
  have HP := Lib.hid hp
  have HSG := Lib.hid hsg
  have HO := Lib.hid ho
  have HW : Hid (Below g W W) := Lib.hid (Below.refl _ _)
  clear hp hsg ho
  have q42 : (((s[i + 1]'hi1).toNat : Int) == 42) = false := by rw [hv]; decide
  have q43 : (((s[i + 1]'hi1).toNat : Int) == 43) = true := by rw [hv]; decide
  have q63 : (((s[i + 1]'hi1).toNat : Int) == 63) = false := by rw [hv]; decide
  have HV := Lib.hid hv
  clear hv
  go_enter Try.func71, Try.ntmps71
  go_wp2_with fail
  refine (atom_ok _ g s i tv xs k c a1 a2 a3 a4 HP.out hi hs h40 h46 h94 h36 h91 h42 h43 h63 h41 h124 h123 h125 h47 HSG.out HO.out (by omega)).mono ?_
  rintro e wa ⟨rfl, hb, tv1, hp⟩
  have HW' := Lib.hid (HW.out.trans hb)
  have HP' := Lib.hid hp
  clear hb hp HW HP
  have HW := HW'
  have HP := HP'
  clear HW' HP'
  go_wp2_with fail
  refine wp_loop_rounds 4 ?_
  rw [rounds_succ]
  go_wp2_with fail
  refine (is_in' _ g s (i + 1) tv1 (xs ++ [nodeOf 1 a1 a2 a3 a4 0 0]) 42 HP.out hi1 false q42).mono ?_
  rintro e w10_ ⟨rfl, hb, hp⟩
  have HW' := Lib.hid (HW.out.trans hb)
  have HP' := Lib.hid hp
  clear hb hp HW HP
  have HW := HW'
  have HP := HP'
  clear HW' HP'
  go_wp2_with fail
  refine (is_in' _ g s (i + 1) tv1 (xs ++ [nodeOf 1 a1 a2 a3 a4 0 0]) 43 HP.out hi1 true q43).mono ?_
  rintro e w11_ ⟨rfl, hb, hp⟩
  have HW' := Lib.hid (HW.out.trans hb)
  have HP' := Lib.hid hp
  clear hb hp HW HP
  have HW := HW'
  have HP := HP'
  clear HW' HP'
  go_wp2_with fail
  refine (is_in' _ g s (i + 1) tv1 (xs ++ [nodeOf 1 a1 a2 a3 a4 0 0]) 63 HP.out hi1 false q63).mono ?_
  rintro e w12_ ⟨rfl, hb, hp⟩
  have HW' := Lib.hid (HW.out.trans hb)
  have HP' := Lib.hid hp
  clear hb hp HW HP
  have HW := HW'
  have HP := HP'
  clear HW' HP'
  have hp := HP.out
  have hb := HW.out
  have c1 : w12_.cell? ⟨g, 1, none⟩ = some (.int .i64 ((i : Int) + 1)) := (blk_cell hp.h 1).trans rfl
  have f1 : w12_.frozen? ⟨g, 1, none⟩ = false := blk_frozen hp.h 1
  have hb2 : Below g W (w12_.setCell ⟨g, 1, none⟩ (.int .i64 ((i : Int) + 2))) := hb.setCell (by show g ≤ g; omega) _
  have hp2 : PS (w12_.setCell ⟨g, 1, none⟩ (.int .i64 ((i : Int) + 2))) g s (i + 2) tv1 (xs ++ [nodeOf 1 a1 a2 a3 a4 0 0]) := ⟨blk_put hp.h 1 _ rfl, Kd.R_mono (Kd.R_far (Kd.R_mono (Kd.R_bound hp.r) (fun k h => h.2.1)) (fun k hk => by have : g + 1 ≤ k := hk; show k ≠ g; omega) _) (fun _ _ => trivial)⟩
  have HW2 := Lib.hid hb2
  have HP2 := Lib.hid hp2
  clear hb hp hb2 hp2
  go_wp2_with fail
  refine (lay_ok _ g s (i + 2) tv1 (xs ++ [nodeOf 1 a1 a2 a3 a4 0 0]) 5 0 0 0 0 xs.length 0 HP2.out (by simp; omega)).mono ?_
  rintro e wl ⟨rfl, hb, tv2, hp⟩
  have HW3 := Lib.hid (HW2.out.trans hb)
  have HP3 := Lib.hid hp
  clear hb hp HW2 HP2 HW HP c1 f1
  have HW := HW3
  have HP := HP3
  clear HW3 HP3
  go_wp2_with fail
  rw [rounds_succ]
  go_wp2_with fail
  refine (is_out' _ g s (i + 2) tv2 ((xs ++ [nodeOf 1 a1 a2 a3 a4 0 0]) ++ [nodeOf 5 0 0 0 0 xs.length 0]) 42 HP.out (by omega)).mono ?_
  rintro e w13_ ⟨rfl, hb, hp⟩
  have HW' := Lib.hid (HW.out.trans hb)
  have HP' := Lib.hid hp
  clear hb hp HW HP
  have HW := HW'
  have HP := HP'
  clear HW' HP'
  go_wp2_with fail
  refine (is_out' _ g s (i + 2) tv2 ((xs ++ [nodeOf 1 a1 a2 a3 a4 0 0]) ++ [nodeOf 5 0 0 0 0 xs.length 0]) 43 HP.out (by omega)).mono ?_
  rintro e w14_ ⟨rfl, hb, hp⟩
  have HW' := Lib.hid (HW.out.trans hb)
  have HP' := Lib.hid hp
  clear hb hp HW HP
  have HW := HW'
  have HP := HP'
  clear HW' HP'
  go_wp2_with fail
  refine (is_out' _ g s (i + 2) tv2 ((xs ++ [nodeOf 1 a1 a2 a3 a4 0 0]) ++ [nodeOf 5 0 0 0 0 xs.length 0]) 63 HP.out (by omega)).mono ?_
  rintro e w15_ ⟨rfl, hb, hp⟩
  have HW' := Lib.hid (HW.out.trans hb)
  have HP' := Lib.hid hp
  clear hb hp HW HP
  have HW := HW'
  have HP := HP'
  clear HW' HP'
  go_wp2_with fail
  rw [rounds_succ]
  go_wp2_with fail
  go_ret
  exact ⟨by simp, HW.out, tv2, HP.out⟩
end Go.Proofs.Ythnfmpieoondaaa.G
end

/- dragomanref05.Read at a text of one plain byte, or of one and a sign behind it: its upper functions, walked. -/
section
set_option linter.unusedVariables false
set_option linter.unusedSimpArgs false
namespace Go.Proofs.Ythnfmpieoondaaa.G
open Go.RowKit Go.Proofs.YthnfmpieoondaaaW.PrintWords Go.Proofs.YthnfmpieoondaaaW.PrintLast Go.Proofs.YthnfmpieoondaaaW.PrintMore Go.Proofs.Ythnfmpieoondaaa.QA Go.Proofs.Ythnfmpieoondaaa.QB
set_option maxHeartbeats 8000000 in
set_option maxRecDepth 100000 in
theorem row_end (W : World) (g : Nat) (s : ByteArray) (i : Nat) (tv : Value) (xs : List S55) (k : Nat) (c a1 a2 a3 a4 : Int) (hp : PS W g s i tv xs) (hi : i < s.size) (hs : s.size ≤ 100000) (h40 : (((s[i]'hi).toNat : Int) == 40) = false) (h46 : (((s[i]'hi).toNat : Int) == 46) = false) (h94 : (((s[i]'hi).toNat : Int) == 94) = false) (h36 : (((s[i]'hi).toNat : Int) == 36) = false) (h91 : (((s[i]'hi).toNat : Int) == 91) = false) (h42 : (((s[i]'hi).toNat : Int) == 42) = false) (h43 : (((s[i]'hi).toNat : Int) == 43) = false) (h63 : (((s[i]'hi).toNat : Int) == 63) = false) (h41 : (((s[i]'hi).toNat : Int) == 41) = false) (h124 : (((s[i]'hi).toNat : Int) == 124) = false) (h123 : (((s[i]'hi).toNat : Int) == 123) = false) (h125 : (((s[i]'hi).toNat : Int) == 125) = false) (h47 : (((s[i]'hi).toNat : Int) == 47) = false) (hsg : dragomanref04_Sign.f k (s.extract i s.size) = some (c, 1, 0)) (ho : dragomanref04_One.f c = some (a1, a2, a3, a4)) (hl : xs.length < 1980) (he : i + 1 = s.size) :
    Calls Try.prog 59 #[.pointer (some ⟨g, 0, none⟩)] W fun e W' => e = .returned (.int .i64 (xs.length : Int)) ∧ Below g W W' ∧ ∃ tv', PS W' g s (i + 1) tv' (xs ++ [nodeOf 1 a1 a2 a3 a4 0 0]) := by
  have HP := Lib.hid hp
  have HSG := Lib.hid hsg
  have HO := Lib.hid ho
  have HW : Hid (Below g W W) := Lib.hid (Below.refl _ _)
  clear hp hsg ho
  have hne : ((i : Int) == (s.size : Int)) = false := beq_eq_false_iff_ne.2 (by omega)
  have c0 : W.cell? ⟨g, 0, none⟩ = some (.string s) := (blk_cell HP.out.h 0).trans rfl
  have c1 : W.cell? ⟨g, 1, none⟩ = some (.int .i64 i) := (blk_cell HP.out.h 1).trans rfl
  go_enter Try.func59, Try.ntmps59
  go_wp2_with fail
  go_quiet ((go_at_call 60; first | (with_reducible exact Calls.quiet_of (is_in _ g s i tv xs 124 (HP.out.drewN _) hi false h124)) | (with_reducible exact Calls.quiet_of (is_in _ g s i tv xs 41 (HP.out.drewN _) hi false h41))))
  refine name_exit (fun w' => Below g W w' ∧ PS w' g s i tv xs) ⟨HW.out.trans (pw_below_drewN (Below.refl _ _) _), HP.out.drewN _⟩ ?_
  rintro wq ⟨hb, hp⟩
  clear HW HP c0 c1
  have HW := Lib.hid hb
  have HP := Lib.hid hp
  clear hb hp
  go_wp2_with fail
  refine (piece_end _ g s i tv xs k c a1 a2 a3 a4 HP.out hi hs h40 h46 h94 h36 h91 h42 h43 h63 h41 h124 h123 h125 h47 HSG.out HO.out (by omega) he).mono ?_
  rintro e wa ⟨rfl, hb, tv1, hp⟩
  have HW' := Lib.hid (HW.out.trans hb)
  have HP' := Lib.hid hp
  clear hb hp HW HP
  have HW := HW'
  have HP := HP'
  clear HW' HP'
  have c0 : wa.cell? ⟨g, 0, none⟩ = some (.string s) := (blk_cell HP.out.h 0).trans rfl
  have c1 : wa.cell? ⟨g, 1, none⟩ = some (.int .i64 (i + 1 : Nat)) := (blk_cell HP.out.h 1).trans rfl
  have c4 : wa.cell? ⟨g, 4, none⟩ = some (.int .i64 0) := (blk_cell HP.out.h 4).trans rfl
  have hnl : decide (((i + 1 : Nat) : Int) < (s.size : Int)) = false := decide_eq_false (by omega)
  have hnl2 : decide (i + 1 < s.size) = false := decide_eq_false (by omega)
  generalize hat : i + 1 = at_ at *
  have HAT := Lib.hid hat
  clear hat
  go_wp2_with fail
  refine wp_loop_rounds 1 ?_
  rw [rounds_succ]
  go_wp2_with fail
  go_quiet (fail)
  refine name_exit (fun w' => Below g W w' ∧ PS w' g s at_ tv1 (xs ++ [nodeOf 1 a1 a2 a3 a4 0 0])) ⟨HW.out.trans (pw_below_drewN (Below.refl _ _) _), HP.out.drewN _⟩ ?_
  rintro wz ⟨hb, hp⟩
  clear HW HP c0 c1 c4
  have HW := Lib.hid hb
  have HP := Lib.hid hp
  clear hb hp
  go_wp2_with fail
  go_ret
  exact ⟨rfl, HW.out, tv1, by rw [HAT.out]; exact HP.out⟩
set_option maxHeartbeats 8000000 in
set_option maxRecDepth 100000 in
theorem whole_end (W : World) (g : Nat) (s : ByteArray) (i : Nat) (tv : Value) (xs : List S55) (k : Nat) (c a1 a2 a3 a4 : Int) (hp : PS W g s i tv xs) (hi : i < s.size) (hs : s.size ≤ 100000) (h40 : (((s[i]'hi).toNat : Int) == 40) = false) (h46 : (((s[i]'hi).toNat : Int) == 46) = false) (h94 : (((s[i]'hi).toNat : Int) == 94) = false) (h36 : (((s[i]'hi).toNat : Int) == 36) = false) (h91 : (((s[i]'hi).toNat : Int) == 91) = false) (h42 : (((s[i]'hi).toNat : Int) == 42) = false) (h43 : (((s[i]'hi).toNat : Int) == 43) = false) (h63 : (((s[i]'hi).toNat : Int) == 63) = false) (h41 : (((s[i]'hi).toNat : Int) == 41) = false) (h124 : (((s[i]'hi).toNat : Int) == 124) = false) (h123 : (((s[i]'hi).toNat : Int) == 123) = false) (h125 : (((s[i]'hi).toNat : Int) == 125) = false) (h47 : (((s[i]'hi).toNat : Int) == 47) = false) (hsg : dragomanref04_Sign.f k (s.extract i s.size) = some (c, 1, 0)) (ho : dragomanref04_One.f c = some (a1, a2, a3, a4)) (hl : xs.length < 1980) (he : i + 1 = s.size) :
    Calls Try.prog 41 #[.pointer (some ⟨g, 0, none⟩)] W fun e W' => e = .returned (.int .i64 (xs.length : Int)) ∧ Below g W W' ∧ ∃ tv', PS W' g s (i + 1) tv' (xs ++ [nodeOf 1 a1 a2 a3 a4 0 0]) := by
  have HP := Lib.hid hp
  have HSG := Lib.hid hsg
  have HO := Lib.hid ho
  have HW : Hid (Below g W W) := Lib.hid (Below.refl _ _)
  clear hp hsg ho
  go_enter Try.func41, Try.ntmps41
  go_wp2_with fail
  refine (row_end _ g s i tv xs k c a1 a2 a3 a4 HP.out hi hs h40 h46 h94 h36 h91 h42 h43 h63 h41 h124 h123 h125 h47 HSG.out HO.out (by omega) he).mono ?_
  rintro e wa ⟨rfl, hb, tv1, hp⟩
  have HW' := Lib.hid (HW.out.trans hb)
  have HP' := Lib.hid hp
  clear hb hp HW HP
  have HW := HW'
  have HP := HP'
  clear HW' HP'
  go_wp2_with fail
  refine wp_loop_rounds 1 ?_
  rw [rounds_succ]
  go_wp2_with fail
  refine (is_out' _ g s (i + 1) tv1 (xs ++ [nodeOf 1 a1 a2 a3 a4 0 0]) 124 HP.out (by omega)).mono ?_
  rintro e w16_ ⟨rfl, hb, hp⟩
  have HW' := Lib.hid (HW.out.trans hb)
  have HP' := Lib.hid hp
  clear hb hp HW HP
  have HW := HW'
  have HP := HP'
  clear HW' HP'
  go_wp2_with fail
  go_ret
  exact ⟨rfl, HW.out, tv1, HP.out⟩
set_option maxHeartbeats 8000000 in
set_option maxRecDepth 100000 in
theorem row_42 (W : World) (g : Nat) (s : ByteArray) (i : Nat) (tv : Value) (xs : List S55) (k : Nat) (c a1 a2 a3 a4 : Int) (hp : PS W g s i tv xs) (hi : i < s.size) (hs : s.size ≤ 100000) (h40 : (((s[i]'hi).toNat : Int) == 40) = false) (h46 : (((s[i]'hi).toNat : Int) == 46) = false) (h94 : (((s[i]'hi).toNat : Int) == 94) = false) (h36 : (((s[i]'hi).toNat : Int) == 36) = false) (h91 : (((s[i]'hi).toNat : Int) == 91) = false) (h42 : (((s[i]'hi).toNat : Int) == 42) = false) (h43 : (((s[i]'hi).toNat : Int) == 43) = false) (h63 : (((s[i]'hi).toNat : Int) == 63) = false) (h41 : (((s[i]'hi).toNat : Int) == 41) = false) (h124 : (((s[i]'hi).toNat : Int) == 124) = false) (h123 : (((s[i]'hi).toNat : Int) == 123) = false) (h125 : (((s[i]'hi).toNat : Int) == 125) = false) (h47 : (((s[i]'hi).toNat : Int) == 47) = false) (hsg : dragomanref04_Sign.f k (s.extract i s.size) = some (c, 1, 0)) (ho : dragomanref04_One.f c = some (a1, a2, a3, a4)) (hl : xs.length < 1980) (he : i + 2 = s.size) (hi1 : i + 1 < s.size) (hv : ((s[i + 1]'hi1).toNat : Int) = 42) :
    Calls Try.prog 59 #[.pointer (some ⟨g, 0, none⟩)] W fun e W' => e = .returned (.int .i64 ((xs.length : Int) + 1)) ∧ Below g W W' ∧ ∃ tv', PS W' g s (i + 2) tv' ((xs ++ [nodeOf 1 a1 a2 a3 a4 0 0]) ++ [nodeOf 4 0 0 0 0 xs.length 0]) := by
  have HP := Lib.hid hp
  have HSG := Lib.hid hsg
  have HO := Lib.hid ho
  have HW : Hid (Below g W W) := Lib.hid (Below.refl _ _)
  clear hp hsg ho
  have HV := Lib.hid hv
  clear hv
  have hne : ((i : Int) == (s.size : Int)) = false := beq_eq_false_iff_ne.2 (by omega)
  have c0 : W.cell? ⟨g, 0, none⟩ = some (.string s) := (blk_cell HP.out.h 0).trans rfl
  have c1 : W.cell? ⟨g, 1, none⟩ = some (.int .i64 i) := (blk_cell HP.out.h 1).trans rfl
  go_enter Try.func59, Try.ntmps59
  go_wp2_with fail
  go_quiet ((go_at_call 60; first | (with_reducible exact Calls.quiet_of (is_in _ g s i tv xs 124 (HP.out.drewN _) hi false h124)) | (with_reducible exact Calls.quiet_of (is_in _ g s i tv xs 41 (HP.out.drewN _) hi false h41))))
  refine name_exit (fun w' => Below g W w' ∧ PS w' g s i tv xs) ⟨HW.out.trans (pw_below_drewN (Below.refl _ _) _), HP.out.drewN _⟩ ?_
  rintro wq ⟨hb, hp⟩
  clear HW HP c0 c1
  have HW := Lib.hid hb
  have HP := Lib.hid hp
  clear hb hp
  go_wp2_with fail
  refine (piece_42 _ g s i tv xs k c a1 a2 a3 a4 HP.out hi hs h40 h46 h94 h36 h91 h42 h43 h63 h41 h124 h123 h125 h47 HSG.out HO.out (by omega) he hi1 HV.out).mono ?_
  rintro e wa ⟨rfl, hb, tv1, hp⟩
  have HW' := Lib.hid (HW.out.trans hb)
  have HP' := Lib.hid hp
  clear hb hp HW HP
  have HW := HW'
  have HP := HP'
  clear HW' HP'
  have c0 : wa.cell? ⟨g, 0, none⟩ = some (.string s) := (blk_cell HP.out.h 0).trans rfl
  have c1 : wa.cell? ⟨g, 1, none⟩ = some (.int .i64 (i + 2 : Nat)) := (blk_cell HP.out.h 1).trans rfl
  have c4 : wa.cell? ⟨g, 4, none⟩ = some (.int .i64 0) := (blk_cell HP.out.h 4).trans rfl
  have hnl : decide (((i + 2 : Nat) : Int) < (s.size : Int)) = false := decide_eq_false (by omega)
  have hnl2 : decide (i + 2 < s.size) = false := decide_eq_false (by omega)
  generalize hat : i + 2 = at_ at *
  have HAT := Lib.hid hat
  clear hat
  go_wp2_with fail
  refine wp_loop_rounds 1 ?_
  rw [rounds_succ]
  go_wp2_with fail
  go_quiet (fail)
  refine name_exit (fun w' => Below g W w' ∧ PS w' g s at_ tv1 ((xs ++ [nodeOf 1 a1 a2 a3 a4 0 0]) ++ [nodeOf 4 0 0 0 0 xs.length 0])) ⟨HW.out.trans (pw_below_drewN (Below.refl _ _) _), HP.out.drewN _⟩ ?_
  rintro wz ⟨hb, hp⟩
  clear HW HP c0 c1 c4
  have HW := Lib.hid hb
  have HP := Lib.hid hp
  clear hb hp
  go_wp2_with fail
  go_ret
  exact ⟨rfl, HW.out, tv1, by rw [HAT.out]; exact HP.out⟩
set_option maxHeartbeats 8000000 in
set_option maxRecDepth 100000 in
theorem whole_42 (W : World) (g : Nat) (s : ByteArray) (i : Nat) (tv : Value) (xs : List S55) (k : Nat) (c a1 a2 a3 a4 : Int) (hp : PS W g s i tv xs) (hi : i < s.size) (hs : s.size ≤ 100000) (h40 : (((s[i]'hi).toNat : Int) == 40) = false) (h46 : (((s[i]'hi).toNat : Int) == 46) = false) (h94 : (((s[i]'hi).toNat : Int) == 94) = false) (h36 : (((s[i]'hi).toNat : Int) == 36) = false) (h91 : (((s[i]'hi).toNat : Int) == 91) = false) (h42 : (((s[i]'hi).toNat : Int) == 42) = false) (h43 : (((s[i]'hi).toNat : Int) == 43) = false) (h63 : (((s[i]'hi).toNat : Int) == 63) = false) (h41 : (((s[i]'hi).toNat : Int) == 41) = false) (h124 : (((s[i]'hi).toNat : Int) == 124) = false) (h123 : (((s[i]'hi).toNat : Int) == 123) = false) (h125 : (((s[i]'hi).toNat : Int) == 125) = false) (h47 : (((s[i]'hi).toNat : Int) == 47) = false) (hsg : dragomanref04_Sign.f k (s.extract i s.size) = some (c, 1, 0)) (ho : dragomanref04_One.f c = some (a1, a2, a3, a4)) (hl : xs.length < 1980) (he : i + 2 = s.size) (hi1 : i + 1 < s.size) (hv : ((s[i + 1]'hi1).toNat : Int) = 42) :
    Calls Try.prog 41 #[.pointer (some ⟨g, 0, none⟩)] W fun e W' => e = .returned (.int .i64 ((xs.length : Int) + 1)) ∧ Below g W W' ∧ ∃ tv', PS W' g s (i + 2) tv' ((xs ++ [nodeOf 1 a1 a2 a3 a4 0 0]) ++ [nodeOf 4 0 0 0 0 xs.length 0]) := by
  have HP := Lib.hid hp
  have HSG := Lib.hid hsg
  have HO := Lib.hid ho
  have HW : Hid (Below g W W) := Lib.hid (Below.refl _ _)
  clear hp hsg ho
  have HV := Lib.hid hv
  clear hv
  go_enter Try.func41, Try.ntmps41
  go_wp2_with fail
  refine (row_42 _ g s i tv xs k c a1 a2 a3 a4 HP.out hi hs h40 h46 h94 h36 h91 h42 h43 h63 h41 h124 h123 h125 h47 HSG.out HO.out (by omega) he hi1 HV.out).mono ?_
  rintro e wa ⟨rfl, hb, tv1, hp⟩
  have HW' := Lib.hid (HW.out.trans hb)
  have HP' := Lib.hid hp
  clear hb hp HW HP
  have HW := HW'
  have HP := HP'
  clear HW' HP'
  go_wp2_with fail
  refine wp_loop_rounds 1 ?_
  rw [rounds_succ]
  go_wp2_with fail
  refine (is_out' _ g s (i + 2) tv1 ((xs ++ [nodeOf 1 a1 a2 a3 a4 0 0]) ++ [nodeOf 4 0 0 0 0 xs.length 0]) 124 HP.out (by omega)).mono ?_
  rintro e w17_ ⟨rfl, hb, hp⟩
  have HW' := Lib.hid (HW.out.trans hb)
  have HP' := Lib.hid hp
  clear hb hp HW HP
  have HW := HW'
  have HP := HP'
  clear HW' HP'
  go_wp2_with fail
  go_ret
  exact ⟨rfl, HW.out, tv1, HP.out⟩
set_option maxHeartbeats 8000000 in
set_option maxRecDepth 100000 in
theorem row_43 (W : World) (g : Nat) (s : ByteArray) (i : Nat) (tv : Value) (xs : List S55) (k : Nat) (c a1 a2 a3 a4 : Int) (hp : PS W g s i tv xs) (hi : i < s.size) (hs : s.size ≤ 100000) (h40 : (((s[i]'hi).toNat : Int) == 40) = false) (h46 : (((s[i]'hi).toNat : Int) == 46) = false) (h94 : (((s[i]'hi).toNat : Int) == 94) = false) (h36 : (((s[i]'hi).toNat : Int) == 36) = false) (h91 : (((s[i]'hi).toNat : Int) == 91) = false) (h42 : (((s[i]'hi).toNat : Int) == 42) = false) (h43 : (((s[i]'hi).toNat : Int) == 43) = false) (h63 : (((s[i]'hi).toNat : Int) == 63) = false) (h41 : (((s[i]'hi).toNat : Int) == 41) = false) (h124 : (((s[i]'hi).toNat : Int) == 124) = false) (h123 : (((s[i]'hi).toNat : Int) == 123) = false) (h125 : (((s[i]'hi).toNat : Int) == 125) = false) (h47 : (((s[i]'hi).toNat : Int) == 47) = false) (hsg : dragomanref04_Sign.f k (s.extract i s.size) = some (c, 1, 0)) (ho : dragomanref04_One.f c = some (a1, a2, a3, a4)) (hl : xs.length < 1980) (he : i + 2 = s.size) (hi1 : i + 1 < s.size) (hv : ((s[i + 1]'hi1).toNat : Int) = 43) :
    Calls Try.prog 59 #[.pointer (some ⟨g, 0, none⟩)] W fun e W' => e = .returned (.int .i64 ((xs.length : Int) + 1)) ∧ Below g W W' ∧ ∃ tv', PS W' g s (i + 2) tv' ((xs ++ [nodeOf 1 a1 a2 a3 a4 0 0]) ++ [nodeOf 5 0 0 0 0 xs.length 0]) := by
  have HP := Lib.hid hp
  have HSG := Lib.hid hsg
  have HO := Lib.hid ho
  have HW : Hid (Below g W W) := Lib.hid (Below.refl _ _)
  clear hp hsg ho
  have HV := Lib.hid hv
  clear hv
  have hne : ((i : Int) == (s.size : Int)) = false := beq_eq_false_iff_ne.2 (by omega)
  have c0 : W.cell? ⟨g, 0, none⟩ = some (.string s) := (blk_cell HP.out.h 0).trans rfl
  have c1 : W.cell? ⟨g, 1, none⟩ = some (.int .i64 i) := (blk_cell HP.out.h 1).trans rfl
  go_enter Try.func59, Try.ntmps59
  go_wp2_with fail
  go_quiet ((go_at_call 60; first | (with_reducible exact Calls.quiet_of (is_in _ g s i tv xs 124 (HP.out.drewN _) hi false h124)) | (with_reducible exact Calls.quiet_of (is_in _ g s i tv xs 41 (HP.out.drewN _) hi false h41))))
  refine name_exit (fun w' => Below g W w' ∧ PS w' g s i tv xs) ⟨HW.out.trans (pw_below_drewN (Below.refl _ _) _), HP.out.drewN _⟩ ?_
  rintro wq ⟨hb, hp⟩
  clear HW HP c0 c1
  have HW := Lib.hid hb
  have HP := Lib.hid hp
  clear hb hp
  go_wp2_with fail
  refine (piece_43 _ g s i tv xs k c a1 a2 a3 a4 HP.out hi hs h40 h46 h94 h36 h91 h42 h43 h63 h41 h124 h123 h125 h47 HSG.out HO.out (by omega) he hi1 HV.out).mono ?_
  rintro e wa ⟨rfl, hb, tv1, hp⟩
  have HW' := Lib.hid (HW.out.trans hb)
  have HP' := Lib.hid hp
  clear hb hp HW HP
  have HW := HW'
  have HP := HP'
  clear HW' HP'
  have c0 : wa.cell? ⟨g, 0, none⟩ = some (.string s) := (blk_cell HP.out.h 0).trans rfl
  have c1 : wa.cell? ⟨g, 1, none⟩ = some (.int .i64 (i + 2 : Nat)) := (blk_cell HP.out.h 1).trans rfl
  have c4 : wa.cell? ⟨g, 4, none⟩ = some (.int .i64 0) := (blk_cell HP.out.h 4).trans rfl
  have hnl : decide (((i + 2 : Nat) : Int) < (s.size : Int)) = false := decide_eq_false (by omega)
  have hnl2 : decide (i + 2 < s.size) = false := decide_eq_false (by omega)
  generalize hat : i + 2 = at_ at *
  have HAT := Lib.hid hat
  clear hat
  go_wp2_with fail
  refine wp_loop_rounds 1 ?_
  rw [rounds_succ]
  go_wp2_with fail
  go_quiet (fail)
  refine name_exit (fun w' => Below g W w' ∧ PS w' g s at_ tv1 ((xs ++ [nodeOf 1 a1 a2 a3 a4 0 0]) ++ [nodeOf 5 0 0 0 0 xs.length 0])) ⟨HW.out.trans (pw_below_drewN (Below.refl _ _) _), HP.out.drewN _⟩ ?_
  rintro wz ⟨hb, hp⟩
  clear HW HP c0 c1 c4
  have HW := Lib.hid hb
  have HP := Lib.hid hp
  clear hb hp
  go_wp2_with fail
  go_ret
  exact ⟨rfl, HW.out, tv1, by rw [HAT.out]; exact HP.out⟩
set_option maxHeartbeats 8000000 in
set_option maxRecDepth 100000 in
theorem whole_43 (W : World) (g : Nat) (s : ByteArray) (i : Nat) (tv : Value) (xs : List S55) (k : Nat) (c a1 a2 a3 a4 : Int) (hp : PS W g s i tv xs) (hi : i < s.size) (hs : s.size ≤ 100000) (h40 : (((s[i]'hi).toNat : Int) == 40) = false) (h46 : (((s[i]'hi).toNat : Int) == 46) = false) (h94 : (((s[i]'hi).toNat : Int) == 94) = false) (h36 : (((s[i]'hi).toNat : Int) == 36) = false) (h91 : (((s[i]'hi).toNat : Int) == 91) = false) (h42 : (((s[i]'hi).toNat : Int) == 42) = false) (h43 : (((s[i]'hi).toNat : Int) == 43) = false) (h63 : (((s[i]'hi).toNat : Int) == 63) = false) (h41 : (((s[i]'hi).toNat : Int) == 41) = false) (h124 : (((s[i]'hi).toNat : Int) == 124) = false) (h123 : (((s[i]'hi).toNat : Int) == 123) = false) (h125 : (((s[i]'hi).toNat : Int) == 125) = false) (h47 : (((s[i]'hi).toNat : Int) == 47) = false) (hsg : dragomanref04_Sign.f k (s.extract i s.size) = some (c, 1, 0)) (ho : dragomanref04_One.f c = some (a1, a2, a3, a4)) (hl : xs.length < 1980) (he : i + 2 = s.size) (hi1 : i + 1 < s.size) (hv : ((s[i + 1]'hi1).toNat : Int) = 43) :
    Calls Try.prog 41 #[.pointer (some ⟨g, 0, none⟩)] W fun e W' => e = .returned (.int .i64 ((xs.length : Int) + 1)) ∧ Below g W W' ∧ ∃ tv', PS W' g s (i + 2) tv' ((xs ++ [nodeOf 1 a1 a2 a3 a4 0 0]) ++ [nodeOf 5 0 0 0 0 xs.length 0]) := by
  have HP := Lib.hid hp
  have HSG := Lib.hid hsg
  have HO := Lib.hid ho
  have HW : Hid (Below g W W) := Lib.hid (Below.refl _ _)
  clear hp hsg ho
  have HV := Lib.hid hv
  clear hv
  go_enter Try.func41, Try.ntmps41
  go_wp2_with fail
  refine (row_43 _ g s i tv xs k c a1 a2 a3 a4 HP.out hi hs h40 h46 h94 h36 h91 h42 h43 h63 h41 h124 h123 h125 h47 HSG.out HO.out (by omega) he hi1 HV.out).mono ?_
  rintro e wa ⟨rfl, hb, tv1, hp⟩
  have HW' := Lib.hid (HW.out.trans hb)
  have HP' := Lib.hid hp
  clear hb hp HW HP
  have HW := HW'
  have HP := HP'
  clear HW' HP'
  go_wp2_with fail
  refine wp_loop_rounds 1 ?_
  rw [rounds_succ]
  go_wp2_with fail
  refine (is_out' _ g s (i + 2) tv1 ((xs ++ [nodeOf 1 a1 a2 a3 a4 0 0]) ++ [nodeOf 5 0 0 0 0 xs.length 0]) 124 HP.out (by omega)).mono ?_
  rintro e w18_ ⟨rfl, hb, hp⟩
  have HW' := Lib.hid (HW.out.trans hb)
  have HP' := Lib.hid hp
  clear hb hp HW HP
  have HW := HW'
  have HP := HP'
  clear HW' HP'
  go_wp2_with fail
  go_ret
  exact ⟨rfl, HW.out, tv1, HP.out⟩
end Go.Proofs.Ythnfmpieoondaaa.G
end

/- dragomanref05.Read at a text of one plain byte, or of one and a sign behind it: its upper functions, walked. -/
section
set_option linter.unusedVariables false
set_option linter.unusedSimpArgs false
namespace Go.Proofs.Ythnfmpieoondaaa.G
open Go.RowKit Go.Proofs.YthnfmpieoondaaaW.PrintWords Go.Proofs.YthnfmpieoondaaaW.PrintLast Go.Proofs.YthnfmpieoondaaaW.PrintMore Go.Proofs.Ythnfmpieoondaaa.QA Go.Proofs.Ythnfmpieoondaaa.QB
set_option maxHeartbeats 8000000 in
set_option maxRecDepth 100000 in
theorem read_end (w : World) (s : ByteArray) (k : Nat) (c a1 a2 a3 a4 : Int) (hi : 0 < s.size) (hs : s.size ≤ 100000) (h40 : (((s[0]'hi).toNat : Int) == 40) = false) (h46 : (((s[0]'hi).toNat : Int) == 46) = false) (h94 : (((s[0]'hi).toNat : Int) == 94) = false) (h36 : (((s[0]'hi).toNat : Int) == 36) = false) (h91 : (((s[0]'hi).toNat : Int) == 91) = false) (h42 : (((s[0]'hi).toNat : Int) == 42) = false) (h43 : (((s[0]'hi).toNat : Int) == 43) = false) (h63 : (((s[0]'hi).toNat : Int) == 63) = false) (h41 : (((s[0]'hi).toNat : Int) == 41) = false) (h124 : (((s[0]'hi).toNat : Int) == 124) = false) (h123 : (((s[0]'hi).toNat : Int) == 123) = false) (h125 : (((s[0]'hi).toNat : Int) == 125) = false) (h47 : (((s[0]'hi).toNat : Int) == 47) = false) (hsg : dragomanref04_Sign.f k (s.extract 0 s.size) = some (c, 1, 0)) (ho : dragomanref04_One.f c = some (a1, a2, a3, a4)) (he : 0 + 1 = s.size) :
    Calls Try.prog 26 #[.string s] w fun e w' => ∃ v0_ : Value, e = .returned (.tuple #[v0_, .int .i64 0]) ∧ Kd.R k55 55 w' w.heap.size (fun _ => True) v0_ (([nodeOf 1 a1 a2 a3 a4 0 0])) ∧ Below w.heap.size w w' := by
  have HSG := Lib.hid hsg
  have HO := Lib.hid ho
  clear hsg ho
  have hz := blk_new w (.cells #[.string s, .int .i64 0, .int .i64 0, .slice none 0 0, .int .i64 0] 68)
  have HP : Hid (PS (w.alloc (.cells #[.string s, .int .i64 0, .int .i64 0, .slice none 0 0, .int .i64 0] 68)) w.heap.size s 0 (.slice none 0 0) []) := Lib.hid ⟨hz, Kd.R_nil _ _ _ _ _⟩
  clear hz
  go_enter Try.func26, Try.ntmps26
  go_wp2_with fail
  refine (whole_end _ w.heap.size s 0 (.slice none 0 0) [] k c a1 a2 a3 a4 HP.out hi hs h40 h46 h94 h36 h91 h42 h43 h63 h41 h124 h123 h125 h47 HSG.out HO.out (by simp) he).mono ?_
  rintro e wa ⟨rfl, hb, tv1, hp⟩
  have HB := Lib.hid (((Below.refl _ _).alloc (Nat.le_refl _) (.cells #[.string s, .int .i64 0, .int .i64 0, .slice none 0 0, .int .i64 0] 68)).trans hb)
  have HP1 := Lib.hid hp
  have c1 : wa.cell? ⟨w.heap.size, 1, none⟩ = some (.int .i64 (0 + 1 : Nat)) := (blk_cell hp.h 1).trans rfl
  have c3 : wa.cell? ⟨w.heap.size, 3, none⟩ = some tv1 := (blk_cell hp.h 3).trans rfl
  have c4 : wa.cell? ⟨w.heap.size, 4, none⟩ = some (.int .i64 0) := (blk_cell hp.h 4).trans rfl
  have hnl : decide (((0 + 1 : Nat) : Int) < (s.size : Int)) = false := decide_eq_false (by omega)
  clear hp hb HP
  go_wp2_with fail
  go_ret2
  exact ⟨_, rfl, Kd.R_lower HP1.out.r (Nat.le_succ _), HB.out⟩
set_option maxHeartbeats 8000000 in
set_option maxRecDepth 100000 in
theorem read_42 (w : World) (s : ByteArray) (k : Nat) (c a1 a2 a3 a4 : Int) (hi : 0 < s.size) (hs : s.size ≤ 100000) (h40 : (((s[0]'hi).toNat : Int) == 40) = false) (h46 : (((s[0]'hi).toNat : Int) == 46) = false) (h94 : (((s[0]'hi).toNat : Int) == 94) = false) (h36 : (((s[0]'hi).toNat : Int) == 36) = false) (h91 : (((s[0]'hi).toNat : Int) == 91) = false) (h42 : (((s[0]'hi).toNat : Int) == 42) = false) (h43 : (((s[0]'hi).toNat : Int) == 43) = false) (h63 : (((s[0]'hi).toNat : Int) == 63) = false) (h41 : (((s[0]'hi).toNat : Int) == 41) = false) (h124 : (((s[0]'hi).toNat : Int) == 124) = false) (h123 : (((s[0]'hi).toNat : Int) == 123) = false) (h125 : (((s[0]'hi).toNat : Int) == 125) = false) (h47 : (((s[0]'hi).toNat : Int) == 47) = false) (hsg : dragomanref04_Sign.f k (s.extract 0 s.size) = some (c, 1, 0)) (ho : dragomanref04_One.f c = some (a1, a2, a3, a4)) (he : 0 + 2 = s.size) (hi1 : 0 + 1 < s.size) (hv : ((s[0 + 1]'hi1).toNat : Int) = 42) :
    Calls Try.prog 26 #[.string s] w fun e w' => ∃ v0_ : Value, e = .returned (.tuple #[v0_, .int .i64 0]) ∧ Kd.R k55 55 w' w.heap.size (fun _ => True) v0_ ((([nodeOf 1 a1 a2 a3 a4 0 0]) ++ [nodeOf 4 0 0 0 0 0 0])) ∧ Below w.heap.size w w' := by
  have HSG := Lib.hid hsg
  have HO := Lib.hid ho
  have HV := Lib.hid hv
  clear hv
  clear hsg ho
  have hz := blk_new w (.cells #[.string s, .int .i64 0, .int .i64 0, .slice none 0 0, .int .i64 0] 68)
  have HP : Hid (PS (w.alloc (.cells #[.string s, .int .i64 0, .int .i64 0, .slice none 0 0, .int .i64 0] 68)) w.heap.size s 0 (.slice none 0 0) []) := Lib.hid ⟨hz, Kd.R_nil _ _ _ _ _⟩
  clear hz
  go_enter Try.func26, Try.ntmps26
  go_wp2_with fail
  refine (whole_42 _ w.heap.size s 0 (.slice none 0 0) [] k c a1 a2 a3 a4 HP.out hi hs h40 h46 h94 h36 h91 h42 h43 h63 h41 h124 h123 h125 h47 HSG.out HO.out (by simp) he hi1 HV.out).mono ?_
  rintro e wa ⟨rfl, hb, tv1, hp⟩
  have HB := Lib.hid (((Below.refl _ _).alloc (Nat.le_refl _) (.cells #[.string s, .int .i64 0, .int .i64 0, .slice none 0 0, .int .i64 0] 68)).trans hb)
  have HP1 := Lib.hid hp
  have c1 : wa.cell? ⟨w.heap.size, 1, none⟩ = some (.int .i64 (0 + 2 : Nat)) := (blk_cell hp.h 1).trans rfl
  have c3 : wa.cell? ⟨w.heap.size, 3, none⟩ = some tv1 := (blk_cell hp.h 3).trans rfl
  have c4 : wa.cell? ⟨w.heap.size, 4, none⟩ = some (.int .i64 0) := (blk_cell hp.h 4).trans rfl
  have hnl : decide (((0 + 2 : Nat) : Int) < (s.size : Int)) = false := decide_eq_false (by omega)
  clear hp hb HP
  go_wp2_with fail
  go_ret2
  exact ⟨_, rfl, Kd.R_lower HP1.out.r (Nat.le_succ _), HB.out⟩
set_option maxHeartbeats 8000000 in
set_option maxRecDepth 100000 in
theorem read_43 (w : World) (s : ByteArray) (k : Nat) (c a1 a2 a3 a4 : Int) (hi : 0 < s.size) (hs : s.size ≤ 100000) (h40 : (((s[0]'hi).toNat : Int) == 40) = false) (h46 : (((s[0]'hi).toNat : Int) == 46) = false) (h94 : (((s[0]'hi).toNat : Int) == 94) = false) (h36 : (((s[0]'hi).toNat : Int) == 36) = false) (h91 : (((s[0]'hi).toNat : Int) == 91) = false) (h42 : (((s[0]'hi).toNat : Int) == 42) = false) (h43 : (((s[0]'hi).toNat : Int) == 43) = false) (h63 : (((s[0]'hi).toNat : Int) == 63) = false) (h41 : (((s[0]'hi).toNat : Int) == 41) = false) (h124 : (((s[0]'hi).toNat : Int) == 124) = false) (h123 : (((s[0]'hi).toNat : Int) == 123) = false) (h125 : (((s[0]'hi).toNat : Int) == 125) = false) (h47 : (((s[0]'hi).toNat : Int) == 47) = false) (hsg : dragomanref04_Sign.f k (s.extract 0 s.size) = some (c, 1, 0)) (ho : dragomanref04_One.f c = some (a1, a2, a3, a4)) (he : 0 + 2 = s.size) (hi1 : 0 + 1 < s.size) (hv : ((s[0 + 1]'hi1).toNat : Int) = 43) :
    Calls Try.prog 26 #[.string s] w fun e w' => ∃ v0_ : Value, e = .returned (.tuple #[v0_, .int .i64 0]) ∧ Kd.R k55 55 w' w.heap.size (fun _ => True) v0_ ((([nodeOf 1 a1 a2 a3 a4 0 0]) ++ [nodeOf 5 0 0 0 0 0 0])) ∧ Below w.heap.size w w' := by
  have HSG := Lib.hid hsg
  have HO := Lib.hid ho
  have HV := Lib.hid hv
  clear hv
  clear hsg ho
  have hz := blk_new w (.cells #[.string s, .int .i64 0, .int .i64 0, .slice none 0 0, .int .i64 0] 68)
  have HP : Hid (PS (w.alloc (.cells #[.string s, .int .i64 0, .int .i64 0, .slice none 0 0, .int .i64 0] 68)) w.heap.size s 0 (.slice none 0 0) []) := Lib.hid ⟨hz, Kd.R_nil _ _ _ _ _⟩
  clear hz
  go_enter Try.func26, Try.ntmps26
  go_wp2_with fail
  refine (whole_43 _ w.heap.size s 0 (.slice none 0 0) [] k c a1 a2 a3 a4 HP.out hi hs h40 h46 h94 h36 h91 h42 h43 h63 h41 h124 h123 h125 h47 HSG.out HO.out (by simp) he hi1 HV.out).mono ?_
  rintro e wa ⟨rfl, hb, tv1, hp⟩
  have HB := Lib.hid (((Below.refl _ _).alloc (Nat.le_refl _) (.cells #[.string s, .int .i64 0, .int .i64 0, .slice none 0 0, .int .i64 0] 68)).trans hb)
  have HP1 := Lib.hid hp
  have c1 : wa.cell? ⟨w.heap.size, 1, none⟩ = some (.int .i64 (0 + 2 : Nat)) := (blk_cell hp.h 1).trans rfl
  have c3 : wa.cell? ⟨w.heap.size, 3, none⟩ = some tv1 := (blk_cell hp.h 3).trans rfl
  have c4 : wa.cell? ⟨w.heap.size, 4, none⟩ = some (.int .i64 0) := (blk_cell hp.h 4).trans rfl
  have hnl : decide (((0 + 2 : Nat) : Int) < (s.size : Int)) = false := decide_eq_false (by omega)
  clear hp hb HP
  go_wp2_with fail
  go_ret2
  exact ⟨_, rfl, Kd.R_lower HP1.out.r (Nat.le_succ _), HB.out⟩
/-- What dragomanref05.Read computes, at three texts. -/
def dragomanref05_Read.f (k : Nat) (s : ByteArray) : Option (List S55 × Int) :=
  if k = 0 then none else
  if s = ⟨#[97]⟩ then some ([nodeOf 1 0 8589934592 0 0 0 0], 0)
  else if s = ⟨#[97, 43]⟩ then some ([nodeOf 1 0 8589934592 0 0 0 0, nodeOf 5 0 0 0 0 0 0], 0)
  else if s = ⟨#[98, 42]⟩ then some ([nodeOf 1 0 17179869184 0 0 0 0, nodeOf 4 0 0 0 0 0 0], 0)
  else none
theorem dragomanref05_Read.calls (k : Nat) (s : ByteArray) (r1 : List S55) (r2 : Int) (w : World) (h : dragomanref05_Read.f k s = some (r1, r2)) :
    Calls Try.prog 26 #[.string s] w fun e w' => ∃ v0_ : Value, e = .returned (.tuple #[v0_, .int .i64 r2]) ∧ Kd.R k55 55 w' w.heap.size (fun _ => True) v0_ r1 ∧ Below w.heap.size w w' := by
  unfold dragomanref05_Read.f at h
  by_cases h0 : k = 0
  · rw [if_pos h0] at h; cases h
  rw [if_neg h0] at h
  by_cases h1 : s = ⟨#[97]⟩
  · rw [if_pos h1] at h
    simp only [Option.some.injEq, Prod.mk.injEq] at h
    obtain ⟨rfl, rfl⟩ := h
    subst h1
    exact read_end w ⟨#[97]⟩ 10 97 0 8589934592 0 0 (by decide) (by decide) rfl rfl rfl rfl rfl rfl rfl rfl rfl rfl rfl rfl rfl (by decide +kernel) (by decide +kernel) rfl
  rw [if_neg h1] at h
  by_cases h2 : s = ⟨#[97, 43]⟩
  · rw [if_pos h2] at h
    simp only [Option.some.injEq, Prod.mk.injEq] at h
    obtain ⟨rfl, rfl⟩ := h
    subst h2
    exact read_43 w ⟨#[97, 43]⟩ 10 97 0 8589934592 0 0 (by decide) (by decide) rfl rfl rfl rfl rfl rfl rfl rfl rfl rfl rfl rfl rfl (by decide +kernel) (by decide +kernel) rfl (by decide) rfl
  rw [if_neg h2] at h
  by_cases h3 : s = ⟨#[98, 42]⟩
  · rw [if_pos h3] at h
    simp only [Option.some.injEq, Prod.mk.injEq] at h
    obtain ⟨rfl, rfl⟩ := h
    subst h3
    exact read_42 w ⟨#[98, 42]⟩ 10 98 0 17179869184 0 0 (by decide) (by decide) rfl rfl rfl rfl rfl rfl rfl rfl rfl rfl rfl rfl rfl (by decide +kernel) (by decide +kernel) rfl (by decide) rfl
  rw [if_neg h3] at h
  cases h
theorem dragomanref05_Read.mono : ∀ s k, LeO (dragomanref05_Read.f k s) (dragomanref05_Read.f (k + 1) s) := by
  intro s k r h
  unfold dragomanref05_Read.f at h ⊢
  by_cases h0 : k = 0
  · rw [if_pos h0] at h; cases h
  rw [if_neg h0] at h
  rw [if_neg (by omega)]
  exact h
end Go.Proofs.Ythnfmpieoondaaa.G
end
