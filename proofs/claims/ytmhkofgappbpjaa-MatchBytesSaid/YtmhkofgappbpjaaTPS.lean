/- dragomanref05.Read at a text of one plain byte, or of one and a sign behind it: its upper functions, walked. -/
import Derived.Test.YtmhkofgappbpjaaTPR
set_option linter.unusedVariables false
set_option linter.unusedSimpArgs false
namespace Go.Proofs.Ytmhkofgappbpjaa.G
open Go.RowKit Go.Proofs.YtmhkofgappbpjaaW.PrintWords Go.Proofs.YtmhkofgappbpjaaW.PrintLast Go.Proofs.YtmhkofgappbpjaaW.PrintMore Go.Proofs.Ytmhkofgappbpjaa.QA Go.Proofs.Ytmhkofgappbpjaa.QB
set_option maxHeartbeats 8000000 in
set_option maxRecDepth 100000 in
theorem piece_end (W : World) (g : Nat) (s : ByteArray) (i : Nat) (tv : Value) (xs : List S42) (k : Nat) (c a1 a2 a3 a4 : Int) (hp : PS W g s i tv xs) (hi : i < s.size) (hs : s.size ≤ 100000) (h40 : (((s[i]'hi).toNat : Int) == 40) = false) (h46 : (((s[i]'hi).toNat : Int) == 46) = false) (h94 : (((s[i]'hi).toNat : Int) == 94) = false) (h36 : (((s[i]'hi).toNat : Int) == 36) = false) (h91 : (((s[i]'hi).toNat : Int) == 91) = false) (h42 : (((s[i]'hi).toNat : Int) == 42) = false) (h43 : (((s[i]'hi).toNat : Int) == 43) = false) (h63 : (((s[i]'hi).toNat : Int) == 63) = false) (h41 : (((s[i]'hi).toNat : Int) == 41) = false) (h124 : (((s[i]'hi).toNat : Int) == 124) = false) (h123 : (((s[i]'hi).toNat : Int) == 123) = false) (h125 : (((s[i]'hi).toNat : Int) == 125) = false) (h47 : (((s[i]'hi).toNat : Int) == 47) = false) (hsg : dragomanref04_Sign.f k (s.extract i s.size) = some (c, 1, 0)) (ho : dragomanref04_One.f c = some (a1, a2, a3, a4)) (hl : xs.length < 1980) (he : i + 1 = s.size) :
    Calls Try.prog 44 #[.pointer (some ⟨g, 0, none⟩)] W fun e W' => e = .returned (.int .i64 xs.length) ∧ Below g W W' ∧ ∃ tv', PS W' g s (i + 1) tv' (xs ++ [nodeOf 1 a1 a2 a3 a4 0 0]) := by
  have HP := Lib.hid hp
  have HSG := Lib.hid hsg
  have HO := Lib.hid ho
  have HW : Hid (Below g W W) := Lib.hid (Below.refl _ _)
  clear hp hsg ho
  go_enter Try.func44, Try.ntmps44
  go_wp2_with fail
  refine (atom_ok _ g s i tv xs k c a1 a2 a3 a4 HP.out hi hs h40 h46 h94 h36 h91 h42 h43 h63 h41 h124 h123 h125 h47 HSG.out HO.out (by omega)).mono ?_
  rintro e wa ⟨rfl, hb, tv1, hp⟩
  have HW' := Lib.hid (HW.out.trans hb)
  have HP' := Lib.hid hp
  clear hb hp HW HP
  have HW := HW'
  have HP := HP'
  clear HW' HP'
  go_wp2_with fail
  refine wp_loop_rounds 3 ?_
  rw [rounds_succ]
  go_wp2_with fail
  refine (is_out' _ g s (i + 1) tv1 (xs ++ [nodeOf 1 a1 a2 a3 a4 0 0]) 42 HP.out (by omega)).mono ?_
  rintro e w1_ ⟨rfl, hb, hp⟩
  have HW' := Lib.hid (HW.out.trans hb)
  have HP' := Lib.hid hp
  clear hb hp HW HP
  have HW := HW'
  have HP := HP'
  clear HW' HP'
  go_wp2_with fail
  refine (is_out' _ g s (i + 1) tv1 (xs ++ [nodeOf 1 a1 a2 a3 a4 0 0]) 43 HP.out (by omega)).mono ?_
  rintro e w2_ ⟨rfl, hb, hp⟩
  have HW' := Lib.hid (HW.out.trans hb)
  have HP' := Lib.hid hp
  clear hb hp HW HP
  have HW := HW'
  have HP := HP'
  clear HW' HP'
  go_wp2_with fail
  refine (is_out' _ g s (i + 1) tv1 (xs ++ [nodeOf 1 a1 a2 a3 a4 0 0]) 63 HP.out (by omega)).mono ?_
  rintro e w3_ ⟨rfl, hb, hp⟩
  have HW' := Lib.hid (HW.out.trans hb)
  have HP' := Lib.hid hp
  clear hb hp HW HP
  have HW := HW'
  have HP := HP'
  clear HW' HP'
  go_wp2_with fail
  rw [rounds_succ]
  go_wp2_with fail
  go_ret
  exact ⟨rfl, HW.out, tv1, HP.out⟩
set_option maxHeartbeats 8000000 in
set_option maxRecDepth 100000 in
theorem piece_42 (W : World) (g : Nat) (s : ByteArray) (i : Nat) (tv : Value) (xs : List S42) (k : Nat) (c a1 a2 a3 a4 : Int) (hp : PS W g s i tv xs) (hi : i < s.size) (hs : s.size ≤ 100000) (h40 : (((s[i]'hi).toNat : Int) == 40) = false) (h46 : (((s[i]'hi).toNat : Int) == 46) = false) (h94 : (((s[i]'hi).toNat : Int) == 94) = false) (h36 : (((s[i]'hi).toNat : Int) == 36) = false) (h91 : (((s[i]'hi).toNat : Int) == 91) = false) (h42 : (((s[i]'hi).toNat : Int) == 42) = false) (h43 : (((s[i]'hi).toNat : Int) == 43) = false) (h63 : (((s[i]'hi).toNat : Int) == 63) = false) (h41 : (((s[i]'hi).toNat : Int) == 41) = false) (h124 : (((s[i]'hi).toNat : Int) == 124) = false) (h123 : (((s[i]'hi).toNat : Int) == 123) = false) (h125 : (((s[i]'hi).toNat : Int) == 125) = false) (h47 : (((s[i]'hi).toNat : Int) == 47) = false) (hsg : dragomanref04_Sign.f k (s.extract i s.size) = some (c, 1, 0)) (ho : dragomanref04_One.f c = some (a1, a2, a3, a4)) (hl : xs.length < 1980) (he : i + 2 = s.size) (hi1 : i + 1 < s.size) (hv : ((s[i + 1]'hi1).toNat : Int) = 42) :
    Calls Try.prog 44 #[.pointer (some ⟨g, 0, none⟩)] W fun e W' => e = .returned (.int .i64 ((xs.length : Int) + 1)) ∧ Below g W W' ∧ ∃ tv', PS W' g s (i + 2) tv' ((xs ++ [nodeOf 1 a1 a2 a3 a4 0 0]) ++ [nodeOf 4 0 0 0 0 xs.length 0]) := by
  have HP := Lib.hid hp
  have HSG := Lib.hid hsg
  have HO := Lib.hid ho
  have HW : Hid (Below g W W) := Lib.hid (Below.refl _ _)
  clear hp hsg ho
  have q42 : (((s[i + 1]'hi1).toNat : Int) == 42) = true := by rw [hv]; decide
  have q43 : (((s[i + 1]'hi1).toNat : Int) == 43) = false := by rw [hv]; decide
  have q63 : (((s[i + 1]'hi1).toNat : Int) == 63) = false := by rw [hv]; decide
  have HV := Lib.hid hv
  clear hv
  go_enter Try.func44, Try.ntmps44
  go_wp2_with fail
  refine (atom_ok _ g s i tv xs k c a1 a2 a3 a4 HP.out hi hs h40 h46 h94 h36 h91 h42 h43 h63 h41 h124 h123 h125 h47 HSG.out HO.out (by omega)).mono ?_
  rintro e wa ⟨rfl, hb, tv1, hp⟩
  have HW' := Lib.hid (HW.out.trans hb)
  have HP' := Lib.hid hp
  clear hb hp HW HP
  have HW := HW'
  have HP := HP'
  clear HW' HP'
  go_wp2_with fail
  refine wp_loop_rounds 4 ?_
  rw [rounds_succ]
  go_wp2_with fail
  refine (is_in' _ g s (i + 1) tv1 (xs ++ [nodeOf 1 a1 a2 a3 a4 0 0]) 42 HP.out hi1 true q42).mono ?_
  rintro e w4_ ⟨rfl, hb, hp⟩
  have HW' := Lib.hid (HW.out.trans hb)
  have HP' := Lib.hid hp
  clear hb hp HW HP
  have HW := HW'
  have HP := HP'
  clear HW' HP'
  go_wp2_with fail
  refine (is_in' _ g s (i + 1) tv1 (xs ++ [nodeOf 1 a1 a2 a3 a4 0 0]) 43 HP.out hi1 false q43).mono ?_
  rintro e w5_ ⟨rfl, hb, hp⟩
  have HW' := Lib.hid (HW.out.trans hb)
  have HP' := Lib.hid hp
  clear hb hp HW HP
  have HW := HW'
  have HP := HP'
  clear HW' HP'
  go_wp2_with fail
  refine (is_in' _ g s (i + 1) tv1 (xs ++ [nodeOf 1 a1 a2 a3 a4 0 0]) 63 HP.out hi1 false q63).mono ?_
  rintro e w6_ ⟨rfl, hb, hp⟩
  have HW' := Lib.hid (HW.out.trans hb)
  have HP' := Lib.hid hp
  clear hb hp HW HP
  have HW := HW'
  have HP := HP'
  clear HW' HP'
  have hp := HP.out
  have hb := HW.out
  have c1 : w6_.cell? ⟨g, 1, none⟩ = some (.int .i64 ((i : Int) + 1)) := (blk_cell hp.h 1).trans rfl
  have f1 : w6_.frozen? ⟨g, 1, none⟩ = false := blk_frozen hp.h 1
  have hb2 : Below g W (w6_.setCell ⟨g, 1, none⟩ (.int .i64 ((i : Int) + 2))) := hb.setCell (by show g ≤ g; omega) _
  have hp2 : PS (w6_.setCell ⟨g, 1, none⟩ (.int .i64 ((i : Int) + 2))) g s (i + 2) tv1 (xs ++ [nodeOf 1 a1 a2 a3 a4 0 0]) := ⟨blk_put hp.h 1 _ rfl, Kd.R_mono (Kd.R_far (Kd.R_mono (Kd.R_bound hp.r) (fun k h => h.2.1)) (fun k hk => by have : g + 1 ≤ k := hk; show k ≠ g; omega) _) (fun _ _ => trivial)⟩
  have HW2 := Lib.hid hb2
  have HP2 := Lib.hid hp2
  clear hb hp hb2 hp2
  go_wp2_with fail
  refine (lay_ok _ g s (i + 2) tv1 (xs ++ [nodeOf 1 a1 a2 a3 a4 0 0]) 4 0 0 0 0 xs.length 0 HP2.out (by simp; omega)).mono ?_
  rintro e wl ⟨rfl, hb, tv2, hp⟩
  have HW3 := Lib.hid (HW2.out.trans hb)
  have HP3 := Lib.hid hp
  clear hb hp HW2 HP2 HW HP c1 f1
  have HW := HW3
  have HP := HP3
  clear HW3 HP3
  go_wp2_with fail
  rw [rounds_succ]
  go_wp2_with fail
  refine (is_out' _ g s (i + 2) tv2 ((xs ++ [nodeOf 1 a1 a2 a3 a4 0 0]) ++ [nodeOf 4 0 0 0 0 xs.length 0]) 42 HP.out (by omega)).mono ?_
  rintro e w7_ ⟨rfl, hb, hp⟩
  have HW' := Lib.hid (HW.out.trans hb)
  have HP' := Lib.hid hp
  clear hb hp HW HP
  have HW := HW'
  have HP := HP'
  clear HW' HP'
  go_wp2_with fail
  refine (is_out' _ g s (i + 2) tv2 ((xs ++ [nodeOf 1 a1 a2 a3 a4 0 0]) ++ [nodeOf 4 0 0 0 0 xs.length 0]) 43 HP.out (by omega)).mono ?_
  rintro e w8_ ⟨rfl, hb, hp⟩
  have HW' := Lib.hid (HW.out.trans hb)
  have HP' := Lib.hid hp
  clear hb hp HW HP
  have HW := HW'
  have HP := HP'
  clear HW' HP'
  go_wp2_with fail
  refine (is_out' _ g s (i + 2) tv2 ((xs ++ [nodeOf 1 a1 a2 a3 a4 0 0]) ++ [nodeOf 4 0 0 0 0 xs.length 0]) 63 HP.out (by omega)).mono ?_
  rintro e w9_ ⟨rfl, hb, hp⟩
  have HW' := Lib.hid (HW.out.trans hb)
  have HP' := Lib.hid hp
  clear hb hp HW HP
  have HW := HW'
  have HP := HP'
  clear HW' HP'
  go_wp2_with fail
  rw [rounds_succ]
  go_wp2_with fail
  go_ret
  exact ⟨by simp, HW.out, tv2, HP.out⟩
set_option maxHeartbeats 8000000 in
set_option maxRecDepth 100000 in
theorem piece_43 (W : World) (g : Nat) (s : ByteArray) (i : Nat) (tv : Value) (xs : List S42) (k : Nat) (c a1 a2 a3 a4 : Int) (hp : PS W g s i tv xs) (hi : i < s.size) (hs : s.size ≤ 100000) (h40 : (((s[i]'hi).toNat : Int) == 40) = false) (h46 : (((s[i]'hi).toNat : Int) == 46) = false) (h94 : (((s[i]'hi).toNat : Int) == 94) = false) (h36 : (((s[i]'hi).toNat : Int) == 36) = false) (h91 : (((s[i]'hi).toNat : Int) == 91) = false) (h42 : (((s[i]'hi).toNat : Int) == 42) = false) (h43 : (((s[i]'hi).toNat : Int) == 43) = false) (h63 : (((s[i]'hi).toNat : Int) == 63) = false) (h41 : (((s[i]'hi).toNat : Int) == 41) = false) (h124 : (((s[i]'hi).toNat : Int) == 124) = false) (h123 : (((s[i]'hi).toNat : Int) == 123) = false) (h125 : (((s[i]'hi).toNat : Int) == 125) = false) (h47 : (((s[i]'hi).toNat : Int) == 47) = false) (hsg : dragomanref04_Sign.f k (s.extract i s.size) = some (c, 1, 0)) (ho : dragomanref04_One.f c = some (a1, a2, a3, a4)) (hl : xs.length < 1980) (he : i + 2 = s.size) (hi1 : i + 1 < s.size) (hv : ((s[i + 1]'hi1).toNat : Int) = 43) :
    Calls Try.prog 44 #[.pointer (some ⟨g, 0, none⟩)] W fun e W' => e = .returned (.int .i64 ((xs.length : Int) + 1)) ∧ Below g W W' ∧ ∃ tv', PS W' g s (i + 2) tv' ((xs ++ [nodeOf 1 a1 a2 a3 a4 0 0]) ++ [nodeOf 5 0 0 0 0 xs.length 0]) := by
  have HP := Lib.hid hp
  have HSG := Lib.hid hsg
  have HO := Lib.hid ho
  have HW : Hid (Below g W W) := Lib.hid (Below.refl _ _)
  clear hp hsg ho
  have q42 : (((s[i + 1]'hi1).toNat : Int) == 42) = false := by rw [hv]; decide
  have q43 : (((s[i + 1]'hi1).toNat : Int) == 43) = true := by rw [hv]; decide
  have q63 : (((s[i + 1]'hi1).toNat : Int) == 63) = false := by rw [hv]; decide
  have HV := Lib.hid hv
  clear hv
  go_enter Try.func44, Try.ntmps44
  go_wp2_with fail
  refine (atom_ok _ g s i tv xs k c a1 a2 a3 a4 HP.out hi hs h40 h46 h94 h36 h91 h42 h43 h63 h41 h124 h123 h125 h47 HSG.out HO.out (by omega)).mono ?_
  rintro e wa ⟨rfl, hb, tv1, hp⟩
  have HW' := Lib.hid (HW.out.trans hb)
  have HP' := Lib.hid hp
  clear hb hp HW HP
  have HW := HW'
  have HP := HP'
  clear HW' HP'
  go_wp2_with fail
  refine wp_loop_rounds 4 ?_
  rw [rounds_succ]
  go_wp2_with fail
  refine (is_in' _ g s (i + 1) tv1 (xs ++ [nodeOf 1 a1 a2 a3 a4 0 0]) 42 HP.out hi1 false q42).mono ?_
  rintro e w10_ ⟨rfl, hb, hp⟩
  have HW' := Lib.hid (HW.out.trans hb)
  have HP' := Lib.hid hp
  clear hb hp HW HP
  have HW := HW'
  have HP := HP'
  clear HW' HP'
  go_wp2_with fail
  refine (is_in' _ g s (i + 1) tv1 (xs ++ [nodeOf 1 a1 a2 a3 a4 0 0]) 43 HP.out hi1 true q43).mono ?_
  rintro e w11_ ⟨rfl, hb, hp⟩
  have HW' := Lib.hid (HW.out.trans hb)
  have HP' := Lib.hid hp
  clear hb hp HW HP
  have HW := HW'
  have HP := HP'
  clear HW' HP'
  go_wp2_with fail
  refine (is_in' _ g s (i + 1) tv1 (xs ++ [nodeOf 1 a1 a2 a3 a4 0 0]) 63 HP.out hi1 false q63).mono ?_
  rintro e w12_ ⟨rfl, hb, hp⟩
  have HW' := Lib.hid (HW.out.trans hb)
  have HP' := Lib.hid hp
  clear hb hp HW HP
  have HW := HW'
  have HP := HP'
  clear HW' HP'
  have hp := HP.out
  have hb := HW.out
  have c1 : w12_.cell? ⟨g, 1, none⟩ = some (.int .i64 ((i : Int) + 1)) := (blk_cell hp.h 1).trans rfl
  have f1 : w12_.frozen? ⟨g, 1, none⟩ = false := blk_frozen hp.h 1
  have hb2 : Below g W (w12_.setCell ⟨g, 1, none⟩ (.int .i64 ((i : Int) + 2))) := hb.setCell (by show g ≤ g; omega) _
  have hp2 : PS (w12_.setCell ⟨g, 1, none⟩ (.int .i64 ((i : Int) + 2))) g s (i + 2) tv1 (xs ++ [nodeOf 1 a1 a2 a3 a4 0 0]) := ⟨blk_put hp.h 1 _ rfl, Kd.R_mono (Kd.R_far (Kd.R_mono (Kd.R_bound hp.r) (fun k h => h.2.1)) (fun k hk => by have : g + 1 ≤ k := hk; show k ≠ g; omega) _) (fun _ _ => trivial)⟩
  have HW2 := Lib.hid hb2
  have HP2 := Lib.hid hp2
  clear hb hp hb2 hp2
  go_wp2_with fail
  refine (lay_ok _ g s (i + 2) tv1 (xs ++ [nodeOf 1 a1 a2 a3 a4 0 0]) 5 0 0 0 0 xs.length 0 HP2.out (by simp; omega)).mono ?_
  rintro e wl ⟨rfl, hb, tv2, hp⟩
  have HW3 := Lib.hid (HW2.out.trans hb)
  have HP3 := Lib.hid hp
  clear hb hp HW2 HP2 HW HP c1 f1
  have HW := HW3
  have HP := HP3
  clear HW3 HP3
  go_wp2_with fail
  rw [rounds_succ]
  go_wp2_with fail
  refine (is_out' _ g s (i + 2) tv2 ((xs ++ [nodeOf 1 a1 a2 a3 a4 0 0]) ++ [nodeOf 5 0 0 0 0 xs.length 0]) 42 HP.out (by omega)).mono ?_
  rintro e w13_ ⟨rfl, hb, hp⟩
  have HW' := Lib.hid (HW.out.trans hb)
  have HP' := Lib.hid hp
  clear hb hp HW HP
  have HW := HW'
  have HP := HP'
  clear HW' HP'
  go_wp2_with fail
  refine (is_out' _ g s (i + 2) tv2 ((xs ++ [nodeOf 1 a1 a2 a3 a4 0 0]) ++ [nodeOf 5 0 0 0 0 xs.length 0]) 43 HP.out (by omega)).mono ?_
  rintro e w14_ ⟨rfl, hb, hp⟩
  have HW' := Lib.hid (HW.out.trans hb)
  have HP' := Lib.hid hp
  clear hb hp HW HP
  have HW := HW'
  have HP := HP'
  clear HW' HP'
  go_wp2_with fail
  refine (is_out' _ g s (i + 2) tv2 ((xs ++ [nodeOf 1 a1 a2 a3 a4 0 0]) ++ [nodeOf 5 0 0 0 0 xs.length 0]) 63 HP.out (by omega)).mono ?_
  rintro e w15_ ⟨rfl, hb, hp⟩
  have HW' := Lib.hid (HW.out.trans hb)
  have HP' := Lib.hid hp
  clear hb hp HW HP
  have HW := HW'
  have HP := HP'
  clear HW' HP'
  go_wp2_with fail
  rw [rounds_succ]
  go_wp2_with fail
  go_ret
  exact ⟨by simp, HW.out, tv2, HP.out⟩
end Go.Proofs.Ytmhkofgappbpjaa.G
