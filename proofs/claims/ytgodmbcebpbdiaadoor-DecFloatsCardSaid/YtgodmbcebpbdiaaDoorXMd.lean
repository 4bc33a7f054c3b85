/- Texts of this seat, put together: each part tells above it what it proves and on what conditions. -/
import Derived.Test.YtgodmbcebpbdiaaDoorXMc
import Derived.Lib.AtoiErrMem
/- dec.Read, walked: where a point with figures follows. -/
section
set_option linter.unusedVariables false
set_option linter.unusedSimpArgs false
namespace Go.Proofs.YtgodmbcebpbdiaaDoor.G
open Go.RowKit Go.Proofs.YtgodmbcebpbdiaaDoorW.PrintWords Go.Proofs.YtgodmbcebpbdiaaDoorW.PrintLast Go.Proofs.YtgodmbcebpbdiaaDoorW.PrintMore
set_option maxHeartbeats 4000000 in
set_option maxRecDepth 100000 in
theorem read_whole (s : ByteArray) (a b c d : Int) (w : World)
    (hs : ∀ w, Calls Tryd.prog 35 #[.string s] w fun e w' => e = .returned (.tuple #[.int .i64 a, .int .i64 b, .int .i64 c, .int .i64 d]) ∧ Drawn0 w w')
    (h1 : (c == b) = false) (h3 : decide (c < d) = false) (b0 : 0 ≤ b) (bc : b ≤ c) (cd : c ≤ d) (ds : d ≤ s.size) (hsz : s.size ≤ 281474976710656) (hc : wrap64 (c + 1) = c + 1) (T : ByteArray)
    (hdig : ∀ i, i < T.size → 48 ≤ (T.data.toList.getD i 0).toNat ∧ (T.data.toList.getD i 0).toNat ≤ 57)
    (a0 : 0 ≤ a) (a1 : a < s.size) (sg : Bool) (hsg : ∀ h : a.toNat < s.size, (((s[a.toNat]'h).toNat : Int) == 45) = sg)
    (hTz : T.size ≤ 1125899906842624)
    (r1 r2 r3 : Int) (hres : resV (digV T T.size 0 0) sg d = (r1, r2, r3))
    (hT : s.extract b.toNat c.toNat ++ ((⟨#[]⟩ : ByteArray) ++ ⟨#[48, 48, 48, 48, 48, 48]⟩).extract 0 6 = T) :
    Calls Tryd.prog 13 #[.string s] w fun x w' => x = .returned (.tuple #[.int .i64 r1, .int .i64 r2, .int .i64 r3]) ∧ Below w.heap.size w w' := by
    have HRES := Lib.hid hres; clear hres
    have HSG := Lib.hid hsg; clear hsg
    have hcv := fun W : World => Lib.run_convert_string_bytes (P := Tryd.prog) W 9 31 5 T Tryd.underlying9 Tryd.underlying31 Tryd.underlying5
    go_enter_defers Tryd.func13, Tryd.ntmps13
    go_wp2_with fail
    refine (hs _).mono ?_
    rintro e w' ⟨rfl, nd, rfl⟩
    clear hs
    go_wp2_with fail
    refine (wrong_no _ _).mono ?_
    rintro e w' ⟨rfl, rfl⟩
    go_wp2_with fail
    clear hcv
    have HDIG := Lib.hid hdig; clear hdig
    go_loopg [10, 53] T.size (fun kq v0 v1 w' => ∃ (low i : Nat), v0 = .int .u64 low ∧ v1 = .int .i64 i ∧ Aside0 (kq + i = T.size ∧ low < 18446744073709551616 ∧ digV T kq i low = digV T T.size 0 0) ∧ w' = Lib.bytesWorld ((((w.alloc (.cells #[.int .i64 0] 2)).alloc (.cells #[.int .i64 0] 3)).alloc (.cells #[.int .i64 0] 23)).drewN nd) 5 T)
    case atStart => exact ⟨0, 0, rfl, rfl, ⟨⟨by omega, by omega, rfl⟩⟩, rfl⟩
    case round =>
      obtain ⟨low, i, rfl, rfl, HA, rfl⟩ := hrel
      cases gk with
      | zero =>
        have hi2 : decide ((i : Int) < (T.size : Int)) = false := decide_eq_false (by have := HA.out; omega)
        have hi3 : decide (i < T.size) = false := decide_eq_false (by have := HA.out; omega)
        go_wp2_with fail
        rw [HSG.out]
        have hR : digV T T.size 0 0 = some low := by rw [← HA.out.2.2, digV]
        have hr := HRES.out
        rw [hR] at hr
        simp only [resV, Option.bind_some] at hr
        have B := Lib.hid (Lib.bytesWorld_below ((((w.alloc (.cells #[.int .i64 0] 2)).alloc (.cells #[.int .i64 0] 3)).alloc (.cells #[.int .i64 0] 23)).drewN nd) 5 T)
        have hz : ((((w.alloc (.cells #[.int .i64 0] 2)).alloc (.cells #[.int .i64 0] 3)).alloc (.cells #[.int .i64 0] 23)).drewN nd).heap.size = w.heap.size + 1 + 1 + 1 := by simp
        have k0 : (Lib.bytesWorld ((((w.alloc (.cells #[.int .i64 0] 2)).alloc (.cells #[.int .i64 0] 3)).alloc (.cells #[.int .i64 0] 23)).drewN nd) 5 T).cell? ⟨w.heap.size, 0, none⟩ = some (.int .i64 0) := by
          rw [B.out.cell (p := ⟨w.heap.size, 0, none⟩) (by rw [hz]; simp <;> omega)]; simp [go_sem]
        have k1 : (Lib.bytesWorld ((((w.alloc (.cells #[.int .i64 0] 2)).alloc (.cells #[.int .i64 0] 3)).alloc (.cells #[.int .i64 0] 23)).drewN nd) 5 T).cell? ⟨w.heap.size + 1, 0, none⟩ = some (.int .i64 0) := by
          rw [B.out.cell (p := ⟨w.heap.size + 1, 0, none⟩) (by rw [hz]; simp <;> omega)]; simp [go_sem]
        have k2 : (Lib.bytesWorld ((((w.alloc (.cells #[.int .i64 0] 2)).alloc (.cells #[.int .i64 0] 3)).alloc (.cells #[.int .i64 0] 23)).drewN nd) 5 T).cell? ⟨w.heap.size + 1 + 1, 0, none⟩ = some (.int .i64 0) := by
          rw [B.out.cell (p := ⟨w.heap.size + 1 + 1, 0, none⟩) (by rw [hz]; simp <;> omega)]; simp [go_sem]
        have f0 : (Lib.bytesWorld ((((w.alloc (.cells #[.int .i64 0] 2)).alloc (.cells #[.int .i64 0] 3)).alloc (.cells #[.int .i64 0] 23)).drewN nd) 5 T).frozen? ⟨w.heap.size, 0, none⟩ = false := by
          rw [B.out.frozen (p := ⟨w.heap.size, 0, none⟩) (by rw [hz]; simp <;> omega)]; simp [go_sem]
        have f1 : (Lib.bytesWorld ((((w.alloc (.cells #[.int .i64 0] 2)).alloc (.cells #[.int .i64 0] 3)).alloc (.cells #[.int .i64 0] 23)).drewN nd) 5 T).frozen? ⟨w.heap.size + 1, 0, none⟩ = false := by
          rw [B.out.frozen (p := ⟨w.heap.size + 1, 0, none⟩) (by rw [hz]; simp <;> omega)]; simp [go_sem]
        have f2 : (Lib.bytesWorld ((((w.alloc (.cells #[.int .i64 0] 2)).alloc (.cells #[.int .i64 0] 3)).alloc (.cells #[.int .i64 0] 23)).drewN nd) 5 T).frozen? ⟨w.heap.size + 1 + 1, 0, none⟩ = false := by
          rw [B.out.frozen (p := ⟨w.heap.size + 1 + 1, 0, none⟩) (by rw [hz]; simp <;> omega)]; simp [go_sem]
        have hB : Below w.heap.size w (Lib.bytesWorld ((((w.alloc (.cells #[.int .i64 0] 2)).alloc (.cells #[.int .i64 0] 3)).alloc (.cells #[.int .i64 0] 23)).drewN nd) 5 T) :=
          below_then (belowN ((((Below.refl _ _).alloc (Nat.le_refl _) _).alloc (by simp) _).alloc (by simp; omega) _) nd) (by rw [hz]; omega) B.out
        generalize Lib.bytesWorld ((((w.alloc (.cells #[.int .i64 0] 2)).alloc (.cells #[.int .i64 0] 3)).alloc (.cells #[.int .i64 0] 23)).drewN nd) 5 T = W at k0 k1 k2 f0 f1 f2 hB ⊢
        cases hj : joinV low sg with
        | none =>
          rw [hj] at hr
          obtain ⟨rfl, rfl, rfl⟩ : 0 = r1 ∧ 0 = r2 ∧ 3 = r3 := ⟨congrArg (·.1) hr, congrArg (·.2.1) hr, congrArg (·.2.2) hr⟩
          refine (joined_none low sg _ hj).mono ?_
          rintro e w' ⟨rfl, rfl⟩
          exact read_ends _ w.heap.size 3 w _ rfl rfl rfl rfl k0 k1 k2 f0 f1 f2 (Nat.le_refl _) hB
        | some v =>
          rw [hj] at hr
          obtain ⟨rfl, rfl, rfl⟩ : v = r1 ∧ d = r2 ∧ 0 = r3 := ⟨congrArg (·.1) hr, congrArg (·.2.1) hr, congrArg (·.2.2) hr⟩
          refine (joined_some low sg v _ HA.out.2.1 hj).mono ?_
          rintro e w' ⟨rfl, rfl⟩
          have HB := Lib.hid hB; clear hB
          have HJ := Lib.hid hj; clear hj hr hR
          go_wp2
          have s0 := World.cell?_setCell_same _ _ (v := .int .i64 v) k0
          have s1 : (W.setCell ⟨w.heap.size, 0, none⟩ (.int .i64 v)).cell? ⟨w.heap.size + 1, 0, none⟩ = some (.int .i64 0) := by rw [World.cell?_setCell_far _ _ _ _ (by simp)]; exact k1
          have u1 := World.cell?_setCell_same _ _ (v := .int .i64 d) s1
          have s2 : ((W.setCell ⟨w.heap.size, 0, none⟩ (.int .i64 v)).setCell ⟨w.heap.size + 1, 0, none⟩ (.int .i64 d)).cell? ⟨w.heap.size + 1 + 1, 0, none⟩ = some (.int .i64 0) := by rw [World.cell?_setCell_far _ _ _ _ (by simp <;> omega), World.cell?_setCell_far _ _ _ _ (by simp <;> omega)]; exact k2
          refine read_leaves _ w.heap.size v d w _ rfl rfl rfl ?_ ?_ ?_ ?_
          · rw [World.cell?_setCell_far _ _ _ _ (by simp <;> omega), World.cell?_setCell_far _ _ _ _ (by simp <;> omega)]; exact s0
          · rw [World.cell?_setCell_far _ _ _ _ (by simp <;> omega)]; exact u1
          · exact World.cell?_setCell_same _ _ (v := .int .i64 0) s2
          · exact ((HB.out.setCell (by simp) _).setCell (by simp) _).setCell (by simp <;> omega) _
      | succ k1 =>
        have hcell := Lib.bytesWorld_cell ((((w.alloc (.cells #[.int .i64 0] 2)).alloc (.cells #[.int .i64 0] 3)).alloc (.cells #[.int .i64 0] 23)).drewN nd) 5 T i (by have := HA.out; omega)
        have hi : decide ((i : Int) < (T.size : Int)) = true := decide_eq_true (by have := HA.out; omega)
        have hi2 : decide (i < T.size) = true := decide_eq_true (by have := HA.out; omega)
        have hz : ((((w.alloc (.cells #[.int .i64 0] 2)).alloc (.cells #[.int .i64 0] 3)).alloc (.cells #[.int .i64 0] 23)).drewN nd).heap.size = w.heap.size + 1 + 1 + 1 := by simp
        rw [hz] at hcell
        clear hz
        have HW := Lib.hid (Lib.bytesWorld_below ((((w.alloc (.cells #[.int .i64 0] 2)).alloc (.cells #[.int .i64 0] 3)).alloc (.cells #[.int .i64 0] 23)).drewN nd) 5 T)
        generalize hWg : Lib.bytesWorld ((((w.alloc (.cells #[.int .i64 0] 2)).alloc (.cells #[.int .i64 0] 3)).alloc (.cells #[.int .i64 0] 23)).drewN nd) 5 T = W at hcell HW ⊢
        have HWG := Lib.hid hWg; clear hWg
        have hdi := HDIG.out i (of_decide_eq_true hi2)
        obtain ⟨by_, hby⟩ : ∃ y, (T.data.toList.getD i 0).toNat = y := ⟨_, rfl⟩
        rw [hby] at hcell hdi
        obtain ⟨dg, rfl⟩ : ∃ dg, by_ = dg + 48 := ⟨by_ - 48, by omega⟩
        have hd9 : dg ≤ 9 := by omega
        have hd48 : (((dg + 48 : Nat) : Int) - 48) = (dg : Int) := by omega
        have hadd : ∀ (x : Nat) (W : World), (callFunc 38 #[.int .u64 x, .int .u64 dg, .int .u64 0]).run Tryd.prog W = .ok (.value (.tuple #[.int .u64 (((x + dg + 0) % 18446744073709551616 : Nat) : Int), .int .u64 (((x + dg + 0) / 18446744073709551616 : Nat) : Int)])) W := fun x W => run_add x dg 0 (by decide) W
        clear hdi
        have HDG := Lib.hid hby; clear hby
        have HV := Lib.hid (show digV T (k1 + 1) i low = if low * 10 + dg < 18446744073709551616 then digV T k1 (i + 1) (low * 10 + dg) else none by rw [digV, HDG.out]; simp)
        have hi3 : i < T.size := of_decide_eq_true hi2
        have hm : ∀ W, Calls Tryd.prog 37 #[.int .u64 low, .int .u64 10] W fun e w' => e = .returned (.tuple #[.int .u64 ((low * 10 / 18446744073709551616 : Nat) : Int), .int .u64 ((low * 10 % 18446744073709551616 : Nat) : Int)]) ∧ w' = W := fun W => Tryd.bits_Mul64 low 10 HA.out.2.1 (by decide) W
        have HM := Lib.hid hm
        clear hm
        obtain ⟨mh, hmh⟩ : ∃ y, low * 10 / 18446744073709551616 = y := ⟨_, rfl⟩
        obtain ⟨ml, hml⟩ : ∃ y, low * 10 % 18446744073709551616 = y := ⟨_, rfl⟩
        rw [hmh, hml] at HM
        have HML := Lib.hid (And.intro hmh hml); clear hmh hml
        go_wp2_with fail
        refine (HM.out _).mono ?_
        rintro e w' ⟨rfl, rfl⟩
        go_wp2_with fail
        cases ht : (IntKind.u64.wrap ((mh : Int) + ((ml : Int) + (dg : Int)) / 18446744073709551616) != 0) with
        | true =>
          refine (wrong_yes _ _).mono ?_
          rintro e w' ⟨rfl, rfl⟩
          have hnone : digV T T.size 0 0 = none := by
            rw [← HA.out.2.2, HV.out, if_neg]
            have h1 := HML.out.1
            have h2 := HML.out.2
            intro h3
            have : mh = 0 := by omega
            subst this
            have : low * 10 = ml := by omega
            have e0 : ((0 : Nat) : Int) + ((ml : Int) + (dg : Int)) / 18446744073709551616 = 0 := by omega
            rw [e0] at ht
            exact absurd ht (by decide)
          have hr := HRES.out
          rw [hnone] at hr
          simp only [resV, Option.bind_none] at hr
          obtain ⟨rfl, rfl, rfl⟩ : 0 = r1 ∧ 0 = r2 ∧ 3 = r3 := by
            refine ⟨congrArg (·.1) hr, congrArg (·.2.1) hr, congrArg (·.2.2) hr⟩
          have B := HW.out
          have hz : ((((w.alloc (.cells #[.int .i64 0] 2)).alloc (.cells #[.int .i64 0] 3)).alloc (.cells #[.int .i64 0] 23)).drewN nd).heap.size = w.heap.size + 1 + 1 + 1 := by simp
          refine read_ends _ w.heap.size 3 w w' rfl rfl rfl rfl ?_ ?_ ?_ ?_ ?_ ?_ (Nat.le_refl _) ?_
          · rw [B.cell (p := ⟨w.heap.size, 0, none⟩) (by rw [hz]; simp <;> omega)]; simp [go_sem]
          · rw [B.cell (p := ⟨w.heap.size + 1, 0, none⟩) (by rw [hz]; simp <;> omega)]; simp [go_sem]
          · rw [B.cell (p := ⟨w.heap.size + 1 + 1, 0, none⟩) (by rw [hz]; simp <;> omega)]; simp [go_sem]
          · rw [B.frozen (p := ⟨w.heap.size, 0, none⟩) (by rw [hz]; simp <;> omega)]; simp [go_sem]
          · rw [B.frozen (p := ⟨w.heap.size + 1, 0, none⟩) (by rw [hz]; simp <;> omega)]; simp [go_sem]
          · rw [B.frozen (p := ⟨w.heap.size + 1 + 1, 0, none⟩) (by rw [hz]; simp <;> omega)]; simp [go_sem]
          · exact below_then (belowN ((((Below.refl _ _).alloc (Nat.le_refl _) _).alloc (by simp) _).alloc (by simp; omega) _) nd) (by rw [hz]; omega) B
        | false =>
          refine (wrong_no _ _).mono ?_
          rintro e w' ⟨rfl, rfl⟩
          have HT := Lib.hid ht; clear ht
          go_wp2
          go_roundg k1
          case measure => omega
          case rel =>
            have hlt : low * 10 + dg < 18446744073709551616 ∧ (ml + dg) % 18446744073709551616 = low * 10 + dg := by
              have h1 := HML.out.1
              have h2 := HML.out.2
              have h3 := HT.out
              have h4 := HA.out.2.1
              rw [wmod] at h3
              simp only [bne_eq_false_iff_eq] at h3
              omega
            refine ⟨low * 10 + dg, i + 1, ?_, ?_, ⟨⟨?_, hlt.1, ?_⟩⟩, ?_⟩
            · rw [← hlt.2]; simp
            · simp
            · have := HA.out.1; omega
            · rw [← HA.out.2.2, HV.out, if_pos hlt.1]
            · exact HWG.out.symm
end Go.Proofs.YtgodmbcebpbdiaaDoor.G
end

/- dec.Read as a Lean function for print. -/
section
set_option linter.unusedVariables false
set_option linter.unusedSimpArgs false
namespace Go.Proofs.YtgodmbcebpbdiaaDoor.G
open Go.RowKit Go.Proofs.YtgodmbcebpbdiaaDoorW.PrintWords Go.Proofs.YtgodmbcebpbdiaaDoorW.PrintLast Go.Proofs.YtgodmbcebpbdiaaDoorW.PrintMore Go.Proofs.YtgodmbcebpbdiaaDoor.Q1
def six : ByteArray := ⟨#[48, 48, 48, 48, 48, 48]⟩
/-- The text of the figures of a numeral: six behind its point. -/
def numT (s : ByteArray) (b c d : Int) : ByteArray :=
  s.extract b.toNat c.toNat ++ (if c < d then (s.extract (c + 1).toNat d.toNat ++ ⟨#[48, 48, 48, 48, 48, 48]⟩).extract 0 6 else ((⟨#[]⟩ : ByteArray) ++ ⟨#[48, 48, 48, 48, 48, 48]⟩).extract 0 6)
def minus (s : ByteArray) (a : Int) : Bool := if h : a.toNat < s.size then (((s[a.toNat]'h).toNat : Int) == 45) else false
def readV (s : ByteArray) (a b c d : Int) : Option (Int × Int × Int) :=
  if c = b ∧ d ≤ wrap64 (c + 1) then some (0, 0, 2)
  else if (0 ≤ a ∧ a < s.size ∧ 0 ≤ b ∧ b ≤ c ∧ c ≤ d ∧ d ≤ s.size ∧ s.size ≤ 281474976710656 ∧ (numT s b c d).size ≤ 1125899906842624) ∧ ∀ i, i < (numT s b c d).size → 48 ≤ ((numT s b c d).data.toList.getD i 0).toNat ∧ ((numT s b c d).data.toList.getD i 0).toNat ≤ 57
  then some (resV (digV (numT s b c d) (numT s b c d).size 0 0) (minus s a) d) else none
theorem readV_calls (s : ByteArray) (a b c d r1 r2 r3 : Int) (w : World)
    (hs : ∀ w, Calls Tryd.prog 35 #[.string s] w fun e w' => e = .returned (.tuple #[.int .i64 a, .int .i64 b, .int .i64 c, .int .i64 d]) ∧ Drawn0 w w')
    (h : readV s a b c d = some (r1, r2, r3)) :
    Calls Tryd.prog 13 #[.string s] w fun x w' => x = .returned (.tuple #[.int .i64 r1, .int .i64 r2, .int .i64 r3]) ∧ Below w.heap.size w w' := by
  unfold readV at h
  by_cases hf : c = b ∧ d ≤ wrap64 (c + 1)
  · rw [if_pos hf] at h
    have h := Option.some.inj h
    obtain ⟨rfl, rfl, rfl⟩ : 0 = r1 ∧ 0 = r2 ∧ 2 = r3 := ⟨congrArg (·.1) h, congrArg (·.2.1) h, congrArg (·.2.2) h⟩
    exact read_form s a b c d w hs (by simp [hf.1]) (decide_eq_true hf.2)
  · rw [if_neg hf] at h
    by_cases hg : (0 ≤ a ∧ a < s.size ∧ 0 ≤ b ∧ b ≤ c ∧ c ≤ d ∧ d ≤ s.size ∧ s.size ≤ 281474976710656 ∧ (numT s b c d).size ≤ 1125899906842624) ∧ ∀ i, i < (numT s b c d).size → 48 ≤ ((numT s b c d).data.toList.getD i 0).toNat ∧ ((numT s b c d).data.toList.getD i 0).toNat ≤ 57
    · rw [if_pos hg] at h
      have hr := Option.some.inj h
      obtain ⟨⟨a0, a1, b0, bc, cd, ds, hsz, hTz⟩, hdig⟩ := hg
      have hc : wrap64 (c + 1) = c + 1 := wrapFit (by omega) (by omega)
      have hsg : ∀ h : a.toNat < s.size, (((s[a.toNat]'h).toNat : Int) == 45) = minus s a := fun h => by rw [minus, dif_pos h]
      rw [hc] at hf
      by_cases h3 : c < d
      · have hT : s.extract b.toNat c.toNat ++ (s.extract (c + 1).toNat d.toNat ++ ⟨#[48, 48, 48, 48, 48, 48]⟩).extract 0 6 = numT s b c d := by rw [numT, if_pos h3]
        by_cases h1 : c = b
        · subst h1
          exact read_dot s a c d w hs (decide_eq_false (by omega)) (decide_eq_true h3) b0 bc (by omega) ds hsz hc _ hdig a0 a1 _ hsg hTz r1 r2 r3 hr (by rw [← hT]; simp)
        · exact read_mid s a b c d w hs (by simp [h1]) (decide_eq_true h3) b0 bc (by omega) ds hsz hc _ hdig a0 a1 _ hsg hTz r1 r2 r3 hr hT
      · have hT : s.extract b.toNat c.toNat ++ ((⟨#[]⟩ : ByteArray) ++ ⟨#[48, 48, 48, 48, 48, 48]⟩).extract 0 6 = numT s b c d := by rw [numT, if_neg h3]
        exact read_whole s a b c d w hs (by simp; intro h1; exact hf ⟨h1, by omega⟩) (decide_eq_false h3) b0 bc cd ds hsz hc _ hdig a0 a1 _ hsg hTz r1 r2 r3 hr hT
    · rw [if_neg hg] at h; cases h
end Go.Proofs.YtgodmbcebpbdiaaDoor.G
end

/- dec.Read for print. -/
section
set_option linter.unusedVariables false
namespace Go.Proofs.YtgodmbcebpbdiaaDoor.G
open Go.RowKit Go.Proofs.YtgodmbcebpbdiaaDoorW.PrintWords Go.Proofs.YtgodmbcebpbdiaaDoorW.PrintLast Go.Proofs.YtgodmbcebpbdiaaDoor.Q1
def dec_Read.f (s : ByteArray) : Option (Int × Int × Int) := (dec_span.f (3 * s.size + 20) s).bind fun t => readV s t.1 t.2.1 t.2.2.1 t.2.2.2
theorem dec_Read.calls (s : ByteArray) (r1 r2 r3 : Int) (w : World) (h : dec_Read.f s = some (r1, r2, r3)) :
    Calls Tryd.prog 13 #[.string s] w fun x w' => x = .returned (.tuple #[.int .i64 r1, .int .i64 r2, .int .i64 r3]) ∧ Below w.heap.size w w' := by
  unfold dec_Read.f at h
  cases hq : dec_span.f (3 * s.size + 20) s with
  | none => rw [hq] at h; cases h
  | some t =>
    obtain ⟨a, b, c, d⟩ := t
    rw [hq] at h
    exact readV_calls s a b c d r1 r2 r3 w (fun w => dec_span.calls _ s a b c d w hq) h
end Go.Proofs.YtgodmbcebpbdiaaDoor.G
end
