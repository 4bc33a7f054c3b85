/- Package arith: what a node comes to, walked. -/
import Derived.Test.YtambnodgfhlpfaaDoorJRJ
import Derived.Test.YtambnodgfhlpfaaDoorJRE
import Derived.Lib.ParseIntBTie
set_option linter.unusedVariables false
set_option linter.unusedSimpArgs false
namespace Go.Proofs.YtambnodgfhlpfaaDoor.A
open Go.RowKit Go.Proofs.YtambnodgfhlpfaaDoorW.PrintWords Go.Proofs.YtambnodgfhlpfaaDoorW.PrintLast Go.Proofs.YtambnodgfhlpfaaDoor.G Go.Proofs.YtambnodgfhlpfaaDoor.QA

def I64 (n : Int) : Prop := -9223372036854775808 ≤ n ∧ n ≤ 9223372036854775807
/-- Its numbers are of 64 bits, its names have bytes. -/
def NodeOk : Node → Prop
  | .num n => I64 n
  | .name t => 0 < t.size
  | .un _ a => NodeOk a
  | .bin _ a b => NodeOk a ∧ NodeOk b
theorem yes_I64 (b : Bool) : I64 (yesV b) := by cases b <;> (unfold I64 yesV; decide)
theorem wrap_I64 (n : Int) : I64 (wrap64 n) := by unfold I64 wrap64; omega
theorem parse_I64 {s : ByteArray} {v : Int} (h : parseV s = some v) : I64 v := by
  have h' : Lib.parseIntB 64 s.data.toList = .ok v := by unfold parseV at h; split at h <;> simp_all
  have := Lib.parseIntB_bounds h'
  have e : (2 : Nat) ^ (64 - 1) = 9223372036854775808 := by decide
  rw [e] at this
  unfold I64
  omega
theorem whole_I64 (s : ByteArray) : I64 (wholeV s).1 := by
  unfold wholeV
  split
  · unfold I64; decide
  · split
    · rename_i h; exact parse_I64 h
    · unfold I64; decide
theorem two_I64 {m : Bop} {a b v : Int} (ha : I64 a) (hb : I64 b) (h : twoV m a b = .ok v) : I64 v := by
  unfold twoV at h
  cases m <;> simp only at h
  case div =>
    split at h
    · cases h
    · obtain rfl := Except.ok.inj h; exact wrap_I64 _
  case mod =>
    split at h
    · cases h
    · obtain rfl := Except.ok.inj h
      rename_i hb0
      unfold I64 at *
      have h1 := Int.tmod_lt_of_pos a (show (0 : Int) < (b.natAbs : Int) by omega)
      have h2 : a.tmod b = a.tmod (b.natAbs : Int) := by
        rcases Int.natAbs_eq b with e | e
        · rw [← e]
        · rw [show a.tmod b = a.tmod (-(b.natAbs : Int)) by rw [← e], Int.tmod_neg]
      have h3 : -(b.natAbs : Int) < a.tmod (b.natAbs : Int) := Int.lt_tmod_of_pos a (show (0 : Int) < (b.natAbs : Int) by omega)
      omega
  all_goals (obtain rfl := Except.ok.inj h; first | exact yes_I64 _ | exact wrap_I64 _)
theorem one_I64 {m : Uop} {a : Int} (ha : I64 a) : I64 (oneV m a) := by
  cases m
  · exact wrap_I64 _
  · exact ha
  · exact yes_I64 _
theorem valueOf_I64 {l : Vars} {t : ByteArray} {v : Int} (h : valueOfV l t = .ok v) : I64 v := by
  unfold valueOfV at h
  split at h
  · obtain rfl := Except.ok.inj h; unfold I64; decide
  · split at h
    · obtain rfl := Except.ok.inj h; exact whole_I64 _
    · cases h
theorem value_I64 {l : Vars} : ∀ {nd : Node} {v : Int}, NodeOk nd → valueV l nd = .ok v → I64 v
  | .num n, v, hok, h => by obtain rfl := Except.ok.inj h; exact hok
  | .name t, v, _, h => valueOf_I64 h
  | .un m a, v, hok, h => by
    rw [valueV] at h
    cases ha : valueV l a with
    | error e => rw [ha] at h; cases h
    | ok x => rw [ha] at h; obtain rfl := Except.ok.inj h; exact one_I64 (value_I64 (nd := a) hok ha)
  | .bin m a b, v, hok, h => by
    rw [valueV] at h
    cases ha : valueV l a with
    | error e => rw [ha] at h; cases h
    | ok x =>
      rw [ha] at h
      dsimp only at h
      split at h
      · obtain rfl := Except.ok.inj h; exact yes_I64 _
      · cases hb : valueV l b with
        | error e => rw [hb] at h; cases h
        | ok y => rw [hb] at h; exact two_I64 (value_I64 (nd := a) hok.1 ha) (value_I64 (nd := b) hok.2 hb) h

theorem two_err {m : Bop} {a b x : Int} (h : twoV m a b = .error x) : (m = .div ∨ m = .mod) ∧ b = 0 ∧ x = 4 := by
  unfold twoV at h
  cases m <;> simp only at h
  case div =>
    split at h
    · rename_i hb; exact ⟨.inl rfl, hb, (Except.error.inj h).symm⟩
    · cases h
  case mod =>
    split at h
    · rename_i hb; exact ⟨.inr rfl, hb, (Except.error.inj h).symm⟩
    · cases h
  all_goals cases h
/-- What the last region of 'value' reads. -/
def Held (bx : Nat) (ms : ByteArray) (b : Nat) (zm : ByteArray) (zA : Option Addr) (zn zc : Nat) (zi : Int) (zt : ByteArray) (W : World) : Prop :=
  W.cell? ⟨bx, 0, none⟩ = some (.string ms) ∧ W.cell? ⟨bx, 1, none⟩ = some (.slice (some ⟨b, 0, none⟩) 2 2) ∧ W.cell? ⟨b, 4, none⟩ = some (.string zm) ∧ W.cell? ⟨b, 5, none⟩ = some (.slice zA zn zc) ∧ W.cell? ⟨b, 6, none⟩ = some (.int .i64 zi) ∧ W.cell? ⟨b, 7, none⟩ = some (.string zt)
theorem held_of {bx : Nat} {ms : ByteArray} {b : Nat} {zm : ByteArray} {zA : Option Addr} {zn zc : Nat} {zi : Int} {zt : ByteArray} {x2 x3 y0 y1 y2 y3 : Value} {W : World} (h : W.heap[bx]? = some (.cells #[.string ms, .slice (some ⟨b, 0, none⟩) 2 2, x2, x3] 55 (0, 0)))
    (h2 : W.heap[b]? = some (.cells #[y0, y1, y2, y3, .string zm, .slice zA zn zc, .int .i64 zi, .string zt] 55 (0, 0))) : Held bx ms b zm zA zn zc zi zt W :=
  ⟨(blk_cell h 0).trans rfl, (blk_cell h 1).trans rfl, (blk_cell h2 4).trans rfl, (blk_cell h2 5).trans rfl, (blk_cell h2 6).trans rfl, (blk_cell h2 7).trans rfl⟩
/-- What a call of a function that gives up, or returns a number, comes to. -/
def Num (w : World) (r : Except Int Int) (e : Ending) (w' : World) : Prop :=
  match r with
  | .error x => e = .panicked [fault x] ∧ Below w.heap.size w w'
  | .ok v => e = .returned (.int .i64 v) ∧ Below w.heap.size w w'
section
variable (A : Option Addr) (c : Nat) (l : Vars) (hl : l.length ≤ 140737488355328) (hf : Fit l)
theorem valueOf_calls (hl : l.length ≤ 140737488355328) (hf : Fit l) (t : ByteArray) (w : World) (hr : Kd.C k39 w A l.length l) (hg : GE w) : Calls Tryd.prog 39 #[.slice A l.length c, .string t] w (Num w (valueOfV l t)) := by
  cases h : valueOfV l t with
  | error x => exact valueOf_err A c l t w hr hl hf hg x h
  | ok v => exact valueOf_ok A c l t w hr hl hf hg v h
/-- What is known of a node's kids. -/
def ValC (nd : Node) : Prop := ∀ (w : World) (ok : Nat → Prop) (v : Value), NodeAt w ok nd v → Kd.C k39 w A l.length l → GE w → Calls Tryd.prog 26 #[v, .slice A l.length c] w (Num w (valueV l nd))
set_option maxHeartbeats 2000000 in
set_option maxRecDepth 100000 in
theorem val_num (n : Int) : ValC A c l (.num n) := by
  intro w ok v hn hr hg
  obtain rfl := hn
  go_enter Tryd.func26, Tryd.ntmps26
  go_wp2_with fail
  go_ret
  exact ⟨rfl, (Below.refl _ _).alloc (Nat.le_refl _) _⟩
set_option maxHeartbeats 2000000 in
set_option maxRecDepth 100000 in
theorem val_name (hl : l.length ≤ 140737488355328) (hf : Fit l) (t : ByteArray) (ht : 0 < t.size) : ValC A c l (.name t) := by
  intro w ok v hn hr hg
  obtain rfl := hn
  have HR := Lib.hid hr; clear hr
  have HG := Lib.hid hg; clear hg
  have HF := Lib.hid hf; clear hf
  have hne := toList_ne_of _ ht
  have hne1 : (t.toList == ([] : List UInt8)) = false := beq_eq_false_iff_ne.mpr hne
  have hne2 : (t.toList != ([] : List UInt8)) = true := bne_iff_ne.mpr hne
  have hb := (Below.refl w.heap.size w).alloc (Nat.le_refl _) (.cells #[.string ⟨#[]⟩, .slice none 0 0, .int .i64 0, .string t] 55)
  have HB := Aside0.mk hb
  clear hb
  go_enter Tryd.func26, Tryd.ntmps26
  go_wp2_with fail
  refine (valueOf_calls A c l hl HF.out t _ (Kd.C_below HR.out HB.out) (HG.out.below HB.out)).mono ?_
  cases hv : valueOfV l t with
  | error x =>
    rintro e w2 ⟨rfl, hb2⟩
    exact ⟨rfl, by rw [show valueV l (.name t) = valueOfV l t from rfl, hv]; exact ⟨rfl, below_then HB.out HB.out.size hb2⟩⟩
  | ok v =>
    rintro e w2 ⟨rfl, hb2⟩
    have HB2 := Aside0.mk (below_then HB.out HB.out.size hb2)
    have HV := Aside0.mk hv
    clear hb2 hv
    go_wp2_with fail
    go_ret
    rw [show valueV l (.name t) = valueOfV l t from rfl, HV.out]
    exact ⟨rfl, HB2.out⟩
set_option maxHeartbeats 2000000 in
set_option maxRecDepth 100000 in
theorem val_un (m : Uop) (a : Node) (ha : ValC A c l a) (hok : NodeOk a) : ValC A c l (.un m a) := by
  intro w ok v hn hr hg
  obtain ⟨b, x0, x1, x2, x3, rfl, hob, hbl, hna⟩ := hn
  obtain ⟨ym, yA, yn, yc, yi, yt, hy⟩ := hna.form
  obtain ⟨rfl, rfl, rfl, rfl⟩ : x0 = .string ym ∧ x1 = .slice yA yn yc ∧ x2 = .int .i64 yi ∧ x3 = .string yt := by simpa using hy
  clear hy
  have HR := Lib.hid hr; clear hr
  have HG := Lib.hid hg; clear hg
  have HA := Lib.hid ha; clear ha
  have HK := Lib.hid hok; clear hok
  have hb := (Below.refl w.heap.size w).alloc (Nat.le_refl _) (.cells #[.string m.str, .slice (some ⟨b, 0, none⟩) 1 1, .int .i64 0, .string ⟨#[]⟩] 55)
  have HB := Aside0.mk hb
  have HN := Aside0.mk (hna.step (W' := w.alloc (.cells #[.string m.str, .slice (some ⟨b, 0, none⟩) 1 1, .int .i64 0, .string ⟨#[]⟩] 55)) (ok' := ok) fun b hb' hlt => ⟨hb', hb.block b hlt⟩)
  have HBL := Aside0.mk (blk_below hbl hb)
  clear hb hna hob hbl
  obtain ⟨c0, c1, c2, c3, _, _, _, _⟩ := four_cells HBL.out
  cases m
  all_goals
    (unfold Uop.str
     unfold Uop.str at HB HN HBL c0 c1 c2 c3
     go_enter Tryd.func26, Tryd.ntmps26
     go_wp2_with fail
     refine (HA.out _ ok _ HN.out (Kd.C_below HR.out HB.out) (HG.out.below HB.out)).mono ?_
     cases hv : valueV l a with
     | error x =>
       rintro e w2 ⟨rfl, hb2⟩
       exact ⟨rfl, by rw [valueV, hv]; exact ⟨rfl, below_then HB.out HB.out.size hb2⟩⟩
     | ok v =>
       rintro e w2 ⟨rfl, hb2⟩
       have HB2 := Aside0.mk (below_then HB.out HB.out.size hb2)
       have HI := value_I64 HK.out hv
       have HV := Aside0.mk hv
       have hb0 := blk_below (blk_new w _) hb2
       clear hb2 hv
       obtain ⟨e0, e1, e2, e3, _, _, _, _⟩ := four_cells hb0
       obtain ⟨i0, i1⟩ := HI
       go_wp2_with (go_at_call 40; refine (yes_calls _ _).mono ?_; rintro e w' ⟨rfl, rfl⟩)
       go_ret
       rw [valueV, HV.out]
       exact ⟨rfl, HB2.out⟩)
theorem eight_cells {W : World} {b : Nat} {x0 x1 x2 x3 x4 x5 x6 x7 : Value} (h : W.heap[b]? = some (.cells #[x0, x1, x2, x3, x4, x5, x6, x7] 55 (0, 0))) :
    W.cell? ⟨b, 0, none⟩ = some x0 ∧ W.cell? ⟨b, 1, none⟩ = some x1 ∧ W.cell? ⟨b, 2, none⟩ = some x2 ∧ W.cell? ⟨b, 3, none⟩ = some x3 ∧ W.cell? ⟨b, 4, none⟩ = some x4 ∧ W.cell? ⟨b, 5, none⟩ = some x5 ∧ W.cell? ⟨b, 6, none⟩ = some x6 ∧ W.cell? ⟨b, 7, none⟩ = some x7 :=
  ⟨(blk_cell h 0).trans rfl, (blk_cell h 1).trans rfl, (blk_cell h 2).trans rfl, (blk_cell h 3).trans rfl, (blk_cell h 4).trans rfl, (blk_cell h 5).trans rfl, (blk_cell h 6).trans rfl, (blk_cell h 7).trans rfl⟩
set_option maxHeartbeats 8000000 in
set_option maxRecDepth 100000 in
theorem val_bin (m : Bop) (a d : Node) (ha : ValC A c l a) (hd : ValC A c l d) (hoka : NodeOk a) (hokd : NodeOk d) : ValC A c l (.bin m a d) := by
  intro w ok v hn hr hg
  obtain ⟨b, x0, x1, x2, x3, y0, y1, y2, y3, rfl, hob, hbl, hna, hnd⟩ := hn
  obtain ⟨ym, yA, yn, yc, yi, yt, hy⟩ := hna.form
  obtain ⟨zm, zA, zn, zc, zi, zt, hz⟩ := hnd.form
  obtain ⟨rfl, rfl, rfl, rfl⟩ : x0 = .string ym ∧ x1 = .slice yA yn yc ∧ x2 = .int .i64 yi ∧ x3 = .string yt := by simpa using hy
  obtain ⟨rfl, rfl, rfl, rfl⟩ : y0 = .string zm ∧ y1 = .slice zA zn zc ∧ y2 = .int .i64 zi ∧ y3 = .string zt := by simpa using hz
  clear hy hz
  have HR := Lib.hid hr; clear hr
  have HG := Lib.hid hg; clear hg
  have HA := Lib.hid ha; clear ha
  have HD := Lib.hid hd; clear hd
  have HKA := Lib.hid hoka; clear hoka
  have HKD := Lib.hid hokd; clear hokd
  have hne := str_ne m
  have hne1 : (m.str.toList == ([] : List UInt8)) = false := beq_eq_false_iff_ne.mpr hne
  have hne2 : (m.str.toList != ([] : List UInt8)) = true := bne_iff_ne.mpr hne
  have hb := (Below.refl w.heap.size w).alloc (Nat.le_refl _) (.cells #[.string m.str, .slice (some ⟨b, 0, none⟩) 2 2, .int .i64 0, .string ⟨#[]⟩] 55)
  have HB := Aside0.mk hb
  have HN := Aside0.mk (hna.step (W' := w.alloc (.cells #[.string m.str, .slice (some ⟨b, 0, none⟩) 2 2, .int .i64 0, .string ⟨#[]⟩] 55)) (ok' := ok) fun b hb' hlt => ⟨hb', hb.block b hlt⟩)
  have HND := Aside0.mk (hnd.step (W' := w.alloc (.cells #[.string m.str, .slice (some ⟨b, 0, none⟩) 2 2, .int .i64 0, .string ⟨#[]⟩] 55)) (ok' := ok) fun b hb' hlt => ⟨hb', hb.block b hlt⟩)
  have HBL := Aside0.mk (blk_below hbl hb)
  have HBX := Aside0.mk (blk_new w (.cells #[.string m.str, .slice (some ⟨b, 0, none⟩) 2 2, .int .i64 0, .string ⟨#[]⟩] 55))
  clear hb hna hnd hob hbl
  obtain ⟨c0, c1, c2, c3, _, _, _, _⟩ := eight_cells HBL.out
  generalize hms : m.str = ms at *
  have HMS := Aside0.mk hms
  clear hms
  go_enter Tryd.func26, Tryd.ntmps26
  go_wp2_with fail
  generalize w.alloc _ = W1 at *
  refine (HA.out _ ok _ HN.out (Kd.C_below HR.out HB.out) (HG.out.below HB.out)).mono ?_
  cases hv : valueV l a with
  | error x =>
    rintro e w2 ⟨rfl, hb2⟩
    exact ⟨rfl, by rw [valueV, hv]; exact ⟨rfl, below_then HB.out HB.out.size hb2⟩⟩
  | ok v =>
    rintro e w2 ⟨rfl, hb2⟩
    have HB2 := Aside0.mk (below_then HB.out HB.out.size hb2)
    have HND2 := Aside0.mk (HND.out.step (W' := w2) (ok' := ok) fun b hb' hlt => ⟨hb', hb2.block b hlt⟩)
    have HBL2 := Aside0.mk (blk_below HBL.out hb2)
    have HBX2 := Aside0.mk (blk_below HBX.out hb2)
    have HI := value_I64 HKA.out hv
    have HII := Aside0.mk HI
    have HV := Aside0.mk hv
    clear hb2 hv HB HN HND HBL HBX c0 c1 c2 c3
    obtain ⟨i0, i1⟩ := HI
    obtain ⟨e0, e1, e2, e3, _, _, _, _⟩ := four_cells HBX2.out
    by_cases hs1 : m = .lor ∧ v ≠ 0
    · obtain ⟨rfl, hv0⟩ := hs1
      obtain rfl : ms = ⟨#[124, 124]⟩ := HMS.out.symm
      have hv1 : (v != 0) = true := by simpa using hv0
      have hv2 : (v == 0) = false := by simpa using hv0
      have HE := Aside0.mk (show valueV l (.bin .lor a d) = .ok (yesV true) by rw [valueV, HV.out]; dsimp only; rw [if_pos (.inl ⟨rfl, hv0⟩), hv1])
      clear hv0
      go_wp2_with (go_at_call 40; refine (yes_calls _ _).mono ?_; rintro e w' ⟨rfl, rfl⟩)
      go_ret
      rw [HE.out]
      exact ⟨rfl, HB2.out⟩
    · by_cases hs2 : m = .land ∧ v = 0
      · obtain ⟨rfl, rfl⟩ := hs2
        obtain rfl : ms = ⟨#[38, 38]⟩ := HMS.out.symm
        have HE := Aside0.mk (show valueV l (.bin .land a d) = .ok (yesV false) by rw [valueV, HV.out]; dsimp only; rw [if_pos (.inr ⟨rfl, rfl⟩)]; rfl)
        go_wp2_with (go_at_call 40; refine (yes_calls _ _).mono ?_; rintro e w' ⟨rfl, rfl⟩)
        go_ret
        rw [HE.out]
        exact ⟨rfl, HB2.out⟩
      · have HE := Aside0.mk (show valueV l (.bin m a d) = (match valueV l d with | .error e => .error e | .ok y => twoV m v y) by rw [valueV, HV.out]; dsimp only; rw [if_neg (by rintro (h | h); exact hs1 h; exact hs2 h)]; rfl)
        have hsc : (m = .lor ∧ v = 0) ∨ (m = .land ∧ v ≠ 0) ∨ (m ≠ .lor ∧ m ≠ .land) := by
          by_cases h1 : m = .lor
          · exact .inl ⟨h1, by by_cases h : v = 0; exact h; exact absurd ⟨h1, h⟩ hs1⟩
          · by_cases h2 : m = .land
            · exact .inr (.inl ⟨h2, fun h => hs2 ⟨h2, h⟩⟩)
            · exact .inr (.inr ⟨h1, h2⟩)
        clear hs1 hs2
        rcases hsc with ⟨rfl, rfl⟩ | ⟨rfl, hv0⟩ | ⟨hm1, hm2⟩
        · obtain rfl : ms = ⟨#[124, 124]⟩ := HMS.out.symm
          go_wp2_with fail
          have HB3 := Aside0.mk (show Below w.heap.size w w2.drew from below_drew HB2.out)
          have HND3 := Aside0.mk (HND2.out.step (W' := w2.drew) (ok' := ok) fun b hb' _ => ⟨hb', rfl⟩)
          clear e0 e1 e2 e3
          cases hvd : valueV l d with
          | error x =>
            have HVD := Aside0.mk hvd; clear hvd
            refine wp_region_held_drew (S := Held w.heap.size ⟨#[124, 124]⟩ b zm zA zn zc zi zt) (by kernel_rfl) (held_of (W := w2.drew) HBX2.out HBL2.out) (fun hHeld => ?_)
            refine wpAnyH_take (i := 0) (oi := { dst := some 61, op := Go.Op.fieldAddr 55 (Go.Operand.tmp 2) 0, type := 0, pos := "arith.go:174", after := #[], guard := none }) (v := .pointer (some ⟨w.heap.size, 0, none⟩)) rfl (by kernel_rfl) (by kernel_rfl) (by kernel_rfl) (fun _ _ _ h => h) (Or.inl ⟨by kernel_rfl, ?_⟩) (by assumption) ?_
            · (intro w hSw; unfold Held at hSw; (try dsimp only at hSw); go_simp)
            try simp only [Act.put, List.setIfInBounds_toArray, List.set_cons_zero, List.set_cons_succ]
            refine wpAnyH_take (i := 1) (oi := { dst := some 62, op := Go.Op.load 9 (Go.Operand.tmp 61), type := 9, pos := "arith.go:174", after := #[{ on := 0, ground := Go.Ground.data }], guard := none }) (v := .string ⟨#[124, 124]⟩) rfl (by kernel_rfl) (by kernel_rfl) (by kernel_rfl) (fun _ _ _ h => h) (Or.inl ⟨by kernel_rfl, ?_⟩) (by assumption) ?_
            · (intro w hSw; unfold Held at hSw; (try dsimp only at hSw); go_simp)
            try simp only [Act.put, List.setIfInBounds_toArray, List.set_cons_zero, List.set_cons_succ]
            refine wpAnyH_take (i := 2) (oi := { dst := some 63, op := Go.Op.move (Go.Operand.tmp 5), type := 2, pos := "arith.go:174", after := #[], guard := none }) (v := .int .i64 0) rfl (by kernel_rfl) (by kernel_rfl) (by kernel_rfl) (fun _ _ _ h => h) (Or.inl ⟨by kernel_rfl, ?_⟩) (by assumption) ?_
            · (intro w hSw; unfold Held at hSw; (try dsimp only at hSw); go_simp)
            try simp only [Act.put, List.setIfInBounds_toArray, List.set_cons_zero, List.set_cons_succ]
            refine wpAnyH_take (i := 3) (oi := { dst := some 64, op := Go.Op.fieldAddr 55 (Go.Operand.tmp 2) 1, type := 0, pos := "arith.go:174", after := #[], guard := none }) (v := .pointer (some ⟨w.heap.size, 1, none⟩)) rfl (by kernel_rfl) (by kernel_rfl) (by kernel_rfl) (fun _ _ _ h => h) (Or.inl ⟨by kernel_rfl, ?_⟩) (by assumption) ?_
            · (intro w hSw; unfold Held at hSw; (try dsimp only at hSw); go_simp)
            try simp only [Act.put, List.setIfInBounds_toArray, List.set_cons_zero, List.set_cons_succ]
            refine wpAnyH_take (i := 4) (oi := { dst := some 65, op := Go.Op.load 53 (Go.Operand.tmp 64), type := 53, pos := "arith.go:174", after := #[{ on := 3, ground := Go.Ground.data }], guard := none }) (v := .slice (some ⟨b, 0, none⟩) 2 2) rfl (by kernel_rfl) (by kernel_rfl) (by kernel_rfl) (fun _ _ _ h => h) (Or.inl ⟨by kernel_rfl, ?_⟩) (by assumption) ?_
            · (intro w hSw; unfold Held at hSw; (try dsimp only at hSw); go_simp)
            try simp only [Act.put, List.setIfInBounds_toArray, List.set_cons_zero, List.set_cons_succ]
            refine wpAnyH_take (i := 5) (oi := { dst := some 66, op := Go.Op.indexAddr 53 (Go.Operand.tmp 65) (Go.Operand.const (Go.Value.int Go.IntKind.i64 1)), type := 0, pos := "arith.go:174", after := #[{ on := 4, ground := Go.Ground.data }], guard := none }) (v := .pointer (some ⟨b, 4, none⟩)) rfl (by kernel_rfl) (by kernel_rfl) (by kernel_rfl) (fun _ _ _ h => h) (Or.inl ⟨by kernel_rfl, ?_⟩) (by assumption) ?_
            · (intro w hSw; unfold Held at hSw; (try dsimp only at hSw); go_simp)
            try simp only [Act.put, List.setIfInBounds_toArray, List.set_cons_zero, List.set_cons_succ]
            refine wpAnyH_take (i := 6) (oi := { dst := some 67, op := Go.Op.load 55 (Go.Operand.tmp 66), type := 55, pos := "arith.go:174", after := #[{ on := 5, ground := Go.Ground.data }], guard := none }) (v := .agg #[.string zm, .slice zA zn zc, .int .i64 zi, .string zt]) rfl (by kernel_rfl) (by kernel_rfl) (by kernel_rfl) (fun _ _ _ h => h) (Or.inl ⟨by kernel_rfl, ?_⟩) (by assumption) ?_
            · (intro w hSw; unfold Held at hSw; (try dsimp only at hSw); go_simp)
            try simp only [Act.put, List.setIfInBounds_toArray, List.set_cons_zero, List.set_cons_succ]
            refine wpAnyH_take (i := 7) (oi := { dst := some 68, op := Go.Op.move (Go.Operand.tmp 1), type := 22, pos := "arith.go:174", after := #[], guard := none }) (v := .slice A l.length c) rfl (by kernel_rfl) (by kernel_rfl) (by kernel_rfl) (fun _ _ _ h => h) (Or.inl ⟨by kernel_rfl, ?_⟩) (by assumption) ?_
            · (intro w hSw; unfold Held at hSw; (try dsimp only at hSw); go_simp)
            try simp only [Act.put, List.setIfInBounds_toArray, List.set_cons_zero, List.set_cons_succ]
            refine wpAnyH_ready (rs := [8]) (by kernel_rfl) (by simp) ?_
            refine AllReadyH.cons (o := { dst := some 69, op := Go.Op.call { callee := Go.Callee.value (Go.Operand.func 26), args := #[Go.Operand.tmp 67, Go.Operand.tmp 68], argTypes := #[55, 22] }, type := 2, pos := "arith.go:174", after := #[{ on := 6, ground := Go.Ground.data }, { on := 7, ground := Go.Ground.data }], guard := none }) rfl (fun K hK => ?_) AllReadyH.nil
            go_simp
            refine (HD.out w2.drew ok _ HND3.out (Kd.C_below HR.out HB3.out) (HG.out.below HB3.out)).mono ?_
            rw [HVD.out]
            rintro e w3 ⟨rfl, hb3⟩
            rw [HE.out, HVD.out]
            exact ⟨rfl, rfl, below_then HB3.out HB3.out.size hb3⟩
          | ok y =>
            have HVD := Aside0.mk hvd
            have HIY := Aside0.mk (value_I64 HKD.out hvd)
            clear hvd
            cases ht : twoV .lor 0 y with
            | error x =>
              have HTZ := Aside0.mk (two_err ht)
              obtain rfl := HTZ.out.2.2
              have HT := Aside0.mk ht; clear ht
              have HTZ := Aside0.mk (⟨HTZ.out.1, HTZ.out.2.1⟩ : (_ ∧ _))
              refine wp_region_held_drew (S := Held w.heap.size ⟨#[124, 124]⟩ b zm zA zn zc zi zt) (by kernel_rfl) (held_of (W := w2.drew) HBX2.out HBL2.out) (fun hHeld => ?_)
              refine wpAnyH_take (i := 0) (oi := { dst := some 61, op := Go.Op.fieldAddr 55 (Go.Operand.tmp 2) 0, type := 0, pos := "arith.go:174", after := #[], guard := none }) (v := .pointer (some ⟨w.heap.size, 0, none⟩)) rfl (by kernel_rfl) (by kernel_rfl) (by kernel_rfl) (fun _ _ _ h => h) (Or.inl ⟨by kernel_rfl, ?_⟩) (by assumption) ?_
              · (intro w hSw; unfold Held at hSw; (try dsimp only at hSw); go_simp)
              try simp only [Act.put, List.setIfInBounds_toArray, List.set_cons_zero, List.set_cons_succ]
              refine wpAnyH_take (i := 1) (oi := { dst := some 62, op := Go.Op.load 9 (Go.Operand.tmp 61), type := 9, pos := "arith.go:174", after := #[{ on := 0, ground := Go.Ground.data }], guard := none }) (v := .string ⟨#[124, 124]⟩) rfl (by kernel_rfl) (by kernel_rfl) (by kernel_rfl) (fun _ _ _ h => h) (Or.inl ⟨by kernel_rfl, ?_⟩) (by assumption) ?_
              · (intro w hSw; unfold Held at hSw; (try dsimp only at hSw); go_simp)
              try simp only [Act.put, List.setIfInBounds_toArray, List.set_cons_zero, List.set_cons_succ]
              refine wpAnyH_take (i := 2) (oi := { dst := some 63, op := Go.Op.move (Go.Operand.tmp 5), type := 2, pos := "arith.go:174", after := #[], guard := none }) (v := .int .i64 0) rfl (by kernel_rfl) (by kernel_rfl) (by kernel_rfl) (fun _ _ _ h => h) (Or.inl ⟨by kernel_rfl, ?_⟩) (by assumption) ?_
              · (intro w hSw; unfold Held at hSw; (try dsimp only at hSw); go_simp)
              try simp only [Act.put, List.setIfInBounds_toArray, List.set_cons_zero, List.set_cons_succ]
              refine wpAnyH_take (i := 3) (oi := { dst := some 64, op := Go.Op.fieldAddr 55 (Go.Operand.tmp 2) 1, type := 0, pos := "arith.go:174", after := #[], guard := none }) (v := .pointer (some ⟨w.heap.size, 1, none⟩)) rfl (by kernel_rfl) (by kernel_rfl) (by kernel_rfl) (fun _ _ _ h => h) (Or.inl ⟨by kernel_rfl, ?_⟩) (by assumption) ?_
              · (intro w hSw; unfold Held at hSw; (try dsimp only at hSw); go_simp)
              try simp only [Act.put, List.setIfInBounds_toArray, List.set_cons_zero, List.set_cons_succ]
              refine wpAnyH_take (i := 4) (oi := { dst := some 65, op := Go.Op.load 53 (Go.Operand.tmp 64), type := 53, pos := "arith.go:174", after := #[{ on := 3, ground := Go.Ground.data }], guard := none }) (v := .slice (some ⟨b, 0, none⟩) 2 2) rfl (by kernel_rfl) (by kernel_rfl) (by kernel_rfl) (fun _ _ _ h => h) (Or.inl ⟨by kernel_rfl, ?_⟩) (by assumption) ?_
              · (intro w hSw; unfold Held at hSw; (try dsimp only at hSw); go_simp)
              try simp only [Act.put, List.setIfInBounds_toArray, List.set_cons_zero, List.set_cons_succ]
              refine wpAnyH_take (i := 5) (oi := { dst := some 66, op := Go.Op.indexAddr 53 (Go.Operand.tmp 65) (Go.Operand.const (Go.Value.int Go.IntKind.i64 1)), type := 0, pos := "arith.go:174", after := #[{ on := 4, ground := Go.Ground.data }], guard := none }) (v := .pointer (some ⟨b, 4, none⟩)) rfl (by kernel_rfl) (by kernel_rfl) (by kernel_rfl) (fun _ _ _ h => h) (Or.inl ⟨by kernel_rfl, ?_⟩) (by assumption) ?_
              · (intro w hSw; unfold Held at hSw; (try dsimp only at hSw); go_simp)
              try simp only [Act.put, List.setIfInBounds_toArray, List.set_cons_zero, List.set_cons_succ]
              refine wpAnyH_take (i := 6) (oi := { dst := some 67, op := Go.Op.load 55 (Go.Operand.tmp 66), type := 55, pos := "arith.go:174", after := #[{ on := 5, ground := Go.Ground.data }], guard := none }) (v := .agg #[.string zm, .slice zA zn zc, .int .i64 zi, .string zt]) rfl (by kernel_rfl) (by kernel_rfl) (by kernel_rfl) (fun _ _ _ h => h) (Or.inl ⟨by kernel_rfl, ?_⟩) (by assumption) ?_
              · (intro w hSw; unfold Held at hSw; (try dsimp only at hSw); go_simp)
              try simp only [Act.put, List.setIfInBounds_toArray, List.set_cons_zero, List.set_cons_succ]
              refine wpAnyH_take (i := 7) (oi := { dst := some 68, op := Go.Op.move (Go.Operand.tmp 1), type := 22, pos := "arith.go:174", after := #[], guard := none }) (v := .slice A l.length c) rfl (by kernel_rfl) (by kernel_rfl) (by kernel_rfl) (fun _ _ _ h => h) (Or.inl ⟨by kernel_rfl, ?_⟩) (by assumption) ?_
              · (intro w hSw; unfold Held at hSw; (try dsimp only at hSw); go_simp)
              try simp only [Act.put, List.setIfInBounds_toArray, List.set_cons_zero, List.set_cons_succ]
              refine wpAnyH_ready (rs := [8]) (by kernel_rfl) (by simp) ?_
              refine AllReadyH.cons (o := { dst := some 69, op := Go.Op.call { callee := Go.Callee.value (Go.Operand.func 26), args := #[Go.Operand.tmp 67, Go.Operand.tmp 68], argTypes := #[55, 22] }, type := 2, pos := "arith.go:174", after := #[{ on := 6, ground := Go.Ground.data }, { on := 7, ground := Go.Ground.data }], guard := none }) rfl (fun K hK => ?_) AllReadyH.nil
              go_simp
              refine (HD.out w2.drew ok _ HND3.out (Kd.C_below HR.out HB3.out) (HG.out.below HB3.out)).mono ?_
              rw [HVD.out]
              rintro e w3 ⟨rfl, hb3⟩
              have HBX3 := Aside0.mk (blk_below HBX2.out (show Below w2.heap.size w2 w3 from ⟨hb3.os, hb3.tape, hb3.output, hb3.size, hb3.block⟩))
              have HBL3 := Aside0.mk (blk_below HBL2.out (show Below w2.heap.size w2 w3 from ⟨hb3.os, hb3.tape, hb3.output, hb3.size, hb3.block⟩))
              go_simp
              refine hK.out _ _ (held_of HBX3.out HBL3.out) (fun hHeld2 => ?_)
              clear hK K hHeld
              try simp only [Act.put, List.setIfInBounds_toArray, List.set_cons_zero, List.set_cons_succ]
              refine wpAnyH_ready (rs := [9]) (by kernel_rfl) (by simp) ?_
              refine AllReadyH.cons (o := { dst := some 70, op := Go.Op.call { callee := Go.Callee.value (Go.Operand.func 41), args := #[Go.Operand.tmp 62, Go.Operand.tmp 63, Go.Operand.tmp 69], argTypes := #[9, 2, 2] }, type := 2, pos := "arith.go:174", after := #[{ on := 1, ground := Go.Ground.data }, { on := 2, ground := Go.Ground.data }, { on := 8, ground := Go.Ground.data }, { on := 8, ground := Go.Ground.chain }], guard := none }) rfl (fun K hK => ?_) AllReadyH.nil
              go_simp
              rw [← HMS.out]
              refine (two_zero _ _ _ _ HTZ.out.1 HTZ.out.2).mono ?_
              rintro e w4 ⟨rfl, rfl⟩
              rw [HE.out, HVD.out]
              dsimp only
              rw [HT.out]
              exact ⟨rfl, rfl, below_then HB3.out HB3.out.size hb3⟩
            | ok r =>
              have HT := Aside0.mk ht; clear ht
              refine wp_region_held_drew (S := Held w.heap.size ⟨#[124, 124]⟩ b zm zA zn zc zi zt) (by kernel_rfl) (held_of (W := w2.drew) HBX2.out HBL2.out) (fun hHeld => ?_)
              refine wpAnyH_take (i := 0) (oi := { dst := some 61, op := Go.Op.fieldAddr 55 (Go.Operand.tmp 2) 0, type := 0, pos := "arith.go:174", after := #[], guard := none }) (v := .pointer (some ⟨w.heap.size, 0, none⟩)) rfl (by kernel_rfl) (by kernel_rfl) (by kernel_rfl) (fun _ _ _ h => h) (Or.inl ⟨by kernel_rfl, ?_⟩) (by assumption) ?_
              · (intro w hSw; unfold Held at hSw; (try dsimp only at hSw); go_simp)
              try simp only [Act.put, List.setIfInBounds_toArray, List.set_cons_zero, List.set_cons_succ]
              refine wpAnyH_take (i := 1) (oi := { dst := some 62, op := Go.Op.load 9 (Go.Operand.tmp 61), type := 9, pos := "arith.go:174", after := #[{ on := 0, ground := Go.Ground.data }], guard := none }) (v := .string ⟨#[124, 124]⟩) rfl (by kernel_rfl) (by kernel_rfl) (by kernel_rfl) (fun _ _ _ h => h) (Or.inl ⟨by kernel_rfl, ?_⟩) (by assumption) ?_
              · (intro w hSw; unfold Held at hSw; (try dsimp only at hSw); go_simp)
              try simp only [Act.put, List.setIfInBounds_toArray, List.set_cons_zero, List.set_cons_succ]
              refine wpAnyH_take (i := 2) (oi := { dst := some 63, op := Go.Op.move (Go.Operand.tmp 5), type := 2, pos := "arith.go:174", after := #[], guard := none }) (v := .int .i64 0) rfl (by kernel_rfl) (by kernel_rfl) (by kernel_rfl) (fun _ _ _ h => h) (Or.inl ⟨by kernel_rfl, ?_⟩) (by assumption) ?_
              · (intro w hSw; unfold Held at hSw; (try dsimp only at hSw); go_simp)
              try simp only [Act.put, List.setIfInBounds_toArray, List.set_cons_zero, List.set_cons_succ]
              refine wpAnyH_take (i := 3) (oi := { dst := some 64, op := Go.Op.fieldAddr 55 (Go.Operand.tmp 2) 1, type := 0, pos := "arith.go:174", after := #[], guard := none }) (v := .pointer (some ⟨w.heap.size, 1, none⟩)) rfl (by kernel_rfl) (by kernel_rfl) (by kernel_rfl) (fun _ _ _ h => h) (Or.inl ⟨by kernel_rfl, ?_⟩) (by assumption) ?_
              · (intro w hSw; unfold Held at hSw; (try dsimp only at hSw); go_simp)
              try simp only [Act.put, List.setIfInBounds_toArray, List.set_cons_zero, List.set_cons_succ]
              refine wpAnyH_take (i := 4) (oi := { dst := some 65, op := Go.Op.load 53 (Go.Operand.tmp 64), type := 53, pos := "arith.go:174", after := #[{ on := 3, ground := Go.Ground.data }], guard := none }) (v := .slice (some ⟨b, 0, none⟩) 2 2) rfl (by kernel_rfl) (by kernel_rfl) (by kernel_rfl) (fun _ _ _ h => h) (Or.inl ⟨by kernel_rfl, ?_⟩) (by assumption) ?_
              · (intro w hSw; unfold Held at hSw; (try dsimp only at hSw); go_simp)
              try simp only [Act.put, List.setIfInBounds_toArray, List.set_cons_zero, List.set_cons_succ]
              refine wpAnyH_take (i := 5) (oi := { dst := some 66, op := Go.Op.indexAddr 53 (Go.Operand.tmp 65) (Go.Operand.const (Go.Value.int Go.IntKind.i64 1)), type := 0, pos := "arith.go:174", after := #[{ on := 4, ground := Go.Ground.data }], guard := none }) (v := .pointer (some ⟨b, 4, none⟩)) rfl (by kernel_rfl) (by kernel_rfl) (by kernel_rfl) (fun _ _ _ h => h) (Or.inl ⟨by kernel_rfl, ?_⟩) (by assumption) ?_
              · (intro w hSw; unfold Held at hSw; (try dsimp only at hSw); go_simp)
              try simp only [Act.put, List.setIfInBounds_toArray, List.set_cons_zero, List.set_cons_succ]
              refine wpAnyH_take (i := 6) (oi := { dst := some 67, op := Go.Op.load 55 (Go.Operand.tmp 66), type := 55, pos := "arith.go:174", after := #[{ on := 5, ground := Go.Ground.data }], guard := none }) (v := .agg #[.string zm, .slice zA zn zc, .int .i64 zi, .string zt]) rfl (by kernel_rfl) (by kernel_rfl) (by kernel_rfl) (fun _ _ _ h => h) (Or.inl ⟨by kernel_rfl, ?_⟩) (by assumption) ?_
              · (intro w hSw; unfold Held at hSw; (try dsimp only at hSw); go_simp)
              try simp only [Act.put, List.setIfInBounds_toArray, List.set_cons_zero, List.set_cons_succ]
              refine wpAnyH_take (i := 7) (oi := { dst := some 68, op := Go.Op.move (Go.Operand.tmp 1), type := 22, pos := "arith.go:174", after := #[], guard := none }) (v := .slice A l.length c) rfl (by kernel_rfl) (by kernel_rfl) (by kernel_rfl) (fun _ _ _ h => h) (Or.inl ⟨by kernel_rfl, ?_⟩) (by assumption) ?_
              · (intro w hSw; unfold Held at hSw; (try dsimp only at hSw); go_simp)
              try simp only [Act.put, List.setIfInBounds_toArray, List.set_cons_zero, List.set_cons_succ]
              refine wpAnyH_ready (rs := [8]) (by kernel_rfl) (by simp) ?_
              refine AllReadyH.cons (o := { dst := some 69, op := Go.Op.call { callee := Go.Callee.value (Go.Operand.func 26), args := #[Go.Operand.tmp 67, Go.Operand.tmp 68], argTypes := #[55, 22] }, type := 2, pos := "arith.go:174", after := #[{ on := 6, ground := Go.Ground.data }, { on := 7, ground := Go.Ground.data }], guard := none }) rfl (fun K hK => ?_) AllReadyH.nil
              go_simp
              refine (HD.out w2.drew ok _ HND3.out (Kd.C_below HR.out HB3.out) (HG.out.below HB3.out)).mono ?_
              rw [HVD.out]
              rintro e w3 ⟨rfl, hb3⟩
              have HBX3 := Aside0.mk (blk_below HBX2.out (show Below w2.heap.size w2 w3 from ⟨hb3.os, hb3.tape, hb3.output, hb3.size, hb3.block⟩))
              have HBL3 := Aside0.mk (blk_below HBL2.out (show Below w2.heap.size w2 w3 from ⟨hb3.os, hb3.tape, hb3.output, hb3.size, hb3.block⟩))
              go_simp
              refine hK.out _ _ (held_of HBX3.out HBL3.out) (fun hHeld2 => ?_)
              clear hK K hHeld
              try simp only [Act.put, List.setIfInBounds_toArray, List.set_cons_zero, List.set_cons_succ]
              refine wpAnyH_ready (rs := [9]) (by kernel_rfl) (by simp) ?_
              refine AllReadyH.cons (o := { dst := some 70, op := Go.Op.call { callee := Go.Callee.value (Go.Operand.func 41), args := #[Go.Operand.tmp 62, Go.Operand.tmp 63, Go.Operand.tmp 69], argTypes := #[9, 2, 2] }, type := 2, pos := "arith.go:174", after := #[{ on := 1, ground := Go.Ground.data }, { on := 2, ground := Go.Ground.data }, { on := 8, ground := Go.Ground.data }, { on := 8, ground := Go.Ground.chain }], guard := none }) rfl (fun K hK => ?_) AllReadyH.nil
              go_simp
              rw [← HMS.out]
              refine (two_calls _ _ _ _ _ HII.out.1 HII.out.2 HIY.out.1 HIY.out.2 HT.out).mono ?_
              rintro e w4 ⟨rfl, rfl⟩
              rw [HMS.out]
              go_simp
              refine hK.out _ _ hHeld2 (fun hHeld3 => ?_)
              clear hK K hHeld2
              try simp only [Act.put, List.setIfInBounds_toArray, List.set_cons_zero, List.set_cons_succ]
              refine wpAnyH_take (i := 10) (oi := { dst := some 4, op := Go.Op.assign (Go.Operand.tmp 70), type := 2, pos := "arith.go:174", after := #[{ on := 9, ground := Go.Ground.data }, { on := 9, ground := Go.Ground.chain }, { on := 0, ground := Go.Ground.phase }, { on := 1, ground := Go.Ground.phase }, { on := 2, ground := Go.Ground.phase }, { on := 3, ground := Go.Ground.phase }, { on := 4, ground := Go.Ground.phase }, { on := 5, ground := Go.Ground.phase }, { on := 6, ground := Go.Ground.phase }, { on := 7, ground := Go.Ground.phase }, { on := 8, ground := Go.Ground.phase }, { on := 9, ground := Go.Ground.phase }], guard := none }) (v := .int .i64 r) rfl (by kernel_rfl) (by kernel_rfl) (by kernel_rfl) (fun _ _ _ h => h) (Or.inl ⟨by kernel_rfl, ?_⟩) (by assumption) ?_
              · (intro w hSw; (try dsimp only at hSw); go_simp)
              try simp only [Act.put, List.setIfInBounds_toArray, List.set_cons_zero, List.set_cons_succ]
              refine wpAnyH_done (by kernel_rfl) ?_ _
              go_wp2_with fail
              go_ret
              rw [HE.out, HVD.out]
              dsimp only
              rw [HT.out]
              exact ⟨rfl, below_then HB3.out HB3.out.size hb3⟩
        · obtain rfl : ms = ⟨#[38, 38]⟩ := HMS.out.symm
          have hv1 : (v != 0) = true := by simpa using hv0
          have hv2 : (v == 0) = false := by simpa using hv0
          clear hv0
          go_wp2_with fail
          have HB3 := Aside0.mk (show Below w.heap.size w w2.drew from below_drew HB2.out)
          have HND3 := Aside0.mk (HND2.out.step (W' := w2.drew) (ok' := ok) fun b hb' _ => ⟨hb', rfl⟩)
          clear e0 e1 e2 e3
          cases hvd : valueV l d with
          | error x =>
            have HVD := Aside0.mk hvd; clear hvd
            refine wp_region_held_drew (S := Held w.heap.size ⟨#[38, 38]⟩ b zm zA zn zc zi zt) (by kernel_rfl) (held_of (W := w2.drew) HBX2.out HBL2.out) (fun hHeld => ?_)
            refine wpAnyH_take (i := 0) (oi := { dst := some 61, op := Go.Op.fieldAddr 55 (Go.Operand.tmp 2) 0, type := 0, pos := "arith.go:174", after := #[], guard := none }) (v := .pointer (some ⟨w.heap.size, 0, none⟩)) rfl (by kernel_rfl) (by kernel_rfl) (by kernel_rfl) (fun _ _ _ h => h) (Or.inl ⟨by kernel_rfl, ?_⟩) (by assumption) ?_
            · (intro w hSw; unfold Held at hSw; (try dsimp only at hSw); go_simp)
            try simp only [Act.put, List.setIfInBounds_toArray, List.set_cons_zero, List.set_cons_succ]
            refine wpAnyH_take (i := 1) (oi := { dst := some 62, op := Go.Op.load 9 (Go.Operand.tmp 61), type := 9, pos := "arith.go:174", after := #[{ on := 0, ground := Go.Ground.data }], guard := none }) (v := .string ⟨#[38, 38]⟩) rfl (by kernel_rfl) (by kernel_rfl) (by kernel_rfl) (fun _ _ _ h => h) (Or.inl ⟨by kernel_rfl, ?_⟩) (by assumption) ?_
            · (intro w hSw; unfold Held at hSw; (try dsimp only at hSw); go_simp)
            try simp only [Act.put, List.setIfInBounds_toArray, List.set_cons_zero, List.set_cons_succ]
            refine wpAnyH_take (i := 2) (oi := { dst := some 63, op := Go.Op.move (Go.Operand.tmp 5), type := 2, pos := "arith.go:174", after := #[], guard := none }) (v := .int .i64 v) rfl (by kernel_rfl) (by kernel_rfl) (by kernel_rfl) (fun _ _ _ h => h) (Or.inl ⟨by kernel_rfl, ?_⟩) (by assumption) ?_
            · (intro w hSw; unfold Held at hSw; (try dsimp only at hSw); go_simp)
            try simp only [Act.put, List.setIfInBounds_toArray, List.set_cons_zero, List.set_cons_succ]
            refine wpAnyH_take (i := 3) (oi := { dst := some 64, op := Go.Op.fieldAddr 55 (Go.Operand.tmp 2) 1, type := 0, pos := "arith.go:174", after := #[], guard := none }) (v := .pointer (some ⟨w.heap.size, 1, none⟩)) rfl (by kernel_rfl) (by kernel_rfl) (by kernel_rfl) (fun _ _ _ h => h) (Or.inl ⟨by kernel_rfl, ?_⟩) (by assumption) ?_
            · (intro w hSw; unfold Held at hSw; (try dsimp only at hSw); go_simp)
            try simp only [Act.put, List.setIfInBounds_toArray, List.set_cons_zero, List.set_cons_succ]
            refine wpAnyH_take (i := 4) (oi := { dst := some 65, op := Go.Op.load 53 (Go.Operand.tmp 64), type := 53, pos := "arith.go:174", after := #[{ on := 3, ground := Go.Ground.data }], guard := none }) (v := .slice (some ⟨b, 0, none⟩) 2 2) rfl (by kernel_rfl) (by kernel_rfl) (by kernel_rfl) (fun _ _ _ h => h) (Or.inl ⟨by kernel_rfl, ?_⟩) (by assumption) ?_
            · (intro w hSw; unfold Held at hSw; (try dsimp only at hSw); go_simp)
            try simp only [Act.put, List.setIfInBounds_toArray, List.set_cons_zero, List.set_cons_succ]
            refine wpAnyH_take (i := 5) (oi := { dst := some 66, op := Go.Op.indexAddr 53 (Go.Operand.tmp 65) (Go.Operand.const (Go.Value.int Go.IntKind.i64 1)), type := 0, pos := "arith.go:174", after := #[{ on := 4, ground := Go.Ground.data }], guard := none }) (v := .pointer (some ⟨b, 4, none⟩)) rfl (by kernel_rfl) (by kernel_rfl) (by kernel_rfl) (fun _ _ _ h => h) (Or.inl ⟨by kernel_rfl, ?_⟩) (by assumption) ?_
            · (intro w hSw; unfold Held at hSw; (try dsimp only at hSw); go_simp)
            try simp only [Act.put, List.setIfInBounds_toArray, List.set_cons_zero, List.set_cons_succ]
            refine wpAnyH_take (i := 6) (oi := { dst := some 67, op := Go.Op.load 55 (Go.Operand.tmp 66), type := 55, pos := "arith.go:174", after := #[{ on := 5, ground := Go.Ground.data }], guard := none }) (v := .agg #[.string zm, .slice zA zn zc, .int .i64 zi, .string zt]) rfl (by kernel_rfl) (by kernel_rfl) (by kernel_rfl) (fun _ _ _ h => h) (Or.inl ⟨by kernel_rfl, ?_⟩) (by assumption) ?_
            · (intro w hSw; unfold Held at hSw; (try dsimp only at hSw); go_simp)
            try simp only [Act.put, List.setIfInBounds_toArray, List.set_cons_zero, List.set_cons_succ]
            refine wpAnyH_take (i := 7) (oi := { dst := some 68, op := Go.Op.move (Go.Operand.tmp 1), type := 22, pos := "arith.go:174", after := #[], guard := none }) (v := .slice A l.length c) rfl (by kernel_rfl) (by kernel_rfl) (by kernel_rfl) (fun _ _ _ h => h) (Or.inl ⟨by kernel_rfl, ?_⟩) (by assumption) ?_
            · (intro w hSw; unfold Held at hSw; (try dsimp only at hSw); go_simp)
            try simp only [Act.put, List.setIfInBounds_toArray, List.set_cons_zero, List.set_cons_succ]
            refine wpAnyH_ready (rs := [8]) (by kernel_rfl) (by simp) ?_
            refine AllReadyH.cons (o := { dst := some 69, op := Go.Op.call { callee := Go.Callee.value (Go.Operand.func 26), args := #[Go.Operand.tmp 67, Go.Operand.tmp 68], argTypes := #[55, 22] }, type := 2, pos := "arith.go:174", after := #[{ on := 6, ground := Go.Ground.data }, { on := 7, ground := Go.Ground.data }], guard := none }) rfl (fun K hK => ?_) AllReadyH.nil
            go_simp
            refine (HD.out w2.drew ok _ HND3.out (Kd.C_below HR.out HB3.out) (HG.out.below HB3.out)).mono ?_
            rw [HVD.out]
            rintro e w3 ⟨rfl, hb3⟩
            rw [HE.out, HVD.out]
            exact ⟨rfl, rfl, below_then HB3.out HB3.out.size hb3⟩
          | ok y =>
            have HVD := Aside0.mk hvd
            have HIY := Aside0.mk (value_I64 HKD.out hvd)
            clear hvd
            cases ht : twoV .land v y with
            | error x =>
              have HTZ := Aside0.mk (two_err ht)
              obtain rfl := HTZ.out.2.2
              have HT := Aside0.mk ht; clear ht
              have HTZ := Aside0.mk (⟨HTZ.out.1, HTZ.out.2.1⟩ : (_ ∧ _))
              refine wp_region_held_drew (S := Held w.heap.size ⟨#[38, 38]⟩ b zm zA zn zc zi zt) (by kernel_rfl) (held_of (W := w2.drew) HBX2.out HBL2.out) (fun hHeld => ?_)
              refine wpAnyH_take (i := 0) (oi := { dst := some 61, op := Go.Op.fieldAddr 55 (Go.Operand.tmp 2) 0, type := 0, pos := "arith.go:174", after := #[], guard := none }) (v := .pointer (some ⟨w.heap.size, 0, none⟩)) rfl (by kernel_rfl) (by kernel_rfl) (by kernel_rfl) (fun _ _ _ h => h) (Or.inl ⟨by kernel_rfl, ?_⟩) (by assumption) ?_
              · (intro w hSw; unfold Held at hSw; (try dsimp only at hSw); go_simp)
              try simp only [Act.put, List.setIfInBounds_toArray, List.set_cons_zero, List.set_cons_succ]
              refine wpAnyH_take (i := 1) (oi := { dst := some 62, op := Go.Op.load 9 (Go.Operand.tmp 61), type := 9, pos := "arith.go:174", after := #[{ on := 0, ground := Go.Ground.data }], guard := none }) (v := .string ⟨#[38, 38]⟩) rfl (by kernel_rfl) (by kernel_rfl) (by kernel_rfl) (fun _ _ _ h => h) (Or.inl ⟨by kernel_rfl, ?_⟩) (by assumption) ?_
              · (intro w hSw; unfold Held at hSw; (try dsimp only at hSw); go_simp)
              try simp only [Act.put, List.setIfInBounds_toArray, List.set_cons_zero, List.set_cons_succ]
              refine wpAnyH_take (i := 2) (oi := { dst := some 63, op := Go.Op.move (Go.Operand.tmp 5), type := 2, pos := "arith.go:174", after := #[], guard := none }) (v := .int .i64 v) rfl (by kernel_rfl) (by kernel_rfl) (by kernel_rfl) (fun _ _ _ h => h) (Or.inl ⟨by kernel_rfl, ?_⟩) (by assumption) ?_
              · (intro w hSw; unfold Held at hSw; (try dsimp only at hSw); go_simp)
              try simp only [Act.put, List.setIfInBounds_toArray, List.set_cons_zero, List.set_cons_succ]
              refine wpAnyH_take (i := 3) (oi := { dst := some 64, op := Go.Op.fieldAddr 55 (Go.Operand.tmp 2) 1, type := 0, pos := "arith.go:174", after := #[], guard := none }) (v := .pointer (some ⟨w.heap.size, 1, none⟩)) rfl (by kernel_rfl) (by kernel_rfl) (by kernel_rfl) (fun _ _ _ h => h) (Or.inl ⟨by kernel_rfl, ?_⟩) (by assumption) ?_
              · (intro w hSw; unfold Held at hSw; (try dsimp only at hSw); go_simp)
              try simp only [Act.put, List.setIfInBounds_toArray, List.set_cons_zero, List.set_cons_succ]
              refine wpAnyH_take (i := 4) (oi := { dst := some 65, op := Go.Op.load 53 (Go.Operand.tmp 64), type := 53, pos := "arith.go:174", after := #[{ on := 3, ground := Go.Ground.data }], guard := none }) (v := .slice (some ⟨b, 0, none⟩) 2 2) rfl (by kernel_rfl) (by kernel_rfl) (by kernel_rfl) (fun _ _ _ h => h) (Or.inl ⟨by kernel_rfl, ?_⟩) (by assumption) ?_
              · (intro w hSw; unfold Held at hSw; (try dsimp only at hSw); go_simp)
              try simp only [Act.put, List.setIfInBounds_toArray, List.set_cons_zero, List.set_cons_succ]
              refine wpAnyH_take (i := 5) (oi := { dst := some 66, op := Go.Op.indexAddr 53 (Go.Operand.tmp 65) (Go.Operand.const (Go.Value.int Go.IntKind.i64 1)), type := 0, pos := "arith.go:174", after := #[{ on := 4, ground := Go.Ground.data }], guard := none }) (v := .pointer (some ⟨b, 4, none⟩)) rfl (by kernel_rfl) (by kernel_rfl) (by kernel_rfl) (fun _ _ _ h => h) (Or.inl ⟨by kernel_rfl, ?_⟩) (by assumption) ?_
              · (intro w hSw; unfold Held at hSw; (try dsimp only at hSw); go_simp)
              try simp only [Act.put, List.setIfInBounds_toArray, List.set_cons_zero, List.set_cons_succ]
              refine wpAnyH_take (i := 6) (oi := { dst := some 67, op := Go.Op.load 55 (Go.Operand.tmp 66), type := 55, pos := "arith.go:174", after := #[{ on := 5, ground := Go.Ground.data }], guard := none }) (v := .agg #[.string zm, .slice zA zn zc, .int .i64 zi, .string zt]) rfl (by kernel_rfl) (by kernel_rfl) (by kernel_rfl) (fun _ _ _ h => h) (Or.inl ⟨by kernel_rfl, ?_⟩) (by assumption) ?_
              · (intro w hSw; unfold Held at hSw; (try dsimp only at hSw); go_simp)
              try simp only [Act.put, List.setIfInBounds_toArray, List.set_cons_zero, List.set_cons_succ]
              refine wpAnyH_take (i := 7) (oi := { dst := some 68, op := Go.Op.move (Go.Operand.tmp 1), type := 22, pos := "arith.go:174", after := #[], guard := none }) (v := .slice A l.length c) rfl (by kernel_rfl) (by kernel_rfl) (by kernel_rfl) (fun _ _ _ h => h) (Or.inl ⟨by kernel_rfl, ?_⟩) (by assumption) ?_
              · (intro w hSw; unfold Held at hSw; (try dsimp only at hSw); go_simp)
              try simp only [Act.put, List.setIfInBounds_toArray, List.set_cons_zero, List.set_cons_succ]
              refine wpAnyH_ready (rs := [8]) (by kernel_rfl) (by simp) ?_
              refine AllReadyH.cons (o := { dst := some 69, op := Go.Op.call { callee := Go.Callee.value (Go.Operand.func 26), args := #[Go.Operand.tmp 67, Go.Operand.tmp 68], argTypes := #[55, 22] }, type := 2, pos := "arith.go:174", after := #[{ on := 6, ground := Go.Ground.data }, { on := 7, ground := Go.Ground.data }], guard := none }) rfl (fun K hK => ?_) AllReadyH.nil
              go_simp
              refine (HD.out w2.drew ok _ HND3.out (Kd.C_below HR.out HB3.out) (HG.out.below HB3.out)).mono ?_
              rw [HVD.out]
              rintro e w3 ⟨rfl, hb3⟩
              have HBX3 := Aside0.mk (blk_below HBX2.out (show Below w2.heap.size w2 w3 from ⟨hb3.os, hb3.tape, hb3.output, hb3.size, hb3.block⟩))
              have HBL3 := Aside0.mk (blk_below HBL2.out (show Below w2.heap.size w2 w3 from ⟨hb3.os, hb3.tape, hb3.output, hb3.size, hb3.block⟩))
              go_simp
              refine hK.out _ _ (held_of HBX3.out HBL3.out) (fun hHeld2 => ?_)
              clear hK K hHeld
              try simp only [Act.put, List.setIfInBounds_toArray, List.set_cons_zero, List.set_cons_succ]
              refine wpAnyH_ready (rs := [9]) (by kernel_rfl) (by simp) ?_
              refine AllReadyH.cons (o := { dst := some 70, op := Go.Op.call { callee := Go.Callee.value (Go.Operand.func 41), args := #[Go.Operand.tmp 62, Go.Operand.tmp 63, Go.Operand.tmp 69], argTypes := #[9, 2, 2] }, type := 2, pos := "arith.go:174", after := #[{ on := 1, ground := Go.Ground.data }, { on := 2, ground := Go.Ground.data }, { on := 8, ground := Go.Ground.data }, { on := 8, ground := Go.Ground.chain }], guard := none }) rfl (fun K hK => ?_) AllReadyH.nil
              go_simp
              rw [← HMS.out]
              refine (two_zero _ _ _ _ HTZ.out.1 HTZ.out.2).mono ?_
              rintro e w4 ⟨rfl, rfl⟩
              rw [HE.out, HVD.out]
              dsimp only
              rw [HT.out]
              exact ⟨rfl, rfl, below_then HB3.out HB3.out.size hb3⟩
            | ok r =>
              have HT := Aside0.mk ht; clear ht
              refine wp_region_held_drew (S := Held w.heap.size ⟨#[38, 38]⟩ b zm zA zn zc zi zt) (by kernel_rfl) (held_of (W := w2.drew) HBX2.out HBL2.out) (fun hHeld => ?_)
              refine wpAnyH_take (i := 0) (oi := { dst := some 61, op := Go.Op.fieldAddr 55 (Go.Operand.tmp 2) 0, type := 0, pos := "arith.go:174", after := #[], guard := none }) (v := .pointer (some ⟨w.heap.size, 0, none⟩)) rfl (by kernel_rfl) (by kernel_rfl) (by kernel_rfl) (fun _ _ _ h => h) (Or.inl ⟨by kernel_rfl, ?_⟩) (by assumption) ?_
              · (intro w hSw; unfold Held at hSw; (try dsimp only at hSw); go_simp)
              try simp only [Act.put, List.setIfInBounds_toArray, List.set_cons_zero, List.set_cons_succ]
              refine wpAnyH_take (i := 1) (oi := { dst := some 62, op := Go.Op.load 9 (Go.Operand.tmp 61), type := 9, pos := "arith.go:174", after := #[{ on := 0, ground := Go.Ground.data }], guard := none }) (v := .string ⟨#[38, 38]⟩) rfl (by kernel_rfl) (by kernel_rfl) (by kernel_rfl) (fun _ _ _ h => h) (Or.inl ⟨by kernel_rfl, ?_⟩) (by assumption) ?_
              · (intro w hSw; unfold Held at hSw; (try dsimp only at hSw); go_simp)
              try simp only [Act.put, List.setIfInBounds_toArray, List.set_cons_zero, List.set_cons_succ]
              refine wpAnyH_take (i := 2) (oi := { dst := some 63, op := Go.Op.move (Go.Operand.tmp 5), type := 2, pos := "arith.go:174", after := #[], guard := none }) (v := .int .i64 v) rfl (by kernel_rfl) (by kernel_rfl) (by kernel_rfl) (fun _ _ _ h => h) (Or.inl ⟨by kernel_rfl, ?_⟩) (by assumption) ?_
              · (intro w hSw; unfold Held at hSw; (try dsimp only at hSw); go_simp)
              try simp only [Act.put, List.setIfInBounds_toArray, List.set_cons_zero, List.set_cons_succ]
              refine wpAnyH_take (i := 3) (oi := { dst := some 64, op := Go.Op.fieldAddr 55 (Go.Operand.tmp 2) 1, type := 0, pos := "arith.go:174", after := #[], guard := none }) (v := .pointer (some ⟨w.heap.size, 1, none⟩)) rfl (by kernel_rfl) (by kernel_rfl) (by kernel_rfl) (fun _ _ _ h => h) (Or.inl ⟨by kernel_rfl, ?_⟩) (by assumption) ?_
              · (intro w hSw; unfold Held at hSw; (try dsimp only at hSw); go_simp)
              try simp only [Act.put, List.setIfInBounds_toArray, List.set_cons_zero, List.set_cons_succ]
              refine wpAnyH_take (i := 4) (oi := { dst := some 65, op := Go.Op.load 53 (Go.Operand.tmp 64), type := 53, pos := "arith.go:174", after := #[{ on := 3, ground := Go.Ground.data }], guard := none }) (v := .slice (some ⟨b, 0, none⟩) 2 2) rfl (by kernel_rfl) (by kernel_rfl) (by kernel_rfl) (fun _ _ _ h => h) (Or.inl ⟨by kernel_rfl, ?_⟩) (by assumption) ?_
              · (intro w hSw; unfold Held at hSw; (try dsimp only at hSw); go_simp)
              try simp only [Act.put, List.setIfInBounds_toArray, List.set_cons_zero, List.set_cons_succ]
              refine wpAnyH_take (i := 5) (oi := { dst := some 66, op := Go.Op.indexAddr 53 (Go.Operand.tmp 65) (Go.Operand.const (Go.Value.int Go.IntKind.i64 1)), type := 0, pos := "arith.go:174", after := #[{ on := 4, ground := Go.Ground.data }], guard := none }) (v := .pointer (some ⟨b, 4, none⟩)) rfl (by kernel_rfl) (by kernel_rfl) (by kernel_rfl) (fun _ _ _ h => h) (Or.inl ⟨by kernel_rfl, ?_⟩) (by assumption) ?_
              · (intro w hSw; unfold Held at hSw; (try dsimp only at hSw); go_simp)
              try simp only [Act.put, List.setIfInBounds_toArray, List.set_cons_zero, List.set_cons_succ]
              refine wpAnyH_take (i := 6) (oi := { dst := some 67, op := Go.Op.load 55 (Go.Operand.tmp 66), type := 55, pos := "arith.go:174", after := #[{ on := 5, ground := Go.Ground.data }], guard := none }) (v := .agg #[.string zm, .slice zA zn zc, .int .i64 zi, .string zt]) rfl (by kernel_rfl) (by kernel_rfl) (by kernel_rfl) (fun _ _ _ h => h) (Or.inl ⟨by kernel_rfl, ?_⟩) (by assumption) ?_
              · (intro w hSw; unfold Held at hSw; (try dsimp only at hSw); go_simp)
              try simp only [Act.put, List.setIfInBounds_toArray, List.set_cons_zero, List.set_cons_succ]
              refine wpAnyH_take (i := 7) (oi := { dst := some 68, op := Go.Op.move (Go.Operand.tmp 1), type := 22, pos := "arith.go:174", after := #[], guard := none }) (v := .slice A l.length c) rfl (by kernel_rfl) (by kernel_rfl) (by kernel_rfl) (fun _ _ _ h => h) (Or.inl ⟨by kernel_rfl, ?_⟩) (by assumption) ?_
              · (intro w hSw; unfold Held at hSw; (try dsimp only at hSw); go_simp)
              try simp only [Act.put, List.setIfInBounds_toArray, List.set_cons_zero, List.set_cons_succ]
              refine wpAnyH_ready (rs := [8]) (by kernel_rfl) (by simp) ?_
              refine AllReadyH.cons (o := { dst := some 69, op := Go.Op.call { callee := Go.Callee.value (Go.Operand.func 26), args := #[Go.Operand.tmp 67, Go.Operand.tmp 68], argTypes := #[55, 22] }, type := 2, pos := "arith.go:174", after := #[{ on := 6, ground := Go.Ground.data }, { on := 7, ground := Go.Ground.data }], guard := none }) rfl (fun K hK => ?_) AllReadyH.nil
              go_simp
              refine (HD.out w2.drew ok _ HND3.out (Kd.C_below HR.out HB3.out) (HG.out.below HB3.out)).mono ?_
              rw [HVD.out]
              rintro e w3 ⟨rfl, hb3⟩
              have HBX3 := Aside0.mk (blk_below HBX2.out (show Below w2.heap.size w2 w3 from ⟨hb3.os, hb3.tape, hb3.output, hb3.size, hb3.block⟩))
              have HBL3 := Aside0.mk (blk_below HBL2.out (show Below w2.heap.size w2 w3 from ⟨hb3.os, hb3.tape, hb3.output, hb3.size, hb3.block⟩))
              go_simp
              refine hK.out _ _ (held_of HBX3.out HBL3.out) (fun hHeld2 => ?_)
              clear hK K hHeld
              try simp only [Act.put, List.setIfInBounds_toArray, List.set_cons_zero, List.set_cons_succ]
              refine wpAnyH_ready (rs := [9]) (by kernel_rfl) (by simp) ?_
              refine AllReadyH.cons (o := { dst := some 70, op := Go.Op.call { callee := Go.Callee.value (Go.Operand.func 41), args := #[Go.Operand.tmp 62, Go.Operand.tmp 63, Go.Operand.tmp 69], argTypes := #[9, 2, 2] }, type := 2, pos := "arith.go:174", after := #[{ on := 1, ground := Go.Ground.data }, { on := 2, ground := Go.Ground.data }, { on := 8, ground := Go.Ground.data }, { on := 8, ground := Go.Ground.chain }], guard := none }) rfl (fun K hK => ?_) AllReadyH.nil
              go_simp
              rw [← HMS.out]
              refine (two_calls _ _ _ _ _ HII.out.1 HII.out.2 HIY.out.1 HIY.out.2 HT.out).mono ?_
              rintro e w4 ⟨rfl, rfl⟩
              rw [HMS.out]
              go_simp
              refine hK.out _ _ hHeld2 (fun hHeld3 => ?_)
              clear hK K hHeld2
              try simp only [Act.put, List.setIfInBounds_toArray, List.set_cons_zero, List.set_cons_succ]
              refine wpAnyH_take (i := 10) (oi := { dst := some 4, op := Go.Op.assign (Go.Operand.tmp 70), type := 2, pos := "arith.go:174", after := #[{ on := 9, ground := Go.Ground.data }, { on := 9, ground := Go.Ground.chain }, { on := 0, ground := Go.Ground.phase }, { on := 1, ground := Go.Ground.phase }, { on := 2, ground := Go.Ground.phase }, { on := 3, ground := Go.Ground.phase }, { on := 4, ground := Go.Ground.phase }, { on := 5, ground := Go.Ground.phase }, { on := 6, ground := Go.Ground.phase }, { on := 7, ground := Go.Ground.phase }, { on := 8, ground := Go.Ground.phase }, { on := 9, ground := Go.Ground.phase }], guard := none }) (v := .int .i64 r) rfl (by kernel_rfl) (by kernel_rfl) (by kernel_rfl) (fun _ _ _ h => h) (Or.inl ⟨by kernel_rfl, ?_⟩) (by assumption) ?_
              · (intro w hSw; (try dsimp only at hSw); go_simp)
              try simp only [Act.put, List.setIfInBounds_toArray, List.set_cons_zero, List.set_cons_succ]
              refine wpAnyH_done (by kernel_rfl) ?_ _
              go_wp2_with fail
              go_ret
              rw [HE.out, HVD.out]
              dsimp only
              rw [HT.out]
              exact ⟨rfl, below_then HB3.out HB3.out.size hb3⟩
        · have q1 : ¬ ms.toList = [124, 124] := by rw [← HMS.out, ByteArray.toList_eq]; cases m <;> simp_all [Bop.str]
          have q2 : ¬ ms.toList = [38, 38] := by rw [← HMS.out, ByteArray.toList_eq]; cases m <;> simp_all [Bop.str]
          have q3 : (ms.toList == [124, 124]) = false := beq_eq_false_iff_ne.mpr q1
          have q4 : (ms.toList == [38, 38]) = false := beq_eq_false_iff_ne.mpr q2
          clear hm1 hm2
          go_wp2_with fail
          have HB3 := Aside0.mk (show Below w.heap.size w w2.drew from below_drew HB2.out)
          have HND3 := Aside0.mk (HND2.out.step (W' := w2.drew) (ok' := ok) fun b hb' _ => ⟨hb', rfl⟩)
          clear e0 e1 e2 e3
          cases hvd : valueV l d with
          | error x =>
            have HVD := Aside0.mk hvd; clear hvd
            refine wp_region_held_drew (S := Held w.heap.size ms b zm zA zn zc zi zt) (by kernel_rfl) (held_of (W := w2.drew) HBX2.out HBL2.out) (fun hHeld => ?_)
            refine wpAnyH_take (i := 0) (oi := { dst := some 61, op := Go.Op.fieldAddr 55 (Go.Operand.tmp 2) 0, type := 0, pos := "arith.go:174", after := #[], guard := none }) (v := .pointer (some ⟨w.heap.size, 0, none⟩)) rfl (by kernel_rfl) (by kernel_rfl) (by kernel_rfl) (fun _ _ _ h => h) (Or.inl ⟨by kernel_rfl, ?_⟩) (by assumption) ?_
            · (intro w hSw; unfold Held at hSw; (try dsimp only at hSw); go_simp)
            try simp only [Act.put, List.setIfInBounds_toArray, List.set_cons_zero, List.set_cons_succ]
            refine wpAnyH_take (i := 1) (oi := { dst := some 62, op := Go.Op.load 9 (Go.Operand.tmp 61), type := 9, pos := "arith.go:174", after := #[{ on := 0, ground := Go.Ground.data }], guard := none }) (v := .string ms) rfl (by kernel_rfl) (by kernel_rfl) (by kernel_rfl) (fun _ _ _ h => h) (Or.inl ⟨by kernel_rfl, ?_⟩) (by assumption) ?_
            · (intro w hSw; unfold Held at hSw; (try dsimp only at hSw); go_simp)
            try simp only [Act.put, List.setIfInBounds_toArray, List.set_cons_zero, List.set_cons_succ]
            refine wpAnyH_take (i := 2) (oi := { dst := some 63, op := Go.Op.move (Go.Operand.tmp 5), type := 2, pos := "arith.go:174", after := #[], guard := none }) (v := .int .i64 v) rfl (by kernel_rfl) (by kernel_rfl) (by kernel_rfl) (fun _ _ _ h => h) (Or.inl ⟨by kernel_rfl, ?_⟩) (by assumption) ?_
            · (intro w hSw; unfold Held at hSw; (try dsimp only at hSw); go_simp)
            try simp only [Act.put, List.setIfInBounds_toArray, List.set_cons_zero, List.set_cons_succ]
            refine wpAnyH_take (i := 3) (oi := { dst := some 64, op := Go.Op.fieldAddr 55 (Go.Operand.tmp 2) 1, type := 0, pos := "arith.go:174", after := #[], guard := none }) (v := .pointer (some ⟨w.heap.size, 1, none⟩)) rfl (by kernel_rfl) (by kernel_rfl) (by kernel_rfl) (fun _ _ _ h => h) (Or.inl ⟨by kernel_rfl, ?_⟩) (by assumption) ?_
            · (intro w hSw; unfold Held at hSw; (try dsimp only at hSw); go_simp)
            try simp only [Act.put, List.setIfInBounds_toArray, List.set_cons_zero, List.set_cons_succ]
            refine wpAnyH_take (i := 4) (oi := { dst := some 65, op := Go.Op.load 53 (Go.Operand.tmp 64), type := 53, pos := "arith.go:174", after := #[{ on := 3, ground := Go.Ground.data }], guard := none }) (v := .slice (some ⟨b, 0, none⟩) 2 2) rfl (by kernel_rfl) (by kernel_rfl) (by kernel_rfl) (fun _ _ _ h => h) (Or.inl ⟨by kernel_rfl, ?_⟩) (by assumption) ?_
            · (intro w hSw; unfold Held at hSw; (try dsimp only at hSw); go_simp)
            try simp only [Act.put, List.setIfInBounds_toArray, List.set_cons_zero, List.set_cons_succ]
            refine wpAnyH_take (i := 5) (oi := { dst := some 66, op := Go.Op.indexAddr 53 (Go.Operand.tmp 65) (Go.Operand.const (Go.Value.int Go.IntKind.i64 1)), type := 0, pos := "arith.go:174", after := #[{ on := 4, ground := Go.Ground.data }], guard := none }) (v := .pointer (some ⟨b, 4, none⟩)) rfl (by kernel_rfl) (by kernel_rfl) (by kernel_rfl) (fun _ _ _ h => h) (Or.inl ⟨by kernel_rfl, ?_⟩) (by assumption) ?_
            · (intro w hSw; unfold Held at hSw; (try dsimp only at hSw); go_simp)
            try simp only [Act.put, List.setIfInBounds_toArray, List.set_cons_zero, List.set_cons_succ]
            refine wpAnyH_take (i := 6) (oi := { dst := some 67, op := Go.Op.load 55 (Go.Operand.tmp 66), type := 55, pos := "arith.go:174", after := #[{ on := 5, ground := Go.Ground.data }], guard := none }) (v := .agg #[.string zm, .slice zA zn zc, .int .i64 zi, .string zt]) rfl (by kernel_rfl) (by kernel_rfl) (by kernel_rfl) (fun _ _ _ h => h) (Or.inl ⟨by kernel_rfl, ?_⟩) (by assumption) ?_
            · (intro w hSw; unfold Held at hSw; (try dsimp only at hSw); go_simp)
            try simp only [Act.put, List.setIfInBounds_toArray, List.set_cons_zero, List.set_cons_succ]
            refine wpAnyH_take (i := 7) (oi := { dst := some 68, op := Go.Op.move (Go.Operand.tmp 1), type := 22, pos := "arith.go:174", after := #[], guard := none }) (v := .slice A l.length c) rfl (by kernel_rfl) (by kernel_rfl) (by kernel_rfl) (fun _ _ _ h => h) (Or.inl ⟨by kernel_rfl, ?_⟩) (by assumption) ?_
            · (intro w hSw; unfold Held at hSw; (try dsimp only at hSw); go_simp)
            try simp only [Act.put, List.setIfInBounds_toArray, List.set_cons_zero, List.set_cons_succ]
            refine wpAnyH_ready (rs := [8]) (by kernel_rfl) (by simp) ?_
            refine AllReadyH.cons (o := { dst := some 69, op := Go.Op.call { callee := Go.Callee.value (Go.Operand.func 26), args := #[Go.Operand.tmp 67, Go.Operand.tmp 68], argTypes := #[55, 22] }, type := 2, pos := "arith.go:174", after := #[{ on := 6, ground := Go.Ground.data }, { on := 7, ground := Go.Ground.data }], guard := none }) rfl (fun K hK => ?_) AllReadyH.nil
            go_simp
            refine (HD.out w2.drew ok _ HND3.out (Kd.C_below HR.out HB3.out) (HG.out.below HB3.out)).mono ?_
            rw [HVD.out]
            rintro e w3 ⟨rfl, hb3⟩
            rw [HE.out, HVD.out]
            exact ⟨rfl, rfl, below_then HB3.out HB3.out.size hb3⟩
          | ok y =>
            have HVD := Aside0.mk hvd
            have HIY := Aside0.mk (value_I64 HKD.out hvd)
            clear hvd
            cases ht : twoV m v y with
            | error x =>
              have HTZ := Aside0.mk (two_err ht)
              obtain rfl := HTZ.out.2.2
              have HT := Aside0.mk ht; clear ht
              have HTZ := Aside0.mk (⟨HTZ.out.1, HTZ.out.2.1⟩ : (_ ∧ _))
              refine wp_region_held_drew (S := Held w.heap.size ms b zm zA zn zc zi zt) (by kernel_rfl) (held_of (W := w2.drew) HBX2.out HBL2.out) (fun hHeld => ?_)
              refine wpAnyH_take (i := 0) (oi := { dst := some 61, op := Go.Op.fieldAddr 55 (Go.Operand.tmp 2) 0, type := 0, pos := "arith.go:174", after := #[], guard := none }) (v := .pointer (some ⟨w.heap.size, 0, none⟩)) rfl (by kernel_rfl) (by kernel_rfl) (by kernel_rfl) (fun _ _ _ h => h) (Or.inl ⟨by kernel_rfl, ?_⟩) (by assumption) ?_
              · (intro w hSw; unfold Held at hSw; (try dsimp only at hSw); go_simp)
              try simp only [Act.put, List.setIfInBounds_toArray, List.set_cons_zero, List.set_cons_succ]
              refine wpAnyH_take (i := 1) (oi := { dst := some 62, op := Go.Op.load 9 (Go.Operand.tmp 61), type := 9, pos := "arith.go:174", after := #[{ on := 0, ground := Go.Ground.data }], guard := none }) (v := .string ms) rfl (by kernel_rfl) (by kernel_rfl) (by kernel_rfl) (fun _ _ _ h => h) (Or.inl ⟨by kernel_rfl, ?_⟩) (by assumption) ?_
              · (intro w hSw; unfold Held at hSw; (try dsimp only at hSw); go_simp)
              try simp only [Act.put, List.setIfInBounds_toArray, List.set_cons_zero, List.set_cons_succ]
              refine wpAnyH_take (i := 2) (oi := { dst := some 63, op := Go.Op.move (Go.Operand.tmp 5), type := 2, pos := "arith.go:174", after := #[], guard := none }) (v := .int .i64 v) rfl (by kernel_rfl) (by kernel_rfl) (by kernel_rfl) (fun _ _ _ h => h) (Or.inl ⟨by kernel_rfl, ?_⟩) (by assumption) ?_
              · (intro w hSw; unfold Held at hSw; (try dsimp only at hSw); go_simp)
              try simp only [Act.put, List.setIfInBounds_toArray, List.set_cons_zero, List.set_cons_succ]
              refine wpAnyH_take (i := 3) (oi := { dst := some 64, op := Go.Op.fieldAddr 55 (Go.Operand.tmp 2) 1, type := 0, pos := "arith.go:174", after := #[], guard := none }) (v := .pointer (some ⟨w.heap.size, 1, none⟩)) rfl (by kernel_rfl) (by kernel_rfl) (by kernel_rfl) (fun _ _ _ h => h) (Or.inl ⟨by kernel_rfl, ?_⟩) (by assumption) ?_
              · (intro w hSw; unfold Held at hSw; (try dsimp only at hSw); go_simp)
              try simp only [Act.put, List.setIfInBounds_toArray, List.set_cons_zero, List.set_cons_succ]
              refine wpAnyH_take (i := 4) (oi := { dst := some 65, op := Go.Op.load 53 (Go.Operand.tmp 64), type := 53, pos := "arith.go:174", after := #[{ on := 3, ground := Go.Ground.data }], guard := none }) (v := .slice (some ⟨b, 0, none⟩) 2 2) rfl (by kernel_rfl) (by kernel_rfl) (by kernel_rfl) (fun _ _ _ h => h) (Or.inl ⟨by kernel_rfl, ?_⟩) (by assumption) ?_
              · (intro w hSw; unfold Held at hSw; (try dsimp only at hSw); go_simp)
              try simp only [Act.put, List.setIfInBounds_toArray, List.set_cons_zero, List.set_cons_succ]
              refine wpAnyH_take (i := 5) (oi := { dst := some 66, op := Go.Op.indexAddr 53 (Go.Operand.tmp 65) (Go.Operand.const (Go.Value.int Go.IntKind.i64 1)), type := 0, pos := "arith.go:174", after := #[{ on := 4, ground := Go.Ground.data }], guard := none }) (v := .pointer (some ⟨b, 4, none⟩)) rfl (by kernel_rfl) (by kernel_rfl) (by kernel_rfl) (fun _ _ _ h => h) (Or.inl ⟨by kernel_rfl, ?_⟩) (by assumption) ?_
              · (intro w hSw; unfold Held at hSw; (try dsimp only at hSw); go_simp)
              try simp only [Act.put, List.setIfInBounds_toArray, List.set_cons_zero, List.set_cons_succ]
              refine wpAnyH_take (i := 6) (oi := { dst := some 67, op := Go.Op.load 55 (Go.Operand.tmp 66), type := 55, pos := "arith.go:174", after := #[{ on := 5, ground := Go.Ground.data }], guard := none }) (v := .agg #[.string zm, .slice zA zn zc, .int .i64 zi, .string zt]) rfl (by kernel_rfl) (by kernel_rfl) (by kernel_rfl) (fun _ _ _ h => h) (Or.inl ⟨by kernel_rfl, ?_⟩) (by assumption) ?_
              · (intro w hSw; unfold Held at hSw; (try dsimp only at hSw); go_simp)
              try simp only [Act.put, List.setIfInBounds_toArray, List.set_cons_zero, List.set_cons_succ]
              refine wpAnyH_take (i := 7) (oi := { dst := some 68, op := Go.Op.move (Go.Operand.tmp 1), type := 22, pos := "arith.go:174", after := #[], guard := none }) (v := .slice A l.length c) rfl (by kernel_rfl) (by kernel_rfl) (by kernel_rfl) (fun _ _ _ h => h) (Or.inl ⟨by kernel_rfl, ?_⟩) (by assumption) ?_
              · (intro w hSw; unfold Held at hSw; (try dsimp only at hSw); go_simp)
              try simp only [Act.put, List.setIfInBounds_toArray, List.set_cons_zero, List.set_cons_succ]
              refine wpAnyH_ready (rs := [8]) (by kernel_rfl) (by simp) ?_
              refine AllReadyH.cons (o := { dst := some 69, op := Go.Op.call { callee := Go.Callee.value (Go.Operand.func 26), args := #[Go.Operand.tmp 67, Go.Operand.tmp 68], argTypes := #[55, 22] }, type := 2, pos := "arith.go:174", after := #[{ on := 6, ground := Go.Ground.data }, { on := 7, ground := Go.Ground.data }], guard := none }) rfl (fun K hK => ?_) AllReadyH.nil
              go_simp
              refine (HD.out w2.drew ok _ HND3.out (Kd.C_below HR.out HB3.out) (HG.out.below HB3.out)).mono ?_
              rw [HVD.out]
              rintro e w3 ⟨rfl, hb3⟩
              have HBX3 := Aside0.mk (blk_below HBX2.out (show Below w2.heap.size w2 w3 from ⟨hb3.os, hb3.tape, hb3.output, hb3.size, hb3.block⟩))
              have HBL3 := Aside0.mk (blk_below HBL2.out (show Below w2.heap.size w2 w3 from ⟨hb3.os, hb3.tape, hb3.output, hb3.size, hb3.block⟩))
              go_simp
              refine hK.out _ _ (held_of HBX3.out HBL3.out) (fun hHeld2 => ?_)
              clear hK K hHeld
              try simp only [Act.put, List.setIfInBounds_toArray, List.set_cons_zero, List.set_cons_succ]
              refine wpAnyH_ready (rs := [9]) (by kernel_rfl) (by simp) ?_
              refine AllReadyH.cons (o := { dst := some 70, op := Go.Op.call { callee := Go.Callee.value (Go.Operand.func 41), args := #[Go.Operand.tmp 62, Go.Operand.tmp 63, Go.Operand.tmp 69], argTypes := #[9, 2, 2] }, type := 2, pos := "arith.go:174", after := #[{ on := 1, ground := Go.Ground.data }, { on := 2, ground := Go.Ground.data }, { on := 8, ground := Go.Ground.data }, { on := 8, ground := Go.Ground.chain }], guard := none }) rfl (fun K hK => ?_) AllReadyH.nil
              go_simp
              rw [← HMS.out]
              refine (two_zero _ _ _ _ HTZ.out.1 HTZ.out.2).mono ?_
              rintro e w4 ⟨rfl, rfl⟩
              rw [HE.out, HVD.out]
              dsimp only
              rw [HT.out]
              exact ⟨rfl, rfl, below_then HB3.out HB3.out.size hb3⟩
            | ok r =>
              have HT := Aside0.mk ht; clear ht
              refine wp_region_held_drew (S := Held w.heap.size ms b zm zA zn zc zi zt) (by kernel_rfl) (held_of (W := w2.drew) HBX2.out HBL2.out) (fun hHeld => ?_)
              refine wpAnyH_take (i := 0) (oi := { dst := some 61, op := Go.Op.fieldAddr 55 (Go.Operand.tmp 2) 0, type := 0, pos := "arith.go:174", after := #[], guard := none }) (v := .pointer (some ⟨w.heap.size, 0, none⟩)) rfl (by kernel_rfl) (by kernel_rfl) (by kernel_rfl) (fun _ _ _ h => h) (Or.inl ⟨by kernel_rfl, ?_⟩) (by assumption) ?_
              · (intro w hSw; unfold Held at hSw; (try dsimp only at hSw); go_simp)
              try simp only [Act.put, List.setIfInBounds_toArray, List.set_cons_zero, List.set_cons_succ]
              refine wpAnyH_take (i := 1) (oi := { dst := some 62, op := Go.Op.load 9 (Go.Operand.tmp 61), type := 9, pos := "arith.go:174", after := #[{ on := 0, ground := Go.Ground.data }], guard := none }) (v := .string ms) rfl (by kernel_rfl) (by kernel_rfl) (by kernel_rfl) (fun _ _ _ h => h) (Or.inl ⟨by kernel_rfl, ?_⟩) (by assumption) ?_
              · (intro w hSw; unfold Held at hSw; (try dsimp only at hSw); go_simp)
              try simp only [Act.put, List.setIfInBounds_toArray, List.set_cons_zero, List.set_cons_succ]
              refine wpAnyH_take (i := 2) (oi := { dst := some 63, op := Go.Op.move (Go.Operand.tmp 5), type := 2, pos := "arith.go:174", after := #[], guard := none }) (v := .int .i64 v) rfl (by kernel_rfl) (by kernel_rfl) (by kernel_rfl) (fun _ _ _ h => h) (Or.inl ⟨by kernel_rfl, ?_⟩) (by assumption) ?_
              · (intro w hSw; unfold Held at hSw; (try dsimp only at hSw); go_simp)
              try simp only [Act.put, List.setIfInBounds_toArray, List.set_cons_zero, List.set_cons_succ]
              refine wpAnyH_take (i := 3) (oi := { dst := some 64, op := Go.Op.fieldAddr 55 (Go.Operand.tmp 2) 1, type := 0, pos := "arith.go:174", after := #[], guard := none }) (v := .pointer (some ⟨w.heap.size, 1, none⟩)) rfl (by kernel_rfl) (by kernel_rfl) (by kernel_rfl) (fun _ _ _ h => h) (Or.inl ⟨by kernel_rfl, ?_⟩) (by assumption) ?_
              · (intro w hSw; unfold Held at hSw; (try dsimp only at hSw); go_simp)
              try simp only [Act.put, List.setIfInBounds_toArray, List.set_cons_zero, List.set_cons_succ]
              refine wpAnyH_take (i := 4) (oi := { dst := some 65, op := Go.Op.load 53 (Go.Operand.tmp 64), type := 53, pos := "arith.go:174", after := #[{ on := 3, ground := Go.Ground.data }], guard := none }) (v := .slice (some ⟨b, 0, none⟩) 2 2) rfl (by kernel_rfl) (by kernel_rfl) (by kernel_rfl) (fun _ _ _ h => h) (Or.inl ⟨by kernel_rfl, ?_⟩) (by assumption) ?_
              · (intro w hSw; unfold Held at hSw; (try dsimp only at hSw); go_simp)
              try simp only [Act.put, List.setIfInBounds_toArray, List.set_cons_zero, List.set_cons_succ]
              refine wpAnyH_take (i := 5) (oi := { dst := some 66, op := Go.Op.indexAddr 53 (Go.Operand.tmp 65) (Go.Operand.const (Go.Value.int Go.IntKind.i64 1)), type := 0, pos := "arith.go:174", after := #[{ on := 4, ground := Go.Ground.data }], guard := none }) (v := .pointer (some ⟨b, 4, none⟩)) rfl (by kernel_rfl) (by kernel_rfl) (by kernel_rfl) (fun _ _ _ h => h) (Or.inl ⟨by kernel_rfl, ?_⟩) (by assumption) ?_
              · (intro w hSw; unfold Held at hSw; (try dsimp only at hSw); go_simp)
              try simp only [Act.put, List.setIfInBounds_toArray, List.set_cons_zero, List.set_cons_succ]
              refine wpAnyH_take (i := 6) (oi := { dst := some 67, op := Go.Op.load 55 (Go.Operand.tmp 66), type := 55, pos := "arith.go:174", after := #[{ on := 5, ground := Go.Ground.data }], guard := none }) (v := .agg #[.string zm, .slice zA zn zc, .int .i64 zi, .string zt]) rfl (by kernel_rfl) (by kernel_rfl) (by kernel_rfl) (fun _ _ _ h => h) (Or.inl ⟨by kernel_rfl, ?_⟩) (by assumption) ?_
              · (intro w hSw; unfold Held at hSw; (try dsimp only at hSw); go_simp)
              try simp only [Act.put, List.setIfInBounds_toArray, List.set_cons_zero, List.set_cons_succ]
              refine wpAnyH_take (i := 7) (oi := { dst := some 68, op := Go.Op.move (Go.Operand.tmp 1), type := 22, pos := "arith.go:174", after := #[], guard := none }) (v := .slice A l.length c) rfl (by kernel_rfl) (by kernel_rfl) (by kernel_rfl) (fun _ _ _ h => h) (Or.inl ⟨by kernel_rfl, ?_⟩) (by assumption) ?_
              · (intro w hSw; unfold Held at hSw; (try dsimp only at hSw); go_simp)
              try simp only [Act.put, List.setIfInBounds_toArray, List.set_cons_zero, List.set_cons_succ]
              refine wpAnyH_ready (rs := [8]) (by kernel_rfl) (by simp) ?_
              refine AllReadyH.cons (o := { dst := some 69, op := Go.Op.call { callee := Go.Callee.value (Go.Operand.func 26), args := #[Go.Operand.tmp 67, Go.Operand.tmp 68], argTypes := #[55, 22] }, type := 2, pos := "arith.go:174", after := #[{ on := 6, ground := Go.Ground.data }, { on := 7, ground := Go.Ground.data }], guard := none }) rfl (fun K hK => ?_) AllReadyH.nil
              go_simp
              refine (HD.out w2.drew ok _ HND3.out (Kd.C_below HR.out HB3.out) (HG.out.below HB3.out)).mono ?_
              rw [HVD.out]
              rintro e w3 ⟨rfl, hb3⟩
              have HBX3 := Aside0.mk (blk_below HBX2.out (show Below w2.heap.size w2 w3 from ⟨hb3.os, hb3.tape, hb3.output, hb3.size, hb3.block⟩))
              have HBL3 := Aside0.mk (blk_below HBL2.out (show Below w2.heap.size w2 w3 from ⟨hb3.os, hb3.tape, hb3.output, hb3.size, hb3.block⟩))
              go_simp
              refine hK.out _ _ (held_of HBX3.out HBL3.out) (fun hHeld2 => ?_)
              clear hK K hHeld
              try simp only [Act.put, List.setIfInBounds_toArray, List.set_cons_zero, List.set_cons_succ]
              refine wpAnyH_ready (rs := [9]) (by kernel_rfl) (by simp) ?_
              refine AllReadyH.cons (o := { dst := some 70, op := Go.Op.call { callee := Go.Callee.value (Go.Operand.func 41), args := #[Go.Operand.tmp 62, Go.Operand.tmp 63, Go.Operand.tmp 69], argTypes := #[9, 2, 2] }, type := 2, pos := "arith.go:174", after := #[{ on := 1, ground := Go.Ground.data }, { on := 2, ground := Go.Ground.data }, { on := 8, ground := Go.Ground.data }, { on := 8, ground := Go.Ground.chain }], guard := none }) rfl (fun K hK => ?_) AllReadyH.nil
              go_simp
              rw [← HMS.out]
              refine (two_calls _ _ _ _ _ HII.out.1 HII.out.2 HIY.out.1 HIY.out.2 HT.out).mono ?_
              rintro e w4 ⟨rfl, rfl⟩
              rw [HMS.out]
              go_simp
              refine hK.out _ _ hHeld2 (fun hHeld3 => ?_)
              clear hK K hHeld2
              try simp only [Act.put, List.setIfInBounds_toArray, List.set_cons_zero, List.set_cons_succ]
              refine wpAnyH_take (i := 10) (oi := { dst := some 4, op := Go.Op.assign (Go.Operand.tmp 70), type := 2, pos := "arith.go:174", after := #[{ on := 9, ground := Go.Ground.data }, { on := 9, ground := Go.Ground.chain }, { on := 0, ground := Go.Ground.phase }, { on := 1, ground := Go.Ground.phase }, { on := 2, ground := Go.Ground.phase }, { on := 3, ground := Go.Ground.phase }, { on := 4, ground := Go.Ground.phase }, { on := 5, ground := Go.Ground.phase }, { on := 6, ground := Go.Ground.phase }, { on := 7, ground := Go.Ground.phase }, { on := 8, ground := Go.Ground.phase }, { on := 9, ground := Go.Ground.phase }], guard := none }) (v := .int .i64 r) rfl (by kernel_rfl) (by kernel_rfl) (by kernel_rfl) (fun _ _ _ h => h) (Or.inl ⟨by kernel_rfl, ?_⟩) (by assumption) ?_
              · (intro w hSw; (try dsimp only at hSw); go_simp)
              try simp only [Act.put, List.setIfInBounds_toArray, List.set_cons_zero, List.set_cons_succ]
              refine wpAnyH_done (by kernel_rfl) ?_ _
              go_wp2_with fail
              go_ret
              rw [HE.out, HVD.out]
              dsimp only
              rw [HT.out]
              exact ⟨rfl, below_then HB3.out HB3.out.size hb3⟩
end
theorem value_calls (A : Option Addr) (c : Nat) (l : Vars) (hl : l.length ≤ 140737488355328) (hf : Fit l) : ∀ nd, NodeOk nd → ValC A c l nd
  | .num n, _ => val_num A c l n
  | .name t, h => val_name A c l hl hf t h
  | .un m a, h => val_un A c l m a (value_calls A c l hl hf a h) h
  | .bin m a b, h => val_bin A c l m a b (value_calls A c l hl hf a h.1) (value_calls A c l hl hf b h.2) h.1 h.2
end Go.Proofs.YtambnodgfhlpfaaDoor.A
