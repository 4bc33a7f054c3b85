/- The functions of package hex that read a number and write one, walked: what each call comes to. Conditions: the table of figures and the two errors of package strconv lie as they are laid (GT, GE). -/
import Derived.Test.YtambnodgfhlpfaaDoorJGIsName
import Derived.Test.YtambnodgfhlpfaaDoorJShelf
import Derived.Deep.DeepCutAuto
import Derived.Deep.CutBlock
import Derived.WalkSmall
import Derived.Lib.LaidTab
import Derived.Lib.AppendIntMem
import Derived.Lib.AtoiErrMem
import Derived.Test.YtambnodgfhlpfaaDoorJWLast
namespace Go.Proofs.YtambnodgfhlpfaaDoor.G
open Go.RowKit Go.Proofs.YtambnodgfhlpfaaDoorW.PrintWords Go.Proofs.YtambnodgfhlpfaaDoorW.PrintLast

theorem var_below {n : String} {cs : Array Value} {w w' : World} (h : w.var? Tryd.prog n = some cs) (hb : Below w.heap.size w w') : w'.var? Tryd.prog n = some cs := by
  unfold World.var? at h ⊢
  cases hg : Tryd.prog.globalNamed n with
  | none => simp [hg] at h
  | some g =>
    simp only [hg, Option.bind_some] at h ⊢
    have hlt : g < w.heap.size := by
      rcases Nat.lt_or_ge g w.heap.size with h' | h'
      · exact h'
      · simp [Array.getElem?_eq_none h'] at h
    rw [hb.block g hlt]
    exact h
/-- The table of the library's that a number's figures are read from lies as it is laid. -/
structure GT (w : World) : Prop where
  tab : Lib.TabIs Tryd.prog w "internal/strconv.uint64pow10" .u64 Lib.pow10Tab
theorem GT.below {w w' : World} (h : GT w) (hb : Below w.heap.size w w') : GT w' := ⟨var_below h.tab hb⟩
/-- And the two errors. -/
structure GE (w : World) : Prop where
  tab : Lib.TabIs Tryd.prog w "internal/strconv.uint64pow10" .u64 Lib.pow10Tab
  rng : ∃ tp p, w.var? Tryd.prog "strconv.ErrRange" = some #[.iface tp p]
  syn : ∃ tp p, w.var? Tryd.prog "strconv.ErrSyntax" = some #[.iface tp p]
theorem GE.below {w w' : World} (h : GE w) (hb : Below w.heap.size w w') : GE w' :=
  ⟨var_below h.tab hb, let ⟨a, b, c⟩ := h.rng; ⟨a, b, var_below c hb⟩, let ⟨a, b, c⟩ := h.syn; ⟨a, b, var_below c hb⟩⟩
theorem GE.gt {w : World} (h : GE w) : GT w := ⟨h.tab⟩

/-- What ParseInt at base 10 and 64 bits comes to. -/
def parseV (s : ByteArray) : Option Int := match Lib.parseIntB 64 s.data.toList with | .ok v => some v | _ => none
theorem parse_ok (s : ByteArray) (hs : s.size ≤ 281474976710656) (v : Int) (w : World) (h : parseV s = some v) :
    Calls Tryd.prog 68 #[.string s, .int .i64 10, .int .i64 64] w fun e w' => e = .returned (.tuple #[.int .i64 v, .nilIface]) ∧ Below w.heap.size w w' := by
  have h' : Lib.parseIntB 64 s.data.toList = .ok v := by unfold parseV at h; split at h <;> simp_all
  refine (Tryd.strconv_ParseInt_10_at64_ok s (by omega) v h' w).mono ?_
  rintro e w' ⟨rfl, rfl | ⟨t, rfl⟩⟩
  · exact ⟨rfl, Below.refl _ _⟩
  · exact ⟨rfl, Lib.bytesWorld_below _ _ _⟩
theorem parse_no (s : ByteArray) (hs : s.size ≤ 281474976710656) (w : World) (hG : GE w) (h : parseV s = none) :
    Calls Tryd.prog 68 #[.string s, .int .i64 10, .int .i64 64] w fun e w' => (∃ (n : Int) (t : TypeId) (p : Value), e = .returned (.tuple #[.int .i64 n, .iface t p])) ∧ Below w.heap.size w w' := by
  obtain ⟨a, b, hr⟩ := hG.rng
  obtain ⟨a', b', hsy⟩ := hG.syn
  cases h' : Lib.parseIntB 64 s.data.toList with
  | ok v => simp [parseV, h'] at h
  | «syntax» =>
    refine (Tryd.strconv_ParseInt_10_at64_syntax_var s hs h' _ _ w hsy).mono ?_
    rintro e w' ⟨N, rfl, _, _, hb⟩
    exact ⟨⟨_, _, _, rfl⟩, hb⟩
  | range =>
    refine (Tryd.strconv_ParseInt_10_at64_range_var s hs h' _ _ w hr).mono ?_
    rintro e w' ⟨N, rfl, _, _, hb⟩
    exact ⟨⟨_, _, _, rfl⟩, hb⟩

theorem parse_any (s : ByteArray) (hs : s.size ≤ 281474976710656) (w : World) (hG : GE w) :
    Calls Tryd.prog 68 #[.string s, .int .i64 10, .int .i64 64] w fun e w' => (∃ (n : Int) (x : Value), e = .returned (.tuple #[.int .i64 n, x])) ∧ Below w.heap.size w w' := by
  cases h : parseV s with
  | some v => exact (parse_ok s hs v w h).mono fun e w' ⟨he, hb⟩ => ⟨⟨_, _, he⟩, hb⟩
  | none => exact (parse_no s hs w hG h).mono fun e w' ⟨⟨n, t, p, he⟩, hb⟩ => ⟨⟨_, _, he⟩, hb⟩

/-- Where the figures end that stand from i on. -/
def scan (s : ByteArray) : Nat → Nat → Nat
  | i, 0 => i
  | i, d + 1 => if 48 ≤ bt s i ∧ bt s i ≤ 57 then scan s (i + 1) d else i
theorem scan_yes (s : ByteArray) (i n : Nat) (h : i < n) (h1 : 48 ≤ bt s i) (h2 : bt s i ≤ 57) : scan s i (n - i) = scan s (i + 1) (n - (i + 1)) := by
  obtain ⟨d, hd⟩ : ∃ d, n - i = d + 1 := ⟨n - i - 1, by omega⟩
  rw [hd, show n - (i + 1) = d by omega, scan, if_pos ⟨h1, h2⟩]
theorem scan_no (s : ByteArray) (i n : Nat) (h : i < n) (h1 : ¬ (48 ≤ bt s i ∧ bt s i ≤ 57)) : scan s i (n - i) = i := by
  obtain ⟨d, hd⟩ : ∃ d, n - i = d + 1 := ⟨n - i - 1, by omega⟩
  rw [hd, scan, if_neg h1]
def signAt (s : ByteArray) : Nat := if 0 < s.size ∧ bt s 0 = 45 then 1 else 0
def endAt (s : ByteArray) : Nat := scan s (signAt s) (s.size - signAt s)
def wholeV (s : ByteArray) : Int × Int × Int :=
  if endAt s = signAt s then (0, 0, 2) else
  match parseV (s.extract 0 (endAt s)) with
  | some v => (v, endAt s, 0)
  | none => (0, 0, 3)
theorem signAt_le (s : ByteArray) : signAt s ≤ s.size := by unfold signAt; split <;> omega

set_option maxHeartbeats 2000000 in
theorem whole_calls (s : ByteArray) (w : World) (hs : s.size ≤ 281474976710656) (hG : GE w) :
    Calls Tryd.prog 54 #[.string s] w fun e w' => e = .returned (.tuple #[.int .i64 (wholeV s).1, .int .i64 (wholeV s).2.1, .int .i64 (wholeV s).2.2]) ∧ Below w.heap.size w w' := by
  have HG := Lib.hid hG
  clear hG
  go_enter Tryd.func54, Tryd.ntmps54
  go_upto_region 2 with (fail)
  go_cut [16] (fun v16 wc => v16 = .bool (decide (signAt s = 1)) ∧ w = wc)
  case first =>
    by_cases h0 : s.size = 0
    · have hl := toList_nil_of s h0
      have hsg : decide (signAt s = 1) = false := by unfold signAt; rw [if_neg (by omega)]; rfl
      have HS := Lib.hid hsg; clear hsg h0
      go_wp2
      go_meet
      case rel => exact ⟨by rw [HS.out], rfl⟩
    · have hp : 0 < s.size := by omega
      have hl := toList_ne_of s hp
      have hb : ((s[0]'hp).toNat : Int) = bt s 0 := bt_at s 0 hp
      by_cases h45 : bt s 0 = 45
      · have hsg : decide (signAt s = 1) = true := by unfold signAt; rw [if_pos ⟨hp, h45⟩]; rfl
        rw [h45] at hb
        have HS := Lib.hid hsg; clear hsg h0 h45
        go_wp2
        go_meet
        case rel => exact ⟨by rw [HS.out]; simp [hl], rfl⟩
      · have hsg : decide (signAt s = 1) = false := by unfold signAt; rw [if_neg (by omega)]; rfl
        have hne : ¬ ((s[0]'hp).toNat : Int) = 45 := by rw [hb]; exact h45
        have HS := Lib.hid hsg; clear hsg h0 h45 hb
        go_wp2
        go_meet
        case rel => exact ⟨by rw [HS.out]; simp [hne], rfl⟩
  case rest =>
  obtain ⟨rfl, rfl⟩ := hcut
  go_upto_if 16 with (fail)
  go_cut [5] (fun v5 wc => v5 = .int .i64 (signAt s) ∧ w = wc)
  case first =>
    by_cases h1 : signAt s = 1
    · go_wp2
      go_meet
      case rel => exact ⟨by rw [h1]; rfl, rfl⟩
    · have h2 : signAt s = 0 := by unfold signAt at h1 ⊢; split at h1 <;> simp_all
      have HS := Lib.hid h2; clear h2
      go_wp2
      go_meet
      case rel => exact ⟨by rw [HS.out]; rfl, rfl⟩
  case rest =>
    obtain ⟨rfl, rfl⟩ := hcut
    have hsl := signAt_le s
    go_wp2
    go_loop [5] (fun i => ∃ k : Nat, signAt s ≤ k ∧ k ≤ s.size ∧ i = .int .i64 k ∧ Aside0 (endAt s = scan s k (s.size - k))) (fun i => s.size - (intOf i).toNat)
    case atStart => exact ⟨signAt s, Nat.le_refl _, hsl, rfl, ⟨rfl⟩⟩
    case round =>
      obtain ⟨k, hk0, hk, rfl, HE⟩ := hrel
      by_cases hlt : k < s.size
      · have hb : ((s[k]'hlt).toNat : Int) = bt s k := by have := bt_at s k (by simpa using hlt); simpa using this
        by_cases hd : 48 ≤ bt s k ∧ bt s k ≤ 57
        · obtain ⟨hd1, hd2⟩ := hd
          have hy := scan_yes s k s.size hlt hd1 hd2
          have HY := Lib.hid hy; clear hy
          rw [← hb] at hd1 hd2
          clear hb
          go_wp2
          go_round
          case rel => exact ⟨k + 1, by omega, by omega, by go_num, ⟨by rw [HE.out, HY.out]⟩⟩
          case measure => simp [intOf]; omega
        · have hy := scan_no s k s.size hlt hd
          have HK := Lib.hid (show endAt s = k by rw [HE.out, hy])
          clear hy
          have hd2 : ((s[k]'hlt).toNat : Int) < 48 ∨ (48 ≤ ((s[k]'hlt).toNat : Int) ∧ 57 < ((s[k]'hlt).toNat : Int)) := by rw [hb]; omega
          clear hb hd
          rcases hd2 with hd2 | ⟨hd2, hd3⟩
          all_goals
            have hx : (s.extract 0 k).size ≤ 281474976710656 := by rw [ByteArray.size_extract]; omega
            by_cases hks : k = signAt s
            · have HV := Lib.hid (show wholeV s = (0, 0, 2) by unfold wholeV; rw [HK.out, if_pos hks])
              subst hks
              go_wp2_with (go_at_call 68; refine (parse_any _ hx _ HG.out).mono ?_; rintro e w' ⟨⟨n, x, rfl⟩, hb⟩)
              go_ret3
              exact ⟨by rw [HV.out]; rfl, by assumption⟩
            · cases hp : parseV (s.extract 0 k) with
              | some v =>
                have HV := Lib.hid (show wholeV s = (v, (k : Int), 0) by unfold wholeV; rw [HK.out, if_neg hks, hp])
                have HP := Lib.hid hp; clear hp
                go_wp2_with (go_at_call 68; refine (parse_ok _ hx _ _ HP.out).mono ?_; rintro e w' ⟨rfl, hb⟩)
                go_ret3
                exact ⟨by rw [HV.out]; rfl, by assumption⟩
              | none =>
                have HV := Lib.hid (show wholeV s = (0, 0, 3) by unfold wholeV; rw [HK.out, if_neg hks, hp])
                have HP := Lib.hid hp; clear hp
                go_wp2_with (go_at_call 68; refine (parse_no _ hx _ HG.out HP.out).mono ?_; rintro e w' ⟨⟨n, tp, x, rfl⟩, hb⟩)
                go_ret3
                exact ⟨by rw [HV.out]; rfl, by assumption⟩
      · have hk1 : s.size - k = 0 := by omega
        have HK := Lib.hid (show endAt s = k by rw [HE.out, hk1]; rfl)
        clear hk1
        have hx : (s.extract 0 k).size ≤ 281474976710656 := by rw [ByteArray.size_extract]; omega
        by_cases hks : k = signAt s
        · have HV := Lib.hid (show wholeV s = (0, 0, 2) by unfold wholeV; rw [HK.out, if_pos hks])
          subst hks
          go_wp2_with (go_at_call 68; refine (parse_any _ hx _ HG.out).mono ?_; rintro e w' ⟨⟨n, x, rfl⟩, hb⟩)
          go_ret3
          exact ⟨by rw [HV.out]; rfl, by assumption⟩
        · cases hp : parseV (s.extract 0 k) with
          | some v =>
            have HV := Lib.hid (show wholeV s = (v, (k : Int), 0) by unfold wholeV; rw [HK.out, if_neg hks, hp])
            have HP := Lib.hid hp; clear hp
            go_wp2_with (go_at_call 68; refine (parse_ok _ hx _ _ HP.out).mono ?_; rintro e w' ⟨rfl, hb⟩)
            go_ret3
            exact ⟨by rw [HV.out]; rfl, by assumption⟩
          | none =>
            have HV := Lib.hid (show wholeV s = (0, 0, 3) by unfold wholeV; rw [HK.out, if_neg hks, hp])
            have HP := Lib.hid hp; clear hp
            go_wp2_with (go_at_call 68; refine (parse_no _ hx _ HG.out HP.out).mono ?_; rintro e w' ⟨⟨n, tp, x, rfl⟩, hb⟩)
            go_ret3
            exact ⟨by rw [HV.out]; rfl, by assumption⟩
end Go.Proofs.YtambnodgfhlpfaaDoor.G
