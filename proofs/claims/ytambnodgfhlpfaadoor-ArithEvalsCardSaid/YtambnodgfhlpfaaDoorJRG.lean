/- Package arith: unary, walked, where a word stands: figures, or a name. -/
import Derived.Test.YtambnodgfhlpfaaDoorJRF
import Derived.Lib.SlTrimSet
set_option linter.unusedVariables false
set_option linter.unusedSimpArgs false
namespace Go.Proofs.YtambnodgfhlpfaaDoor.A
open Go.RowKit Go.Proofs.YtambnodgfhlpfaaDoorW.PrintWords Go.Proofs.YtambnodgfhlpfaaDoorW.PrintLast Go.Proofs.YtambnodgfhlpfaaDoor.G

theorem name_calls (t : ByteArray) (b : Bool) (w : World) (hs : t.size ≤ 9223372036854775807) (h : nameB t = b) :
    Calls Tryd.prog 31 #[.string t] w fun e w' => e = .returned (.bool b) ∧ Below w.heap.size w w' := by rw [← h]; exact isName_calls t w hs
def digs : ByteArray := ⟨#[48, 49, 50, 51, 52, 53, 54, 55, 56, 57]⟩
def dgT (t : ByteArray) : ByteArray := ⟨(Lib.trimS t.data.toList digs.data.toList).toArray⟩
theorem trim_calls (t : ByteArray) (w : World) (hs : t.size ≤ 9223372036854775807) :
    Calls Tryd.prog 53 #[.string t, .string ⟨#[48, 49, 50, 51, 52, 53, 54, 55, 56, 57]⟩] w fun e w' => e = .returned (.string (dgT t)) ∧ Below w.heap.size w w' :=
  Tryd.strings_Trim_laid t digs w hs (by decide) (ascii_of_all (by decide))
theorem trim_yes (t : ByteArray) (w : World) (hs : t.size ≤ 9223372036854775807) (h : dgT t = ⟨#[]⟩) :
    Calls Tryd.prog 53 #[.string t, .string ⟨#[48, 49, 50, 51, 52, 53, 54, 55, 56, 57]⟩] w fun e w' => e = .returned (.string ⟨#[]⟩) ∧ Below w.heap.size w w' := by rw [← h]; exact trim_calls t w hs
theorem digs_has (b : UInt8) : digs.data.toList.contains b = (decide (48 ≤ b.toNat) && decide (b.toNat ≤ 57)) := by
  have key : ∀ m : Fin 256, digs.data.toList.contains (UInt8.ofNat m.val) = (decide (48 ≤ (UInt8.ofNat m.val).toNat) && decide ((UInt8.ofNat m.val).toNat ≤ 57)) := by decide +kernel
  have := key ⟨b.toNat, b.toNat_lt⟩
  simpa using this
theorem dropWhile_nil {p : UInt8 → Bool} (l : List UInt8) : l.dropWhile p = [] ↔ ∀ b ∈ l, p b = true := by
  induction l with
  | nil => simp
  | cons a l ih => rw [List.dropWhile_cons]; by_cases h : p a = true <;> simp [h, ih]
theorem trimS_nil (l cs : List UInt8) : Lib.trimS l cs = [] ↔ ∀ b ∈ l, cs.contains b = true := by
  unfold Lib.trimS Lib.trimLeftS Lib.trimRightS
  constructor
  · intro h
    rw [dropWhile_nil] at h
    intro b hb
    by_cases hc : cs.contains b = true
    · exact hc
    · have hne : l.reverse.dropWhile (cs.contains ·) ≠ [] := by
        intro e
        rw [dropWhile_nil] at e
        exact hc (e b (by simpa using hb))
      have hh := List.head_dropWhile_not (fun x => cs.contains x) hne
      have := h (List.head _ hne) (by rw [List.mem_reverse]; exact List.head_mem hne)
      rw [this] at hh; cases hh
  · intro h
    rw [dropWhile_nil]
    intro b hb
    refine h b ?_
    rw [List.mem_reverse] at hb
    have := (List.dropWhile_sublist _).subset hb
    simpa using this
theorem dgT_yes {t : ByteArray} (h : allDig t = true) : dgT t = ⟨#[]⟩ := by
  unfold dgT
  rw [(trimS_nil _ _).2]
  intro b hb
  rw [digs_has]
  exact List.all_eq_true.1 h b hb
theorem dgT_no {t : ByteArray} (h : allDig t = false) : ¬ (dgT t).toList = [] := by
  intro e
  rw [ByteArray.toList_eq] at e
  have e2 : Lib.trimS t.data.toList digs.data.toList = [] := by simpa [dgT] using e
  have := (trimS_nil _ _).1 e2
  have h2 : allDig t = true := List.all_eq_true.2 fun b hb => by rw [← digs_has]; exact this b hb
  rw [h2] at h; cases h
theorem trim_no (t : ByteArray) (w : World) (hs : t.size ≤ 9223372036854775807) (h : allDig t = false) :
    Calls Tryd.prog 53 #[.string t, .string ⟨#[48, 49, 50, 51, 52, 53, 54, 55, 56, 57]⟩] w fun e w' => ∃ x, e = .returned (.string x) ∧ ¬ x.toList = [] ∧ Below w.heap.size w w' :=
  (trim_calls t w hs).mono fun e w' ⟨he, hb⟩ => ⟨_, he, dgT_no h, hb⟩
theorem wend_yes (s : ByteArray) (f i : Nat) (h : i < s.size) (hb : (nameB (s.extract f (i + 1)) || allDig (s.extract f (i + 1))) = true) : wend s f i (s.size - i) = wend s f (i + 1) (s.size - (i + 1)) := by
  obtain ⟨d, hd⟩ : ∃ d, s.size - i = d + 1 := ⟨s.size - i - 1, by omega⟩
  rw [hd, show s.size - (i + 1) = d by omega, wend, if_pos hb]
theorem wend_no (s : ByteArray) (f i : Nat) (hb : i < s.size → (nameB (s.extract f (i + 1)) || allDig (s.extract f (i + 1))) = false) : wend s f i (s.size - i) = i := by
  cases hd : s.size - i with
  | zero => rfl
  | succ d => rw [wend, hb (by omega), if_neg (by decide)]
theorem wend_le (s : ByteArray) (f : Nat) : ∀ d i, i + d ≤ s.size → wend s f i d ≤ s.size ∧ i ≤ wend s f i d
  | 0, i, h => ⟨by simpa [wend] using h, Nat.le_refl _⟩
  | d + 1, i, h => by
    rw [wend]
    split
    · have := wend_le s f d (i + 1) (by omega); omega
    · omega
theorem wordEnd_le (s : ByteArray) (p : Nat) (hp : p ≤ s.size) : wordEnd s p ≤ s.size ∧ p ≤ wordEnd s p := wend_le s p (s.size - p) p (by omega)
/-- What a word comes to. -/
def wordRes (s : ByteArray) (p : Nat) : Res :=
  if nameB (s.extract p (wordEnd s p)) then .ok (.name (s.extract p (wordEnd s p)), wordEnd s p)
  else if (wholeV (s.extract p (wordEnd s p))).2.2 = 0 then .ok (.num (wholeV (s.extract p (wordEnd s p))).1, wordEnd s p)
  else .error 9

theorem held_below {g : Nat} {s : ByteArray} {i d : Nat} {W w' : World} (hb : W.heap[g]? = some (.cells #[.string s, .int .i64 i, .int .i64 d] 52 (0, 0))) (h : Below W.heap.size W w') :
    w'.cell? ⟨g, 0, none⟩ = some (.string s) ∧ w'.cell? ⟨g, 1, none⟩ = some (.int .i64 i) := ⟨(blk_cell (blk_below hb h) 0).trans rfl, (blk_cell (blk_below hb h) 1).trans rfl⟩
set_option maxHeartbeats 8000000 in
set_option maxRecDepth 100000 in
theorem una_word (s : ByteArray) (hs : s.size ≤ 140737488355328) (g p d : Nat) (w : World) (hp : p ≤ s.size) (h : Rd g s p d w w) (hf : find1 Uop.str s (sk s p) uops = none) (hl : hasAt s (sk s p) lpar = false) :
    Calls Tryd.prog 36 #[.pointer (some ⟨g, 0, none⟩)] w (Out g s d w (wordRes s (sk s p))) := by
  have H0 := Lib.hid h; clear h
  have HF := Lib.hid hf
  have HL := Lib.hid hl
  clear hf hl
  go_enter Tryd.func36, Tryd.ntmps36
  go_wp2_with fail
  have HX := Aside0.mk ((H0.out.alloc (.cells #[.string ⟨#[]⟩, .slice none 0 0, .int .i64 0, .string ⟨#[]⟩] 55)).alloc (.cells #[.string ⟨#[45]⟩, .string ⟨#[43]⟩, .string ⟨#[33]⟩] 9))
  have HBX := Aside0.mk (blk_alloc (blk_new w (.cells #[.string ⟨#[]⟩, .slice none 0 0, .int .i64 0, .string ⟨#[]⟩] 55)) (.cells #[.string ⟨#[45]⟩, .string ⟨#[43]⟩, .string ⟨#[33]⟩] 9))
  have HB := Aside0.mk (blk_new (w.alloc (.cells #[.string ⟨#[]⟩, .slice none 0 0, .int .i64 0, .string ⟨#[]⟩] 55)) (.cells #[.string ⟨#[45]⟩, .string ⟨#[43]⟩, .string ⟨#[33]⟩] 9))
  simp only [World.size_alloc] at HB
  have HG := Aside0.mk (blk_lt H0.out.blk)
  generalize (w.alloc _).alloc _ = X at HX HB HBX ⊢
  refine (takesU_none g s p d X hs hp HX.out.self _ (by have := HG.out; omega) HB.out HF.out).mono ?_
  rintro e w1 ⟨rfl, h1⟩
  have HB1 := Aside0.mk ((h1.grw.block w.heap.size (blk_lt HBX.out) (by have := HG.out; intro e; have := Option.some.inj e; omega)).trans HBX.out)
  have H1 := Aside0.mk (HX.out.trans h1)
  clear h1 HX HB HBX
  go_wp2_with fail
  have HX2 := Aside0.mk (H1.out.alloc (.cells #[.string ⟨#[40]⟩] 9))
  have HBX2 := Aside0.mk (blk_alloc HB1.out (.cells #[.string ⟨#[40]⟩] 9))
  have HB2 := Aside0.mk (blk_new w1 (.cells #[.string ⟨#[40]⟩] 9))
  have HGW := Aside0.mk (show w1.heap.size ≠ g by have := blk_lt H1.out.blk; omega)
  generalize w1.alloc _ = X2 at HX2 HBX2 HB2 ⊢
  generalize w1.heap.size = nb at HB2 HGW ⊢
  refine (takes1_no g s (sk s p) d X2 hs (sk_le s p hp) HX2.out.self _ HGW.out ⟨#[40]⟩ HB2.out (by rw [sk_idem]; exact HL.out)).mono ?_
  rintro e w2 ⟨rfl, h2⟩
  rw [sk_idem] at h2
  have HB3 := Aside0.mk ((h2.grw.block w.heap.size (blk_lt HBX2.out) (by have := HG.out; intro e; have := Option.some.inj e; omega)).trans HBX2.out)
  have H2 := Aside0.mk (show Rd g s (sk s p) d w w2 from HX2.out.trans h2)
  clear h2 HX2 HBX2 HB2 HGW H1 HB1 HF HL
  have HQ := Aside0.mk (sk_le s p hp)
  generalize hPE : sk s p = P at H2 HQ ⊢
  have HPE := Aside0.mk hPE
  clear hPE
  have c1 := H2.out.at_
  go_wp2_with fail
  clear c1
  go_loopg [] (s.size - P) (fun kq wr => ∃ i : Nat, P ≤ i ∧ i ≤ s.size ∧ kq = s.size - i ∧ Aside0 (wordEnd s P = wend s P i (s.size - i)) ∧ Aside0 (Rd g s i d w wr) ∧ Aside0 (wr.heap[w.heap.size]? = some (.cells #[.string ⟨#[]⟩, .slice none 0 0, .int .i64 0, .string ⟨#[]⟩] 55 (0, 0))))
  case atStart => exact ⟨P, Nat.le_refl _, HQ.out, rfl, ⟨rfl⟩, ⟨H2.out⟩, ⟨HB3.out⟩⟩
  case round =>
    clear H2 HB3
    obtain ⟨i, hPi, his, hk, HE, HR, HB4⟩ := hrel
    have HK := Aside0.mk hk; clear hk
    have h1 := HR.out.at_
    have h0 := HR.out.str
    have hf := HR.out.fr 1
    have HRB := Aside0.mk HR.out.blk
    by_cases hlt : i < s.size
    · have hd : decide ((i : Int) < (s.size : Int)) = true := decide_eq_true (by omega)
      have hw1 : IntKind.i64.wrap ((i : Int) + 1) = ((i + 1 : Nat) : Int) := by rw [IntWalk.i64_in _ (by omega)]; omega
      have b0 : (0 : Int) ≤ (P : Int) := by omega
      have b1 : (P : Int) ≤ (i : Int) + 1 := by omega
      have b2 : (i : Int) + 1 ≤ (s.size : Int) := by omega
      have b3 : (0 : Int) ≤ (i : Int) + 1 := by omega
      have b4 : ((i : Int) + 1).toNat = i + 1 := by omega
      have hz : (s.extract P (i + 1)).size ≤ 9223372036854775807 := by rw [ByteArray.size_extract]; omega
      have HZ := Aside0.mk hz; clear hz
      cases hn : nameB (s.extract P (i + 1)) with
      | true =>
        have HN := Aside0.mk hn
        have HS := Aside0.mk (wend_yes s P i hlt (by rw [hn]; rfl))
        clear hn
        go_wp2_with fail
        refine wp_region_held_drew (S := fun w' => w'.cell? ⟨g, 0, none⟩ = some (.string s) ∧ w'.cell? ⟨g, 1, none⟩ = some (.int .i64 i)) (by kernel_rfl) ⟨h0, h1⟩ (fun hHeld => ?_)
        refine wpAnyH_take (i := 0) (oi := { dst := some 57, op := Go.Op.move (Go.Operand.tmp 0), type := 50, pos := "arith.go:131", after := #[], guard := none }) (v := .pointer (some ⟨g, 0, none⟩)) rfl (by kernel_rfl) (by kernel_rfl) (by kernel_rfl) (fun _ _ _ h => h) (Or.inl ⟨by kernel_rfl, ?_⟩) (by assumption) ?_
        · (intro w hSw; (try dsimp only at hSw); go_simp)
        try simp only [Act.put, List.setIfInBounds_toArray, List.set_cons_zero, List.set_cons_succ]
        refine wpAnyH_take (i := 1) (oi := { dst := some 58, op := Go.Op.nilCheck (Go.Operand.tmp 57), type := 0, pos := "arith.go:131", after := #[{ on := 0, ground := Go.Ground.data }], guard := none }) (v := .pointer (some ⟨g, 0, none⟩)) rfl (by kernel_rfl) (by kernel_rfl) (by kernel_rfl) (fun _ _ _ h => h) (Or.inl ⟨by kernel_rfl, ?_⟩) (by assumption) ?_
        · (intro w hSw; (try dsimp only at hSw); go_simp)
        try simp only [Act.put, List.setIfInBounds_toArray, List.set_cons_zero, List.set_cons_succ]
        refine wpAnyH_take (i := 2) (oi := { dst := some 59, op := Go.Op.fieldAddr 52 (Go.Operand.tmp 58) 1, type := 0, pos := "arith.go:131", after := #[{ on := 1, ground := Go.Ground.data }], guard := none }) (v := .pointer (some ⟨g, 1, none⟩)) rfl (by kernel_rfl) (by kernel_rfl) (by kernel_rfl) (fun _ _ _ h => h) (Or.inl ⟨by kernel_rfl, ?_⟩) (by assumption) ?_
        · (intro w hSw; (try dsimp only at hSw); go_simp)
        try simp only [Act.put, List.setIfInBounds_toArray, List.set_cons_zero, List.set_cons_succ]
        refine wpAnyH_take (i := 3) (oi := { dst := some 60, op := Go.Op.load 3 (Go.Operand.tmp 59), type := 3, pos := "arith.go:131", after := #[{ on := 2, ground := Go.Ground.data }], guard := none }) (v := .int .i64 i) rfl (by kernel_rfl) (by kernel_rfl) (by kernel_rfl) (fun _ _ _ h => h) (Or.inl ⟨by kernel_rfl, ?_⟩) (by assumption) ?_
        · (intro w hSw; (try dsimp only at hSw); go_simp)
        try simp only [Act.put, List.setIfInBounds_toArray, List.set_cons_zero, List.set_cons_succ]
        refine wpAnyH_take (i := 4) (oi := { dst := some 61, op := Go.Op.move (Go.Operand.tmp 0), type := 50, pos := "arith.go:131", after := #[], guard := none }) (v := .pointer (some ⟨g, 0, none⟩)) rfl (by kernel_rfl) (by kernel_rfl) (by kernel_rfl) (fun _ _ _ h => h) (Or.inl ⟨by kernel_rfl, ?_⟩) (by assumption) ?_
        · (intro w hSw; (try dsimp only at hSw); go_simp)
        try simp only [Act.put, List.setIfInBounds_toArray, List.set_cons_zero, List.set_cons_succ]
        refine wpAnyH_take (i := 5) (oi := { dst := some 62, op := Go.Op.nilCheck (Go.Operand.tmp 61), type := 0, pos := "arith.go:131", after := #[{ on := 4, ground := Go.Ground.data }], guard := none }) (v := .pointer (some ⟨g, 0, none⟩)) rfl (by kernel_rfl) (by kernel_rfl) (by kernel_rfl) (fun _ _ _ h => h) (Or.inl ⟨by kernel_rfl, ?_⟩) (by assumption) ?_
        · (intro w hSw; (try dsimp only at hSw); go_simp)
        try simp only [Act.put, List.setIfInBounds_toArray, List.set_cons_zero, List.set_cons_succ]
        refine wpAnyH_take (i := 6) (oi := { dst := some 63, op := Go.Op.fieldAddr 52 (Go.Operand.tmp 62) 0, type := 0, pos := "arith.go:131", after := #[{ on := 5, ground := Go.Ground.data }], guard := none }) (v := .pointer (some ⟨g, 0, none⟩)) rfl (by kernel_rfl) (by kernel_rfl) (by kernel_rfl) (fun _ _ _ h => h) (Or.inl ⟨by kernel_rfl, ?_⟩) (by assumption) ?_
        · (intro w hSw; (try dsimp only at hSw); go_simp)
        try simp only [Act.put, List.setIfInBounds_toArray, List.set_cons_zero, List.set_cons_succ]
        refine wpAnyH_take (i := 7) (oi := { dst := some 64, op := Go.Op.load 9 (Go.Operand.tmp 63), type := 9, pos := "arith.go:131", after := #[{ on := 6, ground := Go.Ground.data }], guard := none }) (v := .string s) rfl (by kernel_rfl) (by kernel_rfl) (by kernel_rfl) (fun _ _ _ h => h) (Or.inl ⟨by kernel_rfl, ?_⟩) (by assumption) ?_
        · (intro w hSw; (try dsimp only at hSw); go_simp)
        try simp only [Act.put, List.setIfInBounds_toArray, List.set_cons_zero, List.set_cons_succ]
        refine wpAnyH_take (i := 8) (oi := { dst := some 65, op := Go.Op.call { callee := Go.Callee.builtin Go.Builtin.len, args := #[Go.Operand.tmp 64], argTypes := #[9] }, type := 3, pos := "arith.go:131", after := #[{ on := 7, ground := Go.Ground.data }], guard := none }) (v := .int .i64 s.size) rfl (by kernel_rfl) (by kernel_rfl) (by kernel_rfl) (fun _ _ _ h => h) (Or.inl ⟨by kernel_rfl, ?_⟩) (by assumption) ?_
        · (intro w hSw; (try dsimp only at hSw); go_simp)
        try simp only [Act.put, List.setIfInBounds_toArray, List.set_cons_zero, List.set_cons_succ]
        refine wpAnyH_take (i := 9) (oi := { dst := some 66, op := Go.Op.binOp Go.BinOp.lss 3 (Go.Operand.tmp 60) (Go.Operand.tmp 65) 3, type := 4, pos := "arith.go:131", after := #[{ on := 3, ground := Go.Ground.data }, { on := 8, ground := Go.Ground.data }], guard := none }) (v := .bool true) rfl (by kernel_rfl) (by kernel_rfl) (by kernel_rfl) (fun _ _ _ h => h) (Or.inl ⟨by kernel_rfl, ?_⟩) (by assumption) ?_
        · (intro w hSw; (try dsimp only at hSw); go_simp)
        try simp only [Act.put, List.setIfInBounds_toArray, List.set_cons_zero, List.set_cons_succ]
        refine wpAnyH_take (i := 10) (oi := { dst := some 67, op := Go.Op.move (Go.Operand.tmp 66), type := 4, pos := "arith.go:131", after := #[{ on := 9, ground := Go.Ground.data }], guard := none }) (v := .bool true) rfl (by kernel_rfl) (by kernel_rfl) (by kernel_rfl) (fun _ _ _ h => h) (Or.inl ⟨by kernel_rfl, ?_⟩) (by assumption) ?_
        · (intro w hSw; (try dsimp only at hSw); go_simp)
        try simp only [Act.put, List.setIfInBounds_toArray, List.set_cons_zero, List.set_cons_succ]
        refine wpAnyH_take (i := 11) (oi := { dst := some 68, op := Go.Op.move (Go.Operand.tmp 0), type := 50, pos := "arith.go:131", after := #[{ on := 10, ground := Go.Ground.guard }], guard := some (10, true) }) (v := .pointer (some ⟨g, 0, none⟩)) rfl (by kernel_rfl) (by kernel_rfl) (by kernel_rfl) (fun _ _ _ h => h) (Or.inl ⟨by kernel_rfl, ?_⟩) (by assumption) ?_
        · (intro w hSw; (try dsimp only at hSw); go_simp)
        try simp only [Act.put, List.setIfInBounds_toArray, List.set_cons_zero, List.set_cons_succ]
        refine wpAnyH_take (i := 12) (oi := { dst := some 69, op := Go.Op.nilCheck (Go.Operand.tmp 68), type := 0, pos := "arith.go:131", after := #[{ on := 11, ground := Go.Ground.data }, { on := 10, ground := Go.Ground.guard }], guard := some (10, true) }) (v := .pointer (some ⟨g, 0, none⟩)) rfl (by kernel_rfl) (by kernel_rfl) (by kernel_rfl) (fun _ _ _ h => h) (Or.inl ⟨by kernel_rfl, ?_⟩) (by assumption) ?_
        · (intro w hSw; (try dsimp only at hSw); go_simp)
        try simp only [Act.put, List.setIfInBounds_toArray, List.set_cons_zero, List.set_cons_succ]
        refine wpAnyH_take (i := 13) (oi := { dst := some 70, op := Go.Op.fieldAddr 52 (Go.Operand.tmp 69) 0, type := 0, pos := "arith.go:131", after := #[{ on := 12, ground := Go.Ground.data }, { on := 10, ground := Go.Ground.guard }], guard := some (10, true) }) (v := .pointer (some ⟨g, 0, none⟩)) rfl (by kernel_rfl) (by kernel_rfl) (by kernel_rfl) (fun _ _ _ h => h) (Or.inl ⟨by kernel_rfl, ?_⟩) (by assumption) ?_
        · (intro w hSw; (try dsimp only at hSw); go_simp)
        try simp only [Act.put, List.setIfInBounds_toArray, List.set_cons_zero, List.set_cons_succ]
        refine wpAnyH_take (i := 14) (oi := { dst := some 71, op := Go.Op.load 9 (Go.Operand.tmp 70), type := 9, pos := "arith.go:131", after := #[{ on := 13, ground := Go.Ground.data }, { on := 10, ground := Go.Ground.guard }], guard := some (10, true) }) (v := .string s) rfl (by kernel_rfl) (by kernel_rfl) (by kernel_rfl) (fun _ _ _ h => h) (Or.inl ⟨by kernel_rfl, ?_⟩) (by assumption) ?_
        · (intro w hSw; (try dsimp only at hSw); go_simp)
        try simp only [Act.put, List.setIfInBounds_toArray, List.set_cons_zero, List.set_cons_succ]
        refine wpAnyH_take (i := 15) (oi := { dst := some 72, op := Go.Op.move (Go.Operand.tmp 6), type := 3, pos := "arith.go:131", after := #[{ on := 10, ground := Go.Ground.guard }], guard := some (10, true) }) (v := .int .i64 P) rfl (by kernel_rfl) (by kernel_rfl) (by kernel_rfl) (fun _ _ _ h => h) (Or.inl ⟨by kernel_rfl, ?_⟩) (by assumption) ?_
        · (intro w hSw; (try dsimp only at hSw); go_simp)
        try simp only [Act.put, List.setIfInBounds_toArray, List.set_cons_zero, List.set_cons_succ]
        refine wpAnyH_take (i := 16) (oi := { dst := some 73, op := Go.Op.move (Go.Operand.tmp 0), type := 50, pos := "arith.go:131", after := #[{ on := 10, ground := Go.Ground.guard }], guard := some (10, true) }) (v := .pointer (some ⟨g, 0, none⟩)) rfl (by kernel_rfl) (by kernel_rfl) (by kernel_rfl) (fun _ _ _ h => h) (Or.inl ⟨by kernel_rfl, ?_⟩) (by assumption) ?_
        · (intro w hSw; (try dsimp only at hSw); go_simp)
        try simp only [Act.put, List.setIfInBounds_toArray, List.set_cons_zero, List.set_cons_succ]
        refine wpAnyH_take (i := 17) (oi := { dst := some 74, op := Go.Op.nilCheck (Go.Operand.tmp 73), type := 0, pos := "arith.go:131", after := #[{ on := 16, ground := Go.Ground.data }, { on := 10, ground := Go.Ground.guard }], guard := some (10, true) }) (v := .pointer (some ⟨g, 0, none⟩)) rfl (by kernel_rfl) (by kernel_rfl) (by kernel_rfl) (fun _ _ _ h => h) (Or.inl ⟨by kernel_rfl, ?_⟩) (by assumption) ?_
        · (intro w hSw; (try dsimp only at hSw); go_simp)
        try simp only [Act.put, List.setIfInBounds_toArray, List.set_cons_zero, List.set_cons_succ]
        refine wpAnyH_take (i := 18) (oi := { dst := some 75, op := Go.Op.fieldAddr 52 (Go.Operand.tmp 74) 1, type := 0, pos := "arith.go:131", after := #[{ on := 17, ground := Go.Ground.data }, { on := 10, ground := Go.Ground.guard }], guard := some (10, true) }) (v := .pointer (some ⟨g, 1, none⟩)) rfl (by kernel_rfl) (by kernel_rfl) (by kernel_rfl) (fun _ _ _ h => h) (Or.inl ⟨by kernel_rfl, ?_⟩) (by assumption) ?_
        · (intro w hSw; (try dsimp only at hSw); go_simp)
        try simp only [Act.put, List.setIfInBounds_toArray, List.set_cons_zero, List.set_cons_succ]
        refine wpAnyH_take (i := 19) (oi := { dst := some 76, op := Go.Op.load 3 (Go.Operand.tmp 75), type := 3, pos := "arith.go:131", after := #[{ on := 18, ground := Go.Ground.data }, { on := 10, ground := Go.Ground.guard }], guard := some (10, true) }) (v := .int .i64 i) rfl (by kernel_rfl) (by kernel_rfl) (by kernel_rfl) (fun _ _ _ h => h) (Or.inl ⟨by kernel_rfl, ?_⟩) (by assumption) ?_
        · (intro w hSw; (try dsimp only at hSw); go_simp)
        try simp only [Act.put, List.setIfInBounds_toArray, List.set_cons_zero, List.set_cons_succ]
        refine wpAnyH_take (i := 20) (oi := { dst := some 77, op := Go.Op.binOp Go.BinOp.add 3 (Go.Operand.tmp 76) (Go.Operand.const (Go.Value.int Go.IntKind.i64 1)) 3, type := 3, pos := "arith.go:131", after := #[{ on := 19, ground := Go.Ground.data }, { on := 10, ground := Go.Ground.guard }], guard := some (10, true) }) (v := .int .i64 (i + 1)) rfl (by kernel_rfl) (by kernel_rfl) (by kernel_rfl) (fun _ _ _ h => h) (Or.inl ⟨by kernel_rfl, ?_⟩) (by assumption) ?_
        · (intro w hSw; (try dsimp only at hSw); go_simp)
        try simp only [Act.put, List.setIfInBounds_toArray, List.set_cons_zero, List.set_cons_succ]
        refine wpAnyH_take (i := 21) (oi := { dst := some 78, op := Go.Op.slice 9 (Go.Operand.tmp 71) (some (Go.Operand.tmp 72)) (some (Go.Operand.tmp 77)) none, type := 9, pos := "arith.go:131", after := #[{ on := 14, ground := Go.Ground.data }, { on := 15, ground := Go.Ground.data }, { on := 20, ground := Go.Ground.data }, { on := 10, ground := Go.Ground.guard }], guard := some (10, true) }) (v := .string (s.extract P (i + 1))) rfl (by kernel_rfl) (by kernel_rfl) (by kernel_rfl) (fun _ _ _ h => h) (Or.inl ⟨by kernel_rfl, ?_⟩) (by assumption) ?_
        · (intro w hSw; (try dsimp only at hSw); go_simp)
        try simp only [Act.put, List.setIfInBounds_toArray, List.set_cons_zero, List.set_cons_succ]
        refine wpAnyH_ready (rs := [22]) (by kernel_rfl) (by simp) ?_
        refine AllReadyH.cons (o := { dst := some 79, op := Go.Op.call { callee := Go.Callee.value (Go.Operand.func 31), args := #[Go.Operand.tmp 78], argTypes := #[9] }, type := 4, pos := "arith.go:131", after := #[{ on := 21, ground := Go.Ground.data }, { on := 10, ground := Go.Ground.chain }, { on := 10, ground := Go.Ground.guard }], guard := some (10, true) }) rfl (fun K hK => ?_) AllReadyH.nil
        go_simp
        refine (name_calls _ true _ HZ.out HN.out).mono ?_
        rintro e w' ⟨rfl, hb⟩
        go_simp
        refine hK.out _ _ (held_below HRB.out (show Below wr.heap.size wr w' from ⟨hb.os, hb.tape, hb.output, hb.size, hb.block⟩)) (fun hHeld2 => ?_)
        clear hK K hHeld
        try simp only [Act.put, List.setIfInBounds_toArray, List.set_cons_zero, List.set_cons_succ]
        refine wpAnyH_take (i := 23) (oi := { dst := some 80, op := Go.Op.move (Go.Operand.tmp 79), type := 4, pos := "arith.go:131", after := #[{ on := 22, ground := Go.Ground.data }, { on := 22, ground := Go.Ground.chain }, { on := 10, ground := Go.Ground.guard }], guard := some (10, true) }) (v := .bool true) rfl (by kernel_rfl) (by kernel_rfl) (by kernel_rfl) (fun _ _ _ h => h) (Or.inl ⟨by kernel_rfl, ?_⟩) (by assumption) ?_
        · (intro w hSw; (try dsimp only at hSw); go_simp)
        try simp only [Act.put, List.setIfInBounds_toArray, List.set_cons_zero, List.set_cons_succ]
        refine wpAnyH_take (i := 24) (oi := { dst := some 81, op := Go.Op.move (Go.Operand.tmp 0), type := 50, pos := "arith.go:131", after := #[{ on := 23, ground := Go.Ground.guard }], guard := some (23, false) }) (v := undef) rfl (by kernel_rfl) (by kernel_rfl) (by kernel_rfl) (fun _ _ _ h => h) (Or.inr ⟨by kernel_rfl, rfl⟩) (by assumption) ?_
        try simp only [Act.put, List.setIfInBounds_toArray, List.set_cons_zero, List.set_cons_succ]
        refine wpAnyH_take (i := 25) (oi := { dst := some 82, op := Go.Op.nilCheck (Go.Operand.tmp 81), type := 0, pos := "arith.go:131", after := #[{ on := 24, ground := Go.Ground.data }, { on := 23, ground := Go.Ground.guard }], guard := some (23, false) }) (v := undef) rfl (by kernel_rfl) (by kernel_rfl) (by kernel_rfl) (fun _ _ _ h => h) (Or.inr ⟨by kernel_rfl, rfl⟩) (by assumption) ?_
        try simp only [Act.put, List.setIfInBounds_toArray, List.set_cons_zero, List.set_cons_succ]
        refine wpAnyH_take (i := 26) (oi := { dst := some 83, op := Go.Op.fieldAddr 52 (Go.Operand.tmp 82) 0, type := 0, pos := "arith.go:131", after := #[{ on := 25, ground := Go.Ground.data }, { on := 23, ground := Go.Ground.guard }], guard := some (23, false) }) (v := undef) rfl (by kernel_rfl) (by kernel_rfl) (by kernel_rfl) (fun _ _ _ h => h) (Or.inr ⟨by kernel_rfl, rfl⟩) (by assumption) ?_
        try simp only [Act.put, List.setIfInBounds_toArray, List.set_cons_zero, List.set_cons_succ]
        refine wpAnyH_take (i := 27) (oi := { dst := some 84, op := Go.Op.load 9 (Go.Operand.tmp 83), type := 9, pos := "arith.go:131", after := #[{ on := 26, ground := Go.Ground.data }, { on := 23, ground := Go.Ground.guard }], guard := some (23, false) }) (v := undef) rfl (by kernel_rfl) (by kernel_rfl) (by kernel_rfl) (fun _ _ _ h => h) (Or.inr ⟨by kernel_rfl, rfl⟩) (by assumption) ?_
        try simp only [Act.put, List.setIfInBounds_toArray, List.set_cons_zero, List.set_cons_succ]
        refine wpAnyH_take (i := 28) (oi := { dst := some 85, op := Go.Op.move (Go.Operand.tmp 6), type := 3, pos := "arith.go:131", after := #[{ on := 23, ground := Go.Ground.guard }], guard := some (23, false) }) (v := undef) rfl (by kernel_rfl) (by kernel_rfl) (by kernel_rfl) (fun _ _ _ h => h) (Or.inr ⟨by kernel_rfl, rfl⟩) (by assumption) ?_
        try simp only [Act.put, List.setIfInBounds_toArray, List.set_cons_zero, List.set_cons_succ]
        refine wpAnyH_take (i := 29) (oi := { dst := some 86, op := Go.Op.move (Go.Operand.tmp 0), type := 50, pos := "arith.go:131", after := #[{ on := 23, ground := Go.Ground.guard }], guard := some (23, false) }) (v := undef) rfl (by kernel_rfl) (by kernel_rfl) (by kernel_rfl) (fun _ _ _ h => h) (Or.inr ⟨by kernel_rfl, rfl⟩) (by assumption) ?_
        try simp only [Act.put, List.setIfInBounds_toArray, List.set_cons_zero, List.set_cons_succ]
        refine wpAnyH_take (i := 30) (oi := { dst := some 87, op := Go.Op.nilCheck (Go.Operand.tmp 86), type := 0, pos := "arith.go:131", after := #[{ on := 29, ground := Go.Ground.data }, { on := 23, ground := Go.Ground.guard }], guard := some (23, false) }) (v := undef) rfl (by kernel_rfl) (by kernel_rfl) (by kernel_rfl) (fun _ _ _ h => h) (Or.inr ⟨by kernel_rfl, rfl⟩) (by assumption) ?_
        try simp only [Act.put, List.setIfInBounds_toArray, List.set_cons_zero, List.set_cons_succ]
        refine wpAnyH_take (i := 31) (oi := { dst := some 88, op := Go.Op.fieldAddr 52 (Go.Operand.tmp 87) 1, type := 0, pos := "arith.go:131", after := #[{ on := 30, ground := Go.Ground.data }, { on := 23, ground := Go.Ground.guard }], guard := some (23, false) }) (v := undef) rfl (by kernel_rfl) (by kernel_rfl) (by kernel_rfl) (fun _ _ _ h => h) (Or.inr ⟨by kernel_rfl, rfl⟩) (by assumption) ?_
        try simp only [Act.put, List.setIfInBounds_toArray, List.set_cons_zero, List.set_cons_succ]
        refine wpAnyH_take (i := 32) (oi := { dst := some 89, op := Go.Op.load 3 (Go.Operand.tmp 88), type := 3, pos := "arith.go:131", after := #[{ on := 31, ground := Go.Ground.data }, { on := 23, ground := Go.Ground.guard }], guard := some (23, false) }) (v := undef) rfl (by kernel_rfl) (by kernel_rfl) (by kernel_rfl) (fun _ _ _ h => h) (Or.inr ⟨by kernel_rfl, rfl⟩) (by assumption) ?_
        try simp only [Act.put, List.setIfInBounds_toArray, List.set_cons_zero, List.set_cons_succ]
        refine wpAnyH_take (i := 33) (oi := { dst := some 90, op := Go.Op.binOp Go.BinOp.add 3 (Go.Operand.tmp 89) (Go.Operand.const (Go.Value.int Go.IntKind.i64 1)) 3, type := 3, pos := "arith.go:131", after := #[{ on := 32, ground := Go.Ground.data }, { on := 23, ground := Go.Ground.guard }], guard := some (23, false) }) (v := undef) rfl (by kernel_rfl) (by kernel_rfl) (by kernel_rfl) (fun _ _ _ h => h) (Or.inr ⟨by kernel_rfl, rfl⟩) (by assumption) ?_
        try simp only [Act.put, List.setIfInBounds_toArray, List.set_cons_zero, List.set_cons_succ]
        refine wpAnyH_take (i := 34) (oi := { dst := some 91, op := Go.Op.slice 9 (Go.Operand.tmp 84) (some (Go.Operand.tmp 85)) (some (Go.Operand.tmp 90)) none, type := 9, pos := "arith.go:131", after := #[{ on := 27, ground := Go.Ground.data }, { on := 28, ground := Go.Ground.data }, { on := 33, ground := Go.Ground.data }, { on := 23, ground := Go.Ground.guard }], guard := some (23, false) }) (v := undef) rfl (by kernel_rfl) (by kernel_rfl) (by kernel_rfl) (fun _ _ _ h => h) (Or.inr ⟨by kernel_rfl, rfl⟩) (by assumption) ?_
        try simp only [Act.put, List.setIfInBounds_toArray, List.set_cons_zero, List.set_cons_succ]
        refine wpAnyH_take (i := 35) (oi := { dst := some 92, op := Go.Op.call { callee := Go.Callee.value (Go.Operand.func 53), args := #[Go.Operand.tmp 91, Go.Operand.const (Go.Value.string { data := #[48, 49, 50, 51, 52, 53, 54, 55, 56, 57] })], argTypes := #[9, 9] }, type := 9, pos := "arith.go:131", after := #[{ on := 34, ground := Go.Ground.data }, { on := 23, ground := Go.Ground.chain }, { on := 23, ground := Go.Ground.guard }], guard := some (23, false) }) (v := undef) rfl (by kernel_rfl) (by kernel_rfl) (by kernel_rfl) (fun _ _ _ h => h) (Or.inr ⟨by kernel_rfl, rfl⟩) (by assumption) ?_
        try simp only [Act.put, List.setIfInBounds_toArray, List.set_cons_zero, List.set_cons_succ]
        refine wpAnyH_take (i := 36) (oi := { dst := some 93, op := Go.Op.binOp Go.BinOp.eql 9 (Go.Operand.tmp 92) (Go.Operand.const (Go.Value.string { data := #[] })) 9, type := 4, pos := "arith.go:131", after := #[{ on := 35, ground := Go.Ground.data }, { on := 23, ground := Go.Ground.guard }], guard := some (23, false) }) (v := undef) rfl (by kernel_rfl) (by kernel_rfl) (by kernel_rfl) (fun _ _ _ h => h) (Or.inr ⟨by kernel_rfl, rfl⟩) (by assumption) ?_
        try simp only [Act.put, List.setIfInBounds_toArray, List.set_cons_zero, List.set_cons_succ]
        refine wpAnyH_take (i := 37) (oi := { dst := some 94, op := Go.Op.pick (Go.Operand.tmp 80) (Go.Operand.const (Go.Value.bool true)) (Go.Operand.tmp 93), type := 4, pos := "arith.go:131", after := #[{ on := 23, ground := Go.Ground.data }, { on := 36, ground := Go.Ground.data }, { on := 10, ground := Go.Ground.guard }], guard := some (10, true) }) (v := .bool true) rfl (by kernel_rfl) (by kernel_rfl) (by kernel_rfl) (fun _ _ _ h => h) (Or.inl ⟨by kernel_rfl, ?_⟩) (by assumption) ?_
        · (intro w hSw; (try dsimp only at hSw); go_simp)
        try simp only [Act.put, List.setIfInBounds_toArray, List.set_cons_zero, List.set_cons_succ]
        refine wpAnyH_take (i := 38) (oi := { dst := some 95, op := Go.Op.pick (Go.Operand.tmp 67) (Go.Operand.tmp 94) (Go.Operand.const (Go.Value.bool false)), type := 4, pos := "arith.go:131", after := #[{ on := 10, ground := Go.Ground.data }, { on := 37, ground := Go.Ground.data }], guard := none }) (v := .bool true) rfl (by kernel_rfl) (by kernel_rfl) (by kernel_rfl) (fun _ _ _ h => h) (Or.inl ⟨by kernel_rfl, ?_⟩) (by assumption) ?_
        · (intro w hSw; (try dsimp only at hSw); go_simp)
        try simp only [Act.put, List.setIfInBounds_toArray, List.set_cons_zero, List.set_cons_succ]
        refine wpAnyH_done (by kernel_rfl) ?_ _
        have hb9 : Below wr.heap.size wr w' := ⟨hb.os, hb.tape, hb.output, hb.size, hb.block⟩
        have HRN := Aside0.mk ((HR.out.below hb9).move (i + 1))
        have HBN := Aside0.mk ((Below.heap_setCell _ ⟨g, 1, none⟩ (.int .i64 ((i + 1 : Nat) : Int)) w.heap.size (by have := HG.out; simp; omega)).trans (blk_below HB4.out hb9))
        have k1 := (HR.out.below hb9).at_
        have k2 := (HR.out.below hb9).fr 1
        have hgl : g < w'.heap.size := blk_lt (HR.out.below hb9).blk
        clear HR HRB HB4 h1 h0 hf hb9
        go_wp2_with fail
        go_roundg (s.size - (i + 1))
        case measure => have := HK.out; omega
        case rel => exact ⟨i + 1, by omega, by omega, rfl, ⟨HE.out.trans HS.out⟩, HRN, HBN⟩
      | false =>
        have HN := Aside0.mk hn
        cases hdg : allDig (s.extract P (i + 1)) with
        | true =>
          have HS := Aside0.mk (wend_yes s P i hlt (by rw [hn, hdg]; rfl))
          have HT := Aside0.mk (dgT_yes hdg)
          clear hn hdg
          go_wp2_with fail
          refine wp_region_held_drew (S := fun w' => w'.cell? ⟨g, 0, none⟩ = some (.string s) ∧ w'.cell? ⟨g, 1, none⟩ = some (.int .i64 i)) (by kernel_rfl) ⟨h0, h1⟩ (fun hHeld => ?_)
          refine wpAnyH_take (i := 0) (oi := { dst := some 57, op := Go.Op.move (Go.Operand.tmp 0), type := 50, pos := "arith.go:131", after := #[], guard := none }) (v := .pointer (some ⟨g, 0, none⟩)) rfl (by kernel_rfl) (by kernel_rfl) (by kernel_rfl) (fun _ _ _ h => h) (Or.inl ⟨by kernel_rfl, ?_⟩) (by assumption) ?_
          · (intro w hSw; (try dsimp only at hSw); go_simp)
          try simp only [Act.put, List.setIfInBounds_toArray, List.set_cons_zero, List.set_cons_succ]
          refine wpAnyH_take (i := 1) (oi := { dst := some 58, op := Go.Op.nilCheck (Go.Operand.tmp 57), type := 0, pos := "arith.go:131", after := #[{ on := 0, ground := Go.Ground.data }], guard := none }) (v := .pointer (some ⟨g, 0, none⟩)) rfl (by kernel_rfl) (by kernel_rfl) (by kernel_rfl) (fun _ _ _ h => h) (Or.inl ⟨by kernel_rfl, ?_⟩) (by assumption) ?_
          · (intro w hSw; (try dsimp only at hSw); go_simp)
          try simp only [Act.put, List.setIfInBounds_toArray, List.set_cons_zero, List.set_cons_succ]
          refine wpAnyH_take (i := 2) (oi := { dst := some 59, op := Go.Op.fieldAddr 52 (Go.Operand.tmp 58) 1, type := 0, pos := "arith.go:131", after := #[{ on := 1, ground := Go.Ground.data }], guard := none }) (v := .pointer (some ⟨g, 1, none⟩)) rfl (by kernel_rfl) (by kernel_rfl) (by kernel_rfl) (fun _ _ _ h => h) (Or.inl ⟨by kernel_rfl, ?_⟩) (by assumption) ?_
          · (intro w hSw; (try dsimp only at hSw); go_simp)
          try simp only [Act.put, List.setIfInBounds_toArray, List.set_cons_zero, List.set_cons_succ]
          refine wpAnyH_take (i := 3) (oi := { dst := some 60, op := Go.Op.load 3 (Go.Operand.tmp 59), type := 3, pos := "arith.go:131", after := #[{ on := 2, ground := Go.Ground.data }], guard := none }) (v := .int .i64 i) rfl (by kernel_rfl) (by kernel_rfl) (by kernel_rfl) (fun _ _ _ h => h) (Or.inl ⟨by kernel_rfl, ?_⟩) (by assumption) ?_
          · (intro w hSw; (try dsimp only at hSw); go_simp)
          try simp only [Act.put, List.setIfInBounds_toArray, List.set_cons_zero, List.set_cons_succ]
          refine wpAnyH_take (i := 4) (oi := { dst := some 61, op := Go.Op.move (Go.Operand.tmp 0), type := 50, pos := "arith.go:131", after := #[], guard := none }) (v := .pointer (some ⟨g, 0, none⟩)) rfl (by kernel_rfl) (by kernel_rfl) (by kernel_rfl) (fun _ _ _ h => h) (Or.inl ⟨by kernel_rfl, ?_⟩) (by assumption) ?_
          · (intro w hSw; (try dsimp only at hSw); go_simp)
          try simp only [Act.put, List.setIfInBounds_toArray, List.set_cons_zero, List.set_cons_succ]
          refine wpAnyH_take (i := 5) (oi := { dst := some 62, op := Go.Op.nilCheck (Go.Operand.tmp 61), type := 0, pos := "arith.go:131", after := #[{ on := 4, ground := Go.Ground.data }], guard := none }) (v := .pointer (some ⟨g, 0, none⟩)) rfl (by kernel_rfl) (by kernel_rfl) (by kernel_rfl) (fun _ _ _ h => h) (Or.inl ⟨by kernel_rfl, ?_⟩) (by assumption) ?_
          · (intro w hSw; (try dsimp only at hSw); go_simp)
          try simp only [Act.put, List.setIfInBounds_toArray, List.set_cons_zero, List.set_cons_succ]
          refine wpAnyH_take (i := 6) (oi := { dst := some 63, op := Go.Op.fieldAddr 52 (Go.Operand.tmp 62) 0, type := 0, pos := "arith.go:131", after := #[{ on := 5, ground := Go.Ground.data }], guard := none }) (v := .pointer (some ⟨g, 0, none⟩)) rfl (by kernel_rfl) (by kernel_rfl) (by kernel_rfl) (fun _ _ _ h => h) (Or.inl ⟨by kernel_rfl, ?_⟩) (by assumption) ?_
          · (intro w hSw; (try dsimp only at hSw); go_simp)
          try simp only [Act.put, List.setIfInBounds_toArray, List.set_cons_zero, List.set_cons_succ]
          refine wpAnyH_take (i := 7) (oi := { dst := some 64, op := Go.Op.load 9 (Go.Operand.tmp 63), type := 9, pos := "arith.go:131", after := #[{ on := 6, ground := Go.Ground.data }], guard := none }) (v := .string s) rfl (by kernel_rfl) (by kernel_rfl) (by kernel_rfl) (fun _ _ _ h => h) (Or.inl ⟨by kernel_rfl, ?_⟩) (by assumption) ?_
          · (intro w hSw; (try dsimp only at hSw); go_simp)
          try simp only [Act.put, List.setIfInBounds_toArray, List.set_cons_zero, List.set_cons_succ]
          refine wpAnyH_take (i := 8) (oi := { dst := some 65, op := Go.Op.call { callee := Go.Callee.builtin Go.Builtin.len, args := #[Go.Operand.tmp 64], argTypes := #[9] }, type := 3, pos := "arith.go:131", after := #[{ on := 7, ground := Go.Ground.data }], guard := none }) (v := .int .i64 s.size) rfl (by kernel_rfl) (by kernel_rfl) (by kernel_rfl) (fun _ _ _ h => h) (Or.inl ⟨by kernel_rfl, ?_⟩) (by assumption) ?_
          · (intro w hSw; (try dsimp only at hSw); go_simp)
          try simp only [Act.put, List.setIfInBounds_toArray, List.set_cons_zero, List.set_cons_succ]
          refine wpAnyH_take (i := 9) (oi := { dst := some 66, op := Go.Op.binOp Go.BinOp.lss 3 (Go.Operand.tmp 60) (Go.Operand.tmp 65) 3, type := 4, pos := "arith.go:131", after := #[{ on := 3, ground := Go.Ground.data }, { on := 8, ground := Go.Ground.data }], guard := none }) (v := .bool true) rfl (by kernel_rfl) (by kernel_rfl) (by kernel_rfl) (fun _ _ _ h => h) (Or.inl ⟨by kernel_rfl, ?_⟩) (by assumption) ?_
          · (intro w hSw; (try dsimp only at hSw); go_simp)
          try simp only [Act.put, List.setIfInBounds_toArray, List.set_cons_zero, List.set_cons_succ]
          refine wpAnyH_take (i := 10) (oi := { dst := some 67, op := Go.Op.move (Go.Operand.tmp 66), type := 4, pos := "arith.go:131", after := #[{ on := 9, ground := Go.Ground.data }], guard := none }) (v := .bool true) rfl (by kernel_rfl) (by kernel_rfl) (by kernel_rfl) (fun _ _ _ h => h) (Or.inl ⟨by kernel_rfl, ?_⟩) (by assumption) ?_
          · (intro w hSw; (try dsimp only at hSw); go_simp)
          try simp only [Act.put, List.setIfInBounds_toArray, List.set_cons_zero, List.set_cons_succ]
          refine wpAnyH_take (i := 11) (oi := { dst := some 68, op := Go.Op.move (Go.Operand.tmp 0), type := 50, pos := "arith.go:131", after := #[{ on := 10, ground := Go.Ground.guard }], guard := some (10, true) }) (v := .pointer (some ⟨g, 0, none⟩)) rfl (by kernel_rfl) (by kernel_rfl) (by kernel_rfl) (fun _ _ _ h => h) (Or.inl ⟨by kernel_rfl, ?_⟩) (by assumption) ?_
          · (intro w hSw; (try dsimp only at hSw); go_simp)
          try simp only [Act.put, List.setIfInBounds_toArray, List.set_cons_zero, List.set_cons_succ]
          refine wpAnyH_take (i := 12) (oi := { dst := some 69, op := Go.Op.nilCheck (Go.Operand.tmp 68), type := 0, pos := "arith.go:131", after := #[{ on := 11, ground := Go.Ground.data }, { on := 10, ground := Go.Ground.guard }], guard := some (10, true) }) (v := .pointer (some ⟨g, 0, none⟩)) rfl (by kernel_rfl) (by kernel_rfl) (by kernel_rfl) (fun _ _ _ h => h) (Or.inl ⟨by kernel_rfl, ?_⟩) (by assumption) ?_
          · (intro w hSw; (try dsimp only at hSw); go_simp)
          try simp only [Act.put, List.setIfInBounds_toArray, List.set_cons_zero, List.set_cons_succ]
          refine wpAnyH_take (i := 13) (oi := { dst := some 70, op := Go.Op.fieldAddr 52 (Go.Operand.tmp 69) 0, type := 0, pos := "arith.go:131", after := #[{ on := 12, ground := Go.Ground.data }, { on := 10, ground := Go.Ground.guard }], guard := some (10, true) }) (v := .pointer (some ⟨g, 0, none⟩)) rfl (by kernel_rfl) (by kernel_rfl) (by kernel_rfl) (fun _ _ _ h => h) (Or.inl ⟨by kernel_rfl, ?_⟩) (by assumption) ?_
          · (intro w hSw; (try dsimp only at hSw); go_simp)
          try simp only [Act.put, List.setIfInBounds_toArray, List.set_cons_zero, List.set_cons_succ]
          refine wpAnyH_take (i := 14) (oi := { dst := some 71, op := Go.Op.load 9 (Go.Operand.tmp 70), type := 9, pos := "arith.go:131", after := #[{ on := 13, ground := Go.Ground.data }, { on := 10, ground := Go.Ground.guard }], guard := some (10, true) }) (v := .string s) rfl (by kernel_rfl) (by kernel_rfl) (by kernel_rfl) (fun _ _ _ h => h) (Or.inl ⟨by kernel_rfl, ?_⟩) (by assumption) ?_
          · (intro w hSw; (try dsimp only at hSw); go_simp)
          try simp only [Act.put, List.setIfInBounds_toArray, List.set_cons_zero, List.set_cons_succ]
          refine wpAnyH_take (i := 15) (oi := { dst := some 72, op := Go.Op.move (Go.Operand.tmp 6), type := 3, pos := "arith.go:131", after := #[{ on := 10, ground := Go.Ground.guard }], guard := some (10, true) }) (v := .int .i64 P) rfl (by kernel_rfl) (by kernel_rfl) (by kernel_rfl) (fun _ _ _ h => h) (Or.inl ⟨by kernel_rfl, ?_⟩) (by assumption) ?_
          · (intro w hSw; (try dsimp only at hSw); go_simp)
          try simp only [Act.put, List.setIfInBounds_toArray, List.set_cons_zero, List.set_cons_succ]
          refine wpAnyH_take (i := 16) (oi := { dst := some 73, op := Go.Op.move (Go.Operand.tmp 0), type := 50, pos := "arith.go:131", after := #[{ on := 10, ground := Go.Ground.guard }], guard := some (10, true) }) (v := .pointer (some ⟨g, 0, none⟩)) rfl (by kernel_rfl) (by kernel_rfl) (by kernel_rfl) (fun _ _ _ h => h) (Or.inl ⟨by kernel_rfl, ?_⟩) (by assumption) ?_
          · (intro w hSw; (try dsimp only at hSw); go_simp)
          try simp only [Act.put, List.setIfInBounds_toArray, List.set_cons_zero, List.set_cons_succ]
          refine wpAnyH_take (i := 17) (oi := { dst := some 74, op := Go.Op.nilCheck (Go.Operand.tmp 73), type := 0, pos := "arith.go:131", after := #[{ on := 16, ground := Go.Ground.data }, { on := 10, ground := Go.Ground.guard }], guard := some (10, true) }) (v := .pointer (some ⟨g, 0, none⟩)) rfl (by kernel_rfl) (by kernel_rfl) (by kernel_rfl) (fun _ _ _ h => h) (Or.inl ⟨by kernel_rfl, ?_⟩) (by assumption) ?_
          · (intro w hSw; (try dsimp only at hSw); go_simp)
          try simp only [Act.put, List.setIfInBounds_toArray, List.set_cons_zero, List.set_cons_succ]
          refine wpAnyH_take (i := 18) (oi := { dst := some 75, op := Go.Op.fieldAddr 52 (Go.Operand.tmp 74) 1, type := 0, pos := "arith.go:131", after := #[{ on := 17, ground := Go.Ground.data }, { on := 10, ground := Go.Ground.guard }], guard := some (10, true) }) (v := .pointer (some ⟨g, 1, none⟩)) rfl (by kernel_rfl) (by kernel_rfl) (by kernel_rfl) (fun _ _ _ h => h) (Or.inl ⟨by kernel_rfl, ?_⟩) (by assumption) ?_
          · (intro w hSw; (try dsimp only at hSw); go_simp)
          try simp only [Act.put, List.setIfInBounds_toArray, List.set_cons_zero, List.set_cons_succ]
          refine wpAnyH_take (i := 19) (oi := { dst := some 76, op := Go.Op.load 3 (Go.Operand.tmp 75), type := 3, pos := "arith.go:131", after := #[{ on := 18, ground := Go.Ground.data }, { on := 10, ground := Go.Ground.guard }], guard := some (10, true) }) (v := .int .i64 i) rfl (by kernel_rfl) (by kernel_rfl) (by kernel_rfl) (fun _ _ _ h => h) (Or.inl ⟨by kernel_rfl, ?_⟩) (by assumption) ?_
          · (intro w hSw; (try dsimp only at hSw); go_simp)
          try simp only [Act.put, List.setIfInBounds_toArray, List.set_cons_zero, List.set_cons_succ]
          refine wpAnyH_take (i := 20) (oi := { dst := some 77, op := Go.Op.binOp Go.BinOp.add 3 (Go.Operand.tmp 76) (Go.Operand.const (Go.Value.int Go.IntKind.i64 1)) 3, type := 3, pos := "arith.go:131", after := #[{ on := 19, ground := Go.Ground.data }, { on := 10, ground := Go.Ground.guard }], guard := some (10, true) }) (v := .int .i64 (i + 1)) rfl (by kernel_rfl) (by kernel_rfl) (by kernel_rfl) (fun _ _ _ h => h) (Or.inl ⟨by kernel_rfl, ?_⟩) (by assumption) ?_
          · (intro w hSw; (try dsimp only at hSw); go_simp)
          try simp only [Act.put, List.setIfInBounds_toArray, List.set_cons_zero, List.set_cons_succ]
          refine wpAnyH_take (i := 21) (oi := { dst := some 78, op := Go.Op.slice 9 (Go.Operand.tmp 71) (some (Go.Operand.tmp 72)) (some (Go.Operand.tmp 77)) none, type := 9, pos := "arith.go:131", after := #[{ on := 14, ground := Go.Ground.data }, { on := 15, ground := Go.Ground.data }, { on := 20, ground := Go.Ground.data }, { on := 10, ground := Go.Ground.guard }], guard := some (10, true) }) (v := .string (s.extract P (i + 1))) rfl (by kernel_rfl) (by kernel_rfl) (by kernel_rfl) (fun _ _ _ h => h) (Or.inl ⟨by kernel_rfl, ?_⟩) (by assumption) ?_
          · (intro w hSw; (try dsimp only at hSw); go_simp)
          try simp only [Act.put, List.setIfInBounds_toArray, List.set_cons_zero, List.set_cons_succ]
          refine wpAnyH_ready (rs := [22]) (by kernel_rfl) (by simp) ?_
          refine AllReadyH.cons (o := { dst := some 79, op := Go.Op.call { callee := Go.Callee.value (Go.Operand.func 31), args := #[Go.Operand.tmp 78], argTypes := #[9] }, type := 4, pos := "arith.go:131", after := #[{ on := 21, ground := Go.Ground.data }, { on := 10, ground := Go.Ground.chain }, { on := 10, ground := Go.Ground.guard }], guard := some (10, true) }) rfl (fun K hK => ?_) AllReadyH.nil
          go_simp
          refine (name_calls _ false _ HZ.out HN.out).mono ?_
          rintro e w' ⟨rfl, hb⟩
          go_simp
          refine hK.out _ _ (held_below HRB.out (show Below wr.heap.size wr w' from ⟨hb.os, hb.tape, hb.output, hb.size, hb.block⟩)) (fun hHeld2 => ?_)
          clear hK K hHeld
          try simp only [Act.put, List.setIfInBounds_toArray, List.set_cons_zero, List.set_cons_succ]
          refine wpAnyH_take (i := 23) (oi := { dst := some 80, op := Go.Op.move (Go.Operand.tmp 79), type := 4, pos := "arith.go:131", after := #[{ on := 22, ground := Go.Ground.data }, { on := 22, ground := Go.Ground.chain }, { on := 10, ground := Go.Ground.guard }], guard := some (10, true) }) (v := .bool false) rfl (by kernel_rfl) (by kernel_rfl) (by kernel_rfl) (fun _ _ _ h => h) (Or.inl ⟨by kernel_rfl, ?_⟩) (by assumption) ?_
          · (intro w hSw; (try dsimp only at hSw); go_simp)
          try simp only [Act.put, List.setIfInBounds_toArray, List.set_cons_zero, List.set_cons_succ]
          refine wpAnyH_take (i := 24) (oi := { dst := some 81, op := Go.Op.move (Go.Operand.tmp 0), type := 50, pos := "arith.go:131", after := #[{ on := 23, ground := Go.Ground.guard }], guard := some (23, false) }) (v := .pointer (some ⟨g, 0, none⟩)) rfl (by kernel_rfl) (by kernel_rfl) (by kernel_rfl) (fun _ _ _ h => h) (Or.inl ⟨by kernel_rfl, ?_⟩) (by assumption) ?_
          · (intro w hSw; (try dsimp only at hSw); go_simp)
          try simp only [Act.put, List.setIfInBounds_toArray, List.set_cons_zero, List.set_cons_succ]
          refine wpAnyH_take (i := 25) (oi := { dst := some 82, op := Go.Op.nilCheck (Go.Operand.tmp 81), type := 0, pos := "arith.go:131", after := #[{ on := 24, ground := Go.Ground.data }, { on := 23, ground := Go.Ground.guard }], guard := some (23, false) }) (v := .pointer (some ⟨g, 0, none⟩)) rfl (by kernel_rfl) (by kernel_rfl) (by kernel_rfl) (fun _ _ _ h => h) (Or.inl ⟨by kernel_rfl, ?_⟩) (by assumption) ?_
          · (intro w hSw; (try dsimp only at hSw); go_simp)
          try simp only [Act.put, List.setIfInBounds_toArray, List.set_cons_zero, List.set_cons_succ]
          refine wpAnyH_take (i := 26) (oi := { dst := some 83, op := Go.Op.fieldAddr 52 (Go.Operand.tmp 82) 0, type := 0, pos := "arith.go:131", after := #[{ on := 25, ground := Go.Ground.data }, { on := 23, ground := Go.Ground.guard }], guard := some (23, false) }) (v := .pointer (some ⟨g, 0, none⟩)) rfl (by kernel_rfl) (by kernel_rfl) (by kernel_rfl) (fun _ _ _ h => h) (Or.inl ⟨by kernel_rfl, ?_⟩) (by assumption) ?_
          · (intro w hSw; (try dsimp only at hSw); go_simp)
          try simp only [Act.put, List.setIfInBounds_toArray, List.set_cons_zero, List.set_cons_succ]
          refine wpAnyH_take (i := 27) (oi := { dst := some 84, op := Go.Op.load 9 (Go.Operand.tmp 83), type := 9, pos := "arith.go:131", after := #[{ on := 26, ground := Go.Ground.data }, { on := 23, ground := Go.Ground.guard }], guard := some (23, false) }) (v := .string s) rfl (by kernel_rfl) (by kernel_rfl) (by kernel_rfl) (fun _ _ _ h => h) (Or.inl ⟨by kernel_rfl, ?_⟩) (by assumption) ?_
          · (intro w hSw; (try dsimp only at hSw); go_simp)
          try simp only [Act.put, List.setIfInBounds_toArray, List.set_cons_zero, List.set_cons_succ]
          refine wpAnyH_take (i := 28) (oi := { dst := some 85, op := Go.Op.move (Go.Operand.tmp 6), type := 3, pos := "arith.go:131", after := #[{ on := 23, ground := Go.Ground.guard }], guard := some (23, false) }) (v := .int .i64 P) rfl (by kernel_rfl) (by kernel_rfl) (by kernel_rfl) (fun _ _ _ h => h) (Or.inl ⟨by kernel_rfl, ?_⟩) (by assumption) ?_
          · (intro w hSw; (try dsimp only at hSw); go_simp)
          try simp only [Act.put, List.setIfInBounds_toArray, List.set_cons_zero, List.set_cons_succ]
          refine wpAnyH_take (i := 29) (oi := { dst := some 86, op := Go.Op.move (Go.Operand.tmp 0), type := 50, pos := "arith.go:131", after := #[{ on := 23, ground := Go.Ground.guard }], guard := some (23, false) }) (v := .pointer (some ⟨g, 0, none⟩)) rfl (by kernel_rfl) (by kernel_rfl) (by kernel_rfl) (fun _ _ _ h => h) (Or.inl ⟨by kernel_rfl, ?_⟩) (by assumption) ?_
          · (intro w hSw; (try dsimp only at hSw); go_simp)
          try simp only [Act.put, List.setIfInBounds_toArray, List.set_cons_zero, List.set_cons_succ]
          refine wpAnyH_take (i := 30) (oi := { dst := some 87, op := Go.Op.nilCheck (Go.Operand.tmp 86), type := 0, pos := "arith.go:131", after := #[{ on := 29, ground := Go.Ground.data }, { on := 23, ground := Go.Ground.guard }], guard := some (23, false) }) (v := .pointer (some ⟨g, 0, none⟩)) rfl (by kernel_rfl) (by kernel_rfl) (by kernel_rfl) (fun _ _ _ h => h) (Or.inl ⟨by kernel_rfl, ?_⟩) (by assumption) ?_
          · (intro w hSw; (try dsimp only at hSw); go_simp)
          try simp only [Act.put, List.setIfInBounds_toArray, List.set_cons_zero, List.set_cons_succ]
          refine wpAnyH_take (i := 31) (oi := { dst := some 88, op := Go.Op.fieldAddr 52 (Go.Operand.tmp 87) 1, type := 0, pos := "arith.go:131", after := #[{ on := 30, ground := Go.Ground.data }, { on := 23, ground := Go.Ground.guard }], guard := some (23, false) }) (v := .pointer (some ⟨g, 1, none⟩)) rfl (by kernel_rfl) (by kernel_rfl) (by kernel_rfl) (fun _ _ _ h => h) (Or.inl ⟨by kernel_rfl, ?_⟩) (by assumption) ?_
          · (intro w hSw; (try dsimp only at hSw); go_simp)
          try simp only [Act.put, List.setIfInBounds_toArray, List.set_cons_zero, List.set_cons_succ]
          refine wpAnyH_take (i := 32) (oi := { dst := some 89, op := Go.Op.load 3 (Go.Operand.tmp 88), type := 3, pos := "arith.go:131", after := #[{ on := 31, ground := Go.Ground.data }, { on := 23, ground := Go.Ground.guard }], guard := some (23, false) }) (v := .int .i64 i) rfl (by kernel_rfl) (by kernel_rfl) (by kernel_rfl) (fun _ _ _ h => h) (Or.inl ⟨by kernel_rfl, ?_⟩) (by assumption) ?_
          · (intro w hSw; (try dsimp only at hSw); go_simp)
          try simp only [Act.put, List.setIfInBounds_toArray, List.set_cons_zero, List.set_cons_succ]
          refine wpAnyH_take (i := 33) (oi := { dst := some 90, op := Go.Op.binOp Go.BinOp.add 3 (Go.Operand.tmp 89) (Go.Operand.const (Go.Value.int Go.IntKind.i64 1)) 3, type := 3, pos := "arith.go:131", after := #[{ on := 32, ground := Go.Ground.data }, { on := 23, ground := Go.Ground.guard }], guard := some (23, false) }) (v := .int .i64 (i + 1)) rfl (by kernel_rfl) (by kernel_rfl) (by kernel_rfl) (fun _ _ _ h => h) (Or.inl ⟨by kernel_rfl, ?_⟩) (by assumption) ?_
          · (intro w hSw; (try dsimp only at hSw); go_simp)
          try simp only [Act.put, List.setIfInBounds_toArray, List.set_cons_zero, List.set_cons_succ]
          refine wpAnyH_take (i := 34) (oi := { dst := some 91, op := Go.Op.slice 9 (Go.Operand.tmp 84) (some (Go.Operand.tmp 85)) (some (Go.Operand.tmp 90)) none, type := 9, pos := "arith.go:131", after := #[{ on := 27, ground := Go.Ground.data }, { on := 28, ground := Go.Ground.data }, { on := 33, ground := Go.Ground.data }, { on := 23, ground := Go.Ground.guard }], guard := some (23, false) }) (v := .string (s.extract P (i + 1))) rfl (by kernel_rfl) (by kernel_rfl) (by kernel_rfl) (fun _ _ _ h => h) (Or.inl ⟨by kernel_rfl, ?_⟩) (by assumption) ?_
          · (intro w hSw; (try dsimp only at hSw); go_simp)
          try simp only [Act.put, List.setIfInBounds_toArray, List.set_cons_zero, List.set_cons_succ]
          refine wpAnyH_ready (rs := [35]) (by kernel_rfl) (by simp) ?_
          refine AllReadyH.cons (o := { dst := some 92, op := Go.Op.call { callee := Go.Callee.value (Go.Operand.func 53), args := #[Go.Operand.tmp 91, Go.Operand.const (Go.Value.string { data := #[48, 49, 50, 51, 52, 53, 54, 55, 56, 57] })], argTypes := #[9, 9] }, type := 9, pos := "arith.go:131", after := #[{ on := 34, ground := Go.Ground.data }, { on := 23, ground := Go.Ground.chain }, { on := 23, ground := Go.Ground.guard }], guard := some (23, false) }) rfl (fun K hK => ?_) AllReadyH.nil
          go_simp
          refine (trim_yes _ _ HZ.out HT.out).mono ?_
          rintro e w'' ⟨rfl, hb2⟩
          go_simp
          refine hK.out _ _ (held_below (blk_below HRB.out (show Below wr.heap.size wr w' from ⟨hb.os, hb.tape, hb.output, hb.size, hb.block⟩)) hb2) (fun hHeld3 => ?_)
          clear hK K hHeld2
          try simp only [Act.put, List.setIfInBounds_toArray, List.set_cons_zero, List.set_cons_succ]
          refine wpAnyH_take (i := 36) (oi := { dst := some 93, op := Go.Op.binOp Go.BinOp.eql 9 (Go.Operand.tmp 92) (Go.Operand.const (Go.Value.string { data := #[] })) 9, type := 4, pos := "arith.go:131", after := #[{ on := 35, ground := Go.Ground.data }, { on := 23, ground := Go.Ground.guard }], guard := some (23, false) }) (v := .bool true) rfl (by kernel_rfl) (by kernel_rfl) (by kernel_rfl) (fun _ _ _ h => h) (Or.inl ⟨by kernel_rfl, ?_⟩) (by assumption) ?_
          · (intro w hSw; (try dsimp only at hSw); go_simp)
          try simp only [Act.put, List.setIfInBounds_toArray, List.set_cons_zero, List.set_cons_succ]
          refine wpAnyH_take (i := 37) (oi := { dst := some 94, op := Go.Op.pick (Go.Operand.tmp 80) (Go.Operand.const (Go.Value.bool true)) (Go.Operand.tmp 93), type := 4, pos := "arith.go:131", after := #[{ on := 23, ground := Go.Ground.data }, { on := 36, ground := Go.Ground.data }, { on := 10, ground := Go.Ground.guard }], guard := some (10, true) }) (v := .bool true) rfl (by kernel_rfl) (by kernel_rfl) (by kernel_rfl) (fun _ _ _ h => h) (Or.inl ⟨by kernel_rfl, ?_⟩) (by assumption) ?_
          · (intro w hSw; (try dsimp only at hSw); go_simp)
          try simp only [Act.put, List.setIfInBounds_toArray, List.set_cons_zero, List.set_cons_succ]
          refine wpAnyH_take (i := 38) (oi := { dst := some 95, op := Go.Op.pick (Go.Operand.tmp 67) (Go.Operand.tmp 94) (Go.Operand.const (Go.Value.bool false)), type := 4, pos := "arith.go:131", after := #[{ on := 10, ground := Go.Ground.data }, { on := 37, ground := Go.Ground.data }], guard := none }) (v := .bool true) rfl (by kernel_rfl) (by kernel_rfl) (by kernel_rfl) (fun _ _ _ h => h) (Or.inl ⟨by kernel_rfl, ?_⟩) (by assumption) ?_
          · (intro w hSw; (try dsimp only at hSw); go_simp)
          try simp only [Act.put, List.setIfInBounds_toArray, List.set_cons_zero, List.set_cons_succ]
          refine wpAnyH_done (by kernel_rfl) ?_ _
          have hb9 : Below wr.heap.size wr w'' := Below.trans (show Below wr.heap.size wr w' from ⟨hb.os, hb.tape, hb.output, hb.size, hb.block⟩) (hb2.mono hb.size)
          have HRN := Aside0.mk ((HR.out.below hb9).move (i + 1))
          have HBN := Aside0.mk ((Below.heap_setCell _ ⟨g, 1, none⟩ (.int .i64 ((i + 1 : Nat) : Int)) w.heap.size (by have := HG.out; simp; omega)).trans (blk_below HB4.out hb9))
          have k1 := (HR.out.below hb9).at_
          have k2 := (HR.out.below hb9).fr 1
          have hgl : g < w''.heap.size := blk_lt (HR.out.below hb9).blk
          clear HR HRB HB4 h1 h0 hf hb9
          go_wp2_with fail
          go_roundg (s.size - (i + 1))
          case measure => have := HK.out; omega
          case rel => exact ⟨i + 1, by omega, by omega, rfl, ⟨HE.out.trans HS.out⟩, HRN, HBN⟩
        | false =>
          have HS := Aside0.mk (wend_no s P i (fun _ => by rw [hn, hdg]; rfl))
          have HT := Aside0.mk hdg
          clear hn hdg
          go_wp2_with fail
          refine wp_region_held_drew (S := fun w' => w'.cell? ⟨g, 0, none⟩ = some (.string s) ∧ w'.cell? ⟨g, 1, none⟩ = some (.int .i64 i)) (by kernel_rfl) ⟨h0, h1⟩ (fun hHeld => ?_)
          refine wpAnyH_take (i := 0) (oi := { dst := some 57, op := Go.Op.move (Go.Operand.tmp 0), type := 50, pos := "arith.go:131", after := #[], guard := none }) (v := .pointer (some ⟨g, 0, none⟩)) rfl (by kernel_rfl) (by kernel_rfl) (by kernel_rfl) (fun _ _ _ h => h) (Or.inl ⟨by kernel_rfl, ?_⟩) (by assumption) ?_
          · (intro w hSw; (try dsimp only at hSw); go_simp)
          try simp only [Act.put, List.setIfInBounds_toArray, List.set_cons_zero, List.set_cons_succ]
          refine wpAnyH_take (i := 1) (oi := { dst := some 58, op := Go.Op.nilCheck (Go.Operand.tmp 57), type := 0, pos := "arith.go:131", after := #[{ on := 0, ground := Go.Ground.data }], guard := none }) (v := .pointer (some ⟨g, 0, none⟩)) rfl (by kernel_rfl) (by kernel_rfl) (by kernel_rfl) (fun _ _ _ h => h) (Or.inl ⟨by kernel_rfl, ?_⟩) (by assumption) ?_
          · (intro w hSw; (try dsimp only at hSw); go_simp)
          try simp only [Act.put, List.setIfInBounds_toArray, List.set_cons_zero, List.set_cons_succ]
          refine wpAnyH_take (i := 2) (oi := { dst := some 59, op := Go.Op.fieldAddr 52 (Go.Operand.tmp 58) 1, type := 0, pos := "arith.go:131", after := #[{ on := 1, ground := Go.Ground.data }], guard := none }) (v := .pointer (some ⟨g, 1, none⟩)) rfl (by kernel_rfl) (by kernel_rfl) (by kernel_rfl) (fun _ _ _ h => h) (Or.inl ⟨by kernel_rfl, ?_⟩) (by assumption) ?_
          · (intro w hSw; (try dsimp only at hSw); go_simp)
          try simp only [Act.put, List.setIfInBounds_toArray, List.set_cons_zero, List.set_cons_succ]
          refine wpAnyH_take (i := 3) (oi := { dst := some 60, op := Go.Op.load 3 (Go.Operand.tmp 59), type := 3, pos := "arith.go:131", after := #[{ on := 2, ground := Go.Ground.data }], guard := none }) (v := .int .i64 i) rfl (by kernel_rfl) (by kernel_rfl) (by kernel_rfl) (fun _ _ _ h => h) (Or.inl ⟨by kernel_rfl, ?_⟩) (by assumption) ?_
          · (intro w hSw; (try dsimp only at hSw); go_simp)
          try simp only [Act.put, List.setIfInBounds_toArray, List.set_cons_zero, List.set_cons_succ]
          refine wpAnyH_take (i := 4) (oi := { dst := some 61, op := Go.Op.move (Go.Operand.tmp 0), type := 50, pos := "arith.go:131", after := #[], guard := none }) (v := .pointer (some ⟨g, 0, none⟩)) rfl (by kernel_rfl) (by kernel_rfl) (by kernel_rfl) (fun _ _ _ h => h) (Or.inl ⟨by kernel_rfl, ?_⟩) (by assumption) ?_
          · (intro w hSw; (try dsimp only at hSw); go_simp)
          try simp only [Act.put, List.setIfInBounds_toArray, List.set_cons_zero, List.set_cons_succ]
          refine wpAnyH_take (i := 5) (oi := { dst := some 62, op := Go.Op.nilCheck (Go.Operand.tmp 61), type := 0, pos := "arith.go:131", after := #[{ on := 4, ground := Go.Ground.data }], guard := none }) (v := .pointer (some ⟨g, 0, none⟩)) rfl (by kernel_rfl) (by kernel_rfl) (by kernel_rfl) (fun _ _ _ h => h) (Or.inl ⟨by kernel_rfl, ?_⟩) (by assumption) ?_
          · (intro w hSw; (try dsimp only at hSw); go_simp)
          try simp only [Act.put, List.setIfInBounds_toArray, List.set_cons_zero, List.set_cons_succ]
          refine wpAnyH_take (i := 6) (oi := { dst := some 63, op := Go.Op.fieldAddr 52 (Go.Operand.tmp 62) 0, type := 0, pos := "arith.go:131", after := #[{ on := 5, ground := Go.Ground.data }], guard := none }) (v := .pointer (some ⟨g, 0, none⟩)) rfl (by kernel_rfl) (by kernel_rfl) (by kernel_rfl) (fun _ _ _ h => h) (Or.inl ⟨by kernel_rfl, ?_⟩) (by assumption) ?_
          · (intro w hSw; (try dsimp only at hSw); go_simp)
          try simp only [Act.put, List.setIfInBounds_toArray, List.set_cons_zero, List.set_cons_succ]
          refine wpAnyH_take (i := 7) (oi := { dst := some 64, op := Go.Op.load 9 (Go.Operand.tmp 63), type := 9, pos := "arith.go:131", after := #[{ on := 6, ground := Go.Ground.data }], guard := none }) (v := .string s) rfl (by kernel_rfl) (by kernel_rfl) (by kernel_rfl) (fun _ _ _ h => h) (Or.inl ⟨by kernel_rfl, ?_⟩) (by assumption) ?_
          · (intro w hSw; (try dsimp only at hSw); go_simp)
          try simp only [Act.put, List.setIfInBounds_toArray, List.set_cons_zero, List.set_cons_succ]
          refine wpAnyH_take (i := 8) (oi := { dst := some 65, op := Go.Op.call { callee := Go.Callee.builtin Go.Builtin.len, args := #[Go.Operand.tmp 64], argTypes := #[9] }, type := 3, pos := "arith.go:131", after := #[{ on := 7, ground := Go.Ground.data }], guard := none }) (v := .int .i64 s.size) rfl (by kernel_rfl) (by kernel_rfl) (by kernel_rfl) (fun _ _ _ h => h) (Or.inl ⟨by kernel_rfl, ?_⟩) (by assumption) ?_
          · (intro w hSw; (try dsimp only at hSw); go_simp)
          try simp only [Act.put, List.setIfInBounds_toArray, List.set_cons_zero, List.set_cons_succ]
          refine wpAnyH_take (i := 9) (oi := { dst := some 66, op := Go.Op.binOp Go.BinOp.lss 3 (Go.Operand.tmp 60) (Go.Operand.tmp 65) 3, type := 4, pos := "arith.go:131", after := #[{ on := 3, ground := Go.Ground.data }, { on := 8, ground := Go.Ground.data }], guard := none }) (v := .bool true) rfl (by kernel_rfl) (by kernel_rfl) (by kernel_rfl) (fun _ _ _ h => h) (Or.inl ⟨by kernel_rfl, ?_⟩) (by assumption) ?_
          · (intro w hSw; (try dsimp only at hSw); go_simp)
          try simp only [Act.put, List.setIfInBounds_toArray, List.set_cons_zero, List.set_cons_succ]
          refine wpAnyH_take (i := 10) (oi := { dst := some 67, op := Go.Op.move (Go.Operand.tmp 66), type := 4, pos := "arith.go:131", after := #[{ on := 9, ground := Go.Ground.data }], guard := none }) (v := .bool true) rfl (by kernel_rfl) (by kernel_rfl) (by kernel_rfl) (fun _ _ _ h => h) (Or.inl ⟨by kernel_rfl, ?_⟩) (by assumption) ?_
          · (intro w hSw; (try dsimp only at hSw); go_simp)
          try simp only [Act.put, List.setIfInBounds_toArray, List.set_cons_zero, List.set_cons_succ]
          refine wpAnyH_take (i := 11) (oi := { dst := some 68, op := Go.Op.move (Go.Operand.tmp 0), type := 50, pos := "arith.go:131", after := #[{ on := 10, ground := Go.Ground.guard }], guard := some (10, true) }) (v := .pointer (some ⟨g, 0, none⟩)) rfl (by kernel_rfl) (by kernel_rfl) (by kernel_rfl) (fun _ _ _ h => h) (Or.inl ⟨by kernel_rfl, ?_⟩) (by assumption) ?_
          · (intro w hSw; (try dsimp only at hSw); go_simp)
          try simp only [Act.put, List.setIfInBounds_toArray, List.set_cons_zero, List.set_cons_succ]
          refine wpAnyH_take (i := 12) (oi := { dst := some 69, op := Go.Op.nilCheck (Go.Operand.tmp 68), type := 0, pos := "arith.go:131", after := #[{ on := 11, ground := Go.Ground.data }, { on := 10, ground := Go.Ground.guard }], guard := some (10, true) }) (v := .pointer (some ⟨g, 0, none⟩)) rfl (by kernel_rfl) (by kernel_rfl) (by kernel_rfl) (fun _ _ _ h => h) (Or.inl ⟨by kernel_rfl, ?_⟩) (by assumption) ?_
          · (intro w hSw; (try dsimp only at hSw); go_simp)
          try simp only [Act.put, List.setIfInBounds_toArray, List.set_cons_zero, List.set_cons_succ]
          refine wpAnyH_take (i := 13) (oi := { dst := some 70, op := Go.Op.fieldAddr 52 (Go.Operand.tmp 69) 0, type := 0, pos := "arith.go:131", after := #[{ on := 12, ground := Go.Ground.data }, { on := 10, ground := Go.Ground.guard }], guard := some (10, true) }) (v := .pointer (some ⟨g, 0, none⟩)) rfl (by kernel_rfl) (by kernel_rfl) (by kernel_rfl) (fun _ _ _ h => h) (Or.inl ⟨by kernel_rfl, ?_⟩) (by assumption) ?_
          · (intro w hSw; (try dsimp only at hSw); go_simp)
          try simp only [Act.put, List.setIfInBounds_toArray, List.set_cons_zero, List.set_cons_succ]
          refine wpAnyH_take (i := 14) (oi := { dst := some 71, op := Go.Op.load 9 (Go.Operand.tmp 70), type := 9, pos := "arith.go:131", after := #[{ on := 13, ground := Go.Ground.data }, { on := 10, ground := Go.Ground.guard }], guard := some (10, true) }) (v := .string s) rfl (by kernel_rfl) (by kernel_rfl) (by kernel_rfl) (fun _ _ _ h => h) (Or.inl ⟨by kernel_rfl, ?_⟩) (by assumption) ?_
          · (intro w hSw; (try dsimp only at hSw); go_simp)
          try simp only [Act.put, List.setIfInBounds_toArray, List.set_cons_zero, List.set_cons_succ]
          refine wpAnyH_take (i := 15) (oi := { dst := some 72, op := Go.Op.move (Go.Operand.tmp 6), type := 3, pos := "arith.go:131", after := #[{ on := 10, ground := Go.Ground.guard }], guard := some (10, true) }) (v := .int .i64 P) rfl (by kernel_rfl) (by kernel_rfl) (by kernel_rfl) (fun _ _ _ h => h) (Or.inl ⟨by kernel_rfl, ?_⟩) (by assumption) ?_
          · (intro w hSw; (try dsimp only at hSw); go_simp)
          try simp only [Act.put, List.setIfInBounds_toArray, List.set_cons_zero, List.set_cons_succ]
          refine wpAnyH_take (i := 16) (oi := { dst := some 73, op := Go.Op.move (Go.Operand.tmp 0), type := 50, pos := "arith.go:131", after := #[{ on := 10, ground := Go.Ground.guard }], guard := some (10, true) }) (v := .pointer (some ⟨g, 0, none⟩)) rfl (by kernel_rfl) (by kernel_rfl) (by kernel_rfl) (fun _ _ _ h => h) (Or.inl ⟨by kernel_rfl, ?_⟩) (by assumption) ?_
          · (intro w hSw; (try dsimp only at hSw); go_simp)
          try simp only [Act.put, List.setIfInBounds_toArray, List.set_cons_zero, List.set_cons_succ]
          refine wpAnyH_take (i := 17) (oi := { dst := some 74, op := Go.Op.nilCheck (Go.Operand.tmp 73), type := 0, pos := "arith.go:131", after := #[{ on := 16, ground := Go.Ground.data }, { on := 10, ground := Go.Ground.guard }], guard := some (10, true) }) (v := .pointer (some ⟨g, 0, none⟩)) rfl (by kernel_rfl) (by kernel_rfl) (by kernel_rfl) (fun _ _ _ h => h) (Or.inl ⟨by kernel_rfl, ?_⟩) (by assumption) ?_
          · (intro w hSw; (try dsimp only at hSw); go_simp)
          try simp only [Act.put, List.setIfInBounds_toArray, List.set_cons_zero, List.set_cons_succ]
          refine wpAnyH_take (i := 18) (oi := { dst := some 75, op := Go.Op.fieldAddr 52 (Go.Operand.tmp 74) 1, type := 0, pos := "arith.go:131", after := #[{ on := 17, ground := Go.Ground.data }, { on := 10, ground := Go.Ground.guard }], guard := some (10, true) }) (v := .pointer (some ⟨g, 1, none⟩)) rfl (by kernel_rfl) (by kernel_rfl) (by kernel_rfl) (fun _ _ _ h => h) (Or.inl ⟨by kernel_rfl, ?_⟩) (by assumption) ?_
          · (intro w hSw; (try dsimp only at hSw); go_simp)
          try simp only [Act.put, List.setIfInBounds_toArray, List.set_cons_zero, List.set_cons_succ]
          refine wpAnyH_take (i := 19) (oi := { dst := some 76, op := Go.Op.load 3 (Go.Operand.tmp 75), type := 3, pos := "arith.go:131", after := #[{ on := 18, ground := Go.Ground.data }, { on := 10, ground := Go.Ground.guard }], guard := some (10, true) }) (v := .int .i64 i) rfl (by kernel_rfl) (by kernel_rfl) (by kernel_rfl) (fun _ _ _ h => h) (Or.inl ⟨by kernel_rfl, ?_⟩) (by assumption) ?_
          · (intro w hSw; (try dsimp only at hSw); go_simp)
          try simp only [Act.put, List.setIfInBounds_toArray, List.set_cons_zero, List.set_cons_succ]
          refine wpAnyH_take (i := 20) (oi := { dst := some 77, op := Go.Op.binOp Go.BinOp.add 3 (Go.Operand.tmp 76) (Go.Operand.const (Go.Value.int Go.IntKind.i64 1)) 3, type := 3, pos := "arith.go:131", after := #[{ on := 19, ground := Go.Ground.data }, { on := 10, ground := Go.Ground.guard }], guard := some (10, true) }) (v := .int .i64 (i + 1)) rfl (by kernel_rfl) (by kernel_rfl) (by kernel_rfl) (fun _ _ _ h => h) (Or.inl ⟨by kernel_rfl, ?_⟩) (by assumption) ?_
          · (intro w hSw; (try dsimp only at hSw); go_simp)
          try simp only [Act.put, List.setIfInBounds_toArray, List.set_cons_zero, List.set_cons_succ]
          refine wpAnyH_take (i := 21) (oi := { dst := some 78, op := Go.Op.slice 9 (Go.Operand.tmp 71) (some (Go.Operand.tmp 72)) (some (Go.Operand.tmp 77)) none, type := 9, pos := "arith.go:131", after := #[{ on := 14, ground := Go.Ground.data }, { on := 15, ground := Go.Ground.data }, { on := 20, ground := Go.Ground.data }, { on := 10, ground := Go.Ground.guard }], guard := some (10, true) }) (v := .string (s.extract P (i + 1))) rfl (by kernel_rfl) (by kernel_rfl) (by kernel_rfl) (fun _ _ _ h => h) (Or.inl ⟨by kernel_rfl, ?_⟩) (by assumption) ?_
          · (intro w hSw; (try dsimp only at hSw); go_simp)
          try simp only [Act.put, List.setIfInBounds_toArray, List.set_cons_zero, List.set_cons_succ]
          refine wpAnyH_ready (rs := [22]) (by kernel_rfl) (by simp) ?_
          refine AllReadyH.cons (o := { dst := some 79, op := Go.Op.call { callee := Go.Callee.value (Go.Operand.func 31), args := #[Go.Operand.tmp 78], argTypes := #[9] }, type := 4, pos := "arith.go:131", after := #[{ on := 21, ground := Go.Ground.data }, { on := 10, ground := Go.Ground.chain }, { on := 10, ground := Go.Ground.guard }], guard := some (10, true) }) rfl (fun K hK => ?_) AllReadyH.nil
          go_simp
          refine (name_calls _ false _ HZ.out HN.out).mono ?_
          rintro e w' ⟨rfl, hb⟩
          go_simp
          refine hK.out _ _ (held_below HRB.out (show Below wr.heap.size wr w' from ⟨hb.os, hb.tape, hb.output, hb.size, hb.block⟩)) (fun hHeld2 => ?_)
          clear hK K hHeld
          try simp only [Act.put, List.setIfInBounds_toArray, List.set_cons_zero, List.set_cons_succ]
          refine wpAnyH_take (i := 23) (oi := { dst := some 80, op := Go.Op.move (Go.Operand.tmp 79), type := 4, pos := "arith.go:131", after := #[{ on := 22, ground := Go.Ground.data }, { on := 22, ground := Go.Ground.chain }, { on := 10, ground := Go.Ground.guard }], guard := some (10, true) }) (v := .bool false) rfl (by kernel_rfl) (by kernel_rfl) (by kernel_rfl) (fun _ _ _ h => h) (Or.inl ⟨by kernel_rfl, ?_⟩) (by assumption) ?_
          · (intro w hSw; (try dsimp only at hSw); go_simp)
          try simp only [Act.put, List.setIfInBounds_toArray, List.set_cons_zero, List.set_cons_succ]
          refine wpAnyH_take (i := 24) (oi := { dst := some 81, op := Go.Op.move (Go.Operand.tmp 0), type := 50, pos := "arith.go:131", after := #[{ on := 23, ground := Go.Ground.guard }], guard := some (23, false) }) (v := .pointer (some ⟨g, 0, none⟩)) rfl (by kernel_rfl) (by kernel_rfl) (by kernel_rfl) (fun _ _ _ h => h) (Or.inl ⟨by kernel_rfl, ?_⟩) (by assumption) ?_
          · (intro w hSw; (try dsimp only at hSw); go_simp)
          try simp only [Act.put, List.setIfInBounds_toArray, List.set_cons_zero, List.set_cons_succ]
          refine wpAnyH_take (i := 25) (oi := { dst := some 82, op := Go.Op.nilCheck (Go.Operand.tmp 81), type := 0, pos := "arith.go:131", after := #[{ on := 24, ground := Go.Ground.data }, { on := 23, ground := Go.Ground.guard }], guard := some (23, false) }) (v := .pointer (some ⟨g, 0, none⟩)) rfl (by kernel_rfl) (by kernel_rfl) (by kernel_rfl) (fun _ _ _ h => h) (Or.inl ⟨by kernel_rfl, ?_⟩) (by assumption) ?_
          · (intro w hSw; (try dsimp only at hSw); go_simp)
          try simp only [Act.put, List.setIfInBounds_toArray, List.set_cons_zero, List.set_cons_succ]
          refine wpAnyH_take (i := 26) (oi := { dst := some 83, op := Go.Op.fieldAddr 52 (Go.Operand.tmp 82) 0, type := 0, pos := "arith.go:131", after := #[{ on := 25, ground := Go.Ground.data }, { on := 23, ground := Go.Ground.guard }], guard := some (23, false) }) (v := .pointer (some ⟨g, 0, none⟩)) rfl (by kernel_rfl) (by kernel_rfl) (by kernel_rfl) (fun _ _ _ h => h) (Or.inl ⟨by kernel_rfl, ?_⟩) (by assumption) ?_
          · (intro w hSw; (try dsimp only at hSw); go_simp)
          try simp only [Act.put, List.setIfInBounds_toArray, List.set_cons_zero, List.set_cons_succ]
          refine wpAnyH_take (i := 27) (oi := { dst := some 84, op := Go.Op.load 9 (Go.Operand.tmp 83), type := 9, pos := "arith.go:131", after := #[{ on := 26, ground := Go.Ground.data }, { on := 23, ground := Go.Ground.guard }], guard := some (23, false) }) (v := .string s) rfl (by kernel_rfl) (by kernel_rfl) (by kernel_rfl) (fun _ _ _ h => h) (Or.inl ⟨by kernel_rfl, ?_⟩) (by assumption) ?_
          · (intro w hSw; (try dsimp only at hSw); go_simp)
          try simp only [Act.put, List.setIfInBounds_toArray, List.set_cons_zero, List.set_cons_succ]
          refine wpAnyH_take (i := 28) (oi := { dst := some 85, op := Go.Op.move (Go.Operand.tmp 6), type := 3, pos := "arith.go:131", after := #[{ on := 23, ground := Go.Ground.guard }], guard := some (23, false) }) (v := .int .i64 P) rfl (by kernel_rfl) (by kernel_rfl) (by kernel_rfl) (fun _ _ _ h => h) (Or.inl ⟨by kernel_rfl, ?_⟩) (by assumption) ?_
          · (intro w hSw; (try dsimp only at hSw); go_simp)
          try simp only [Act.put, List.setIfInBounds_toArray, List.set_cons_zero, List.set_cons_succ]
          refine wpAnyH_take (i := 29) (oi := { dst := some 86, op := Go.Op.move (Go.Operand.tmp 0), type := 50, pos := "arith.go:131", after := #[{ on := 23, ground := Go.Ground.guard }], guard := some (23, false) }) (v := .pointer (some ⟨g, 0, none⟩)) rfl (by kernel_rfl) (by kernel_rfl) (by kernel_rfl) (fun _ _ _ h => h) (Or.inl ⟨by kernel_rfl, ?_⟩) (by assumption) ?_
          · (intro w hSw; (try dsimp only at hSw); go_simp)
          try simp only [Act.put, List.setIfInBounds_toArray, List.set_cons_zero, List.set_cons_succ]
          refine wpAnyH_take (i := 30) (oi := { dst := some 87, op := Go.Op.nilCheck (Go.Operand.tmp 86), type := 0, pos := "arith.go:131", after := #[{ on := 29, ground := Go.Ground.data }, { on := 23, ground := Go.Ground.guard }], guard := some (23, false) }) (v := .pointer (some ⟨g, 0, none⟩)) rfl (by kernel_rfl) (by kernel_rfl) (by kernel_rfl) (fun _ _ _ h => h) (Or.inl ⟨by kernel_rfl, ?_⟩) (by assumption) ?_
          · (intro w hSw; (try dsimp only at hSw); go_simp)
          try simp only [Act.put, List.setIfInBounds_toArray, List.set_cons_zero, List.set_cons_succ]
          refine wpAnyH_take (i := 31) (oi := { dst := some 88, op := Go.Op.fieldAddr 52 (Go.Operand.tmp 87) 1, type := 0, pos := "arith.go:131", after := #[{ on := 30, ground := Go.Ground.data }, { on := 23, ground := Go.Ground.guard }], guard := some (23, false) }) (v := .pointer (some ⟨g, 1, none⟩)) rfl (by kernel_rfl) (by kernel_rfl) (by kernel_rfl) (fun _ _ _ h => h) (Or.inl ⟨by kernel_rfl, ?_⟩) (by assumption) ?_
          · (intro w hSw; (try dsimp only at hSw); go_simp)
          try simp only [Act.put, List.setIfInBounds_toArray, List.set_cons_zero, List.set_cons_succ]
          refine wpAnyH_take (i := 32) (oi := { dst := some 89, op := Go.Op.load 3 (Go.Operand.tmp 88), type := 3, pos := "arith.go:131", after := #[{ on := 31, ground := Go.Ground.data }, { on := 23, ground := Go.Ground.guard }], guard := some (23, false) }) (v := .int .i64 i) rfl (by kernel_rfl) (by kernel_rfl) (by kernel_rfl) (fun _ _ _ h => h) (Or.inl ⟨by kernel_rfl, ?_⟩) (by assumption) ?_
          · (intro w hSw; (try dsimp only at hSw); go_simp)
          try simp only [Act.put, List.setIfInBounds_toArray, List.set_cons_zero, List.set_cons_succ]
          refine wpAnyH_take (i := 33) (oi := { dst := some 90, op := Go.Op.binOp Go.BinOp.add 3 (Go.Operand.tmp 89) (Go.Operand.const (Go.Value.int Go.IntKind.i64 1)) 3, type := 3, pos := "arith.go:131", after := #[{ on := 32, ground := Go.Ground.data }, { on := 23, ground := Go.Ground.guard }], guard := some (23, false) }) (v := .int .i64 (i + 1)) rfl (by kernel_rfl) (by kernel_rfl) (by kernel_rfl) (fun _ _ _ h => h) (Or.inl ⟨by kernel_rfl, ?_⟩) (by assumption) ?_
          · (intro w hSw; (try dsimp only at hSw); go_simp)
          try simp only [Act.put, List.setIfInBounds_toArray, List.set_cons_zero, List.set_cons_succ]
          refine wpAnyH_take (i := 34) (oi := { dst := some 91, op := Go.Op.slice 9 (Go.Operand.tmp 84) (some (Go.Operand.tmp 85)) (some (Go.Operand.tmp 90)) none, type := 9, pos := "arith.go:131", after := #[{ on := 27, ground := Go.Ground.data }, { on := 28, ground := Go.Ground.data }, { on := 33, ground := Go.Ground.data }, { on := 23, ground := Go.Ground.guard }], guard := some (23, false) }) (v := .string (s.extract P (i + 1))) rfl (by kernel_rfl) (by kernel_rfl) (by kernel_rfl) (fun _ _ _ h => h) (Or.inl ⟨by kernel_rfl, ?_⟩) (by assumption) ?_
          · (intro w hSw; (try dsimp only at hSw); go_simp)
          try simp only [Act.put, List.setIfInBounds_toArray, List.set_cons_zero, List.set_cons_succ]
          refine wpAnyH_ready (rs := [35]) (by kernel_rfl) (by simp) ?_
          refine AllReadyH.cons (o := { dst := some 92, op := Go.Op.call { callee := Go.Callee.value (Go.Operand.func 53), args := #[Go.Operand.tmp 91, Go.Operand.const (Go.Value.string { data := #[48, 49, 50, 51, 52, 53, 54, 55, 56, 57] })], argTypes := #[9, 9] }, type := 9, pos := "arith.go:131", after := #[{ on := 34, ground := Go.Ground.data }, { on := 23, ground := Go.Ground.chain }, { on := 23, ground := Go.Ground.guard }], guard := some (23, false) }) rfl (fun K hK => ?_) AllReadyH.nil
          go_simp
          refine (trim_no _ _ HZ.out HT.out).mono ?_
          rintro e w'' ⟨x, rfl, hx, hb2⟩
          have hx1 : (x.toList == ([] : List UInt8)) = false := beq_eq_false_iff_ne.mpr hx
          go_simp
          refine hK.out _ _ (held_below (blk_below HRB.out (show Below wr.heap.size wr w' from ⟨hb.os, hb.tape, hb.output, hb.size, hb.block⟩)) hb2) (fun hHeld3 => ?_)
          clear hK K hHeld2
          try simp only [Act.put, List.setIfInBounds_toArray, List.set_cons_zero, List.set_cons_succ]
          refine wpAnyH_take (i := 36) (oi := { dst := some 93, op := Go.Op.binOp Go.BinOp.eql 9 (Go.Operand.tmp 92) (Go.Operand.const (Go.Value.string { data := #[] })) 9, type := 4, pos := "arith.go:131", after := #[{ on := 35, ground := Go.Ground.data }, { on := 23, ground := Go.Ground.guard }], guard := some (23, false) }) (v := .bool false) rfl (by kernel_rfl) (by kernel_rfl) (by kernel_rfl) (fun _ _ _ h => h) (Or.inl ⟨by kernel_rfl, ?_⟩) (by assumption) ?_
          · (intro w hSw; (try dsimp only at hSw); go_simp)
          try simp only [Act.put, List.setIfInBounds_toArray, List.set_cons_zero, List.set_cons_succ]
          refine wpAnyH_take (i := 37) (oi := { dst := some 94, op := Go.Op.pick (Go.Operand.tmp 80) (Go.Operand.const (Go.Value.bool true)) (Go.Operand.tmp 93), type := 4, pos := "arith.go:131", after := #[{ on := 23, ground := Go.Ground.data }, { on := 36, ground := Go.Ground.data }, { on := 10, ground := Go.Ground.guard }], guard := some (10, true) }) (v := .bool false) rfl (by kernel_rfl) (by kernel_rfl) (by kernel_rfl) (fun _ _ _ h => h) (Or.inl ⟨by kernel_rfl, ?_⟩) (by assumption) ?_
          · (intro w hSw; (try dsimp only at hSw); go_simp)
          try simp only [Act.put, List.setIfInBounds_toArray, List.set_cons_zero, List.set_cons_succ]
          refine wpAnyH_take (i := 38) (oi := { dst := some 95, op := Go.Op.pick (Go.Operand.tmp 67) (Go.Operand.tmp 94) (Go.Operand.const (Go.Value.bool false)), type := 4, pos := "arith.go:131", after := #[{ on := 10, ground := Go.Ground.data }, { on := 37, ground := Go.Ground.data }], guard := none }) (v := .bool false) rfl (by kernel_rfl) (by kernel_rfl) (by kernel_rfl) (fun _ _ _ h => h) (Or.inl ⟨by kernel_rfl, ?_⟩) (by assumption) ?_
          · (intro w hSw; (try dsimp only at hSw); go_simp)
          try simp only [Act.put, List.setIfInBounds_toArray, List.set_cons_zero, List.set_cons_succ]
          refine wpAnyH_done (by kernel_rfl) ?_ _
          have hb9 : Below wr.heap.size wr w'' := Below.trans (show Below wr.heap.size wr w' from ⟨hb.os, hb.tape, hb.output, hb.size, hb.block⟩) (hb2.mono hb.size)
          go_wp2_with fail
          have HRX := Aside0.mk (HR.out.below hb9)
          have HBX := Aside0.mk (blk_below HB4.out hb9)
          have HE2 := Aside0.mk (show wordEnd s P = i from by rw [HE.out, HS.out])
          clear HR HRB HE HS HB4 h1 h0 hf hb hb2 hb9 hx hx1
          generalize w'' = W4 at HRX HBX ⊢
          have k1 := HRX.out.at_
          have k0 := HRX.out.str
          have p0 : (0 : Int) ≤ (P : Int) := by omega
          have p1 : (P : Int) ≤ (i : Int) := by omega
          have p2 : (i : Int) ≤ (s.size : Int) := by omega
          have hz2 : (s.extract P i).size ≤ 9223372036854775807 := by rw [ByteArray.size_extract]; omega
          have HZ2 := Aside0.mk hz2; clear hz2
          go_quiet (fail)
          have HRY := Aside0.mk (HRX.out.drewN nq)
          have HBY := Aside0.mk (show (W4.drewN nq).heap[w.heap.size]? = _ from HBX.out)
          generalize W4.drewN nq = W5 at HRY HBY ⊢
          clear HRX HBX k1 k0
          cases hnm : nameB (s.extract P i) with
          | true =>
            have HNM := Aside0.mk hnm; clear hnm
            go_wp2_with fail
            refine (name_calls _ true _ HZ2.out HNM.out).mono ?_
            rintro e W6 ⟨rfl, hb6⟩
            have HR6 := Aside0.mk (HRY.out.below hb6)
            have HB6 := Aside0.mk (blk_below HBY.out hb6)
            clear hb6
            obtain ⟨d0, d1, d2, d3, e0, e1, e2, e3⟩ := four_cells HB6.out
            go_wp2_with fail
            have hP := put4 HB6.out (.string ⟨#[]⟩) (.slice none 0 0) (.int .i64 0) (.string (s.extract P i))
            rw [show wordRes s (sk s p) = .ok (.name (s.extract P i), i) by unfold wordRes; rw [HPE.out, HE2.out, HNM.out]; rfl]
            exact bodyPost_ret (results_cell_row results36 _ _ w.heap.size 55 _ (0, 0) _ rfl hP.blk Tryd.underlying55 rfl info55s) rfl
              ⟨_, rfl, rfl, HR6.out.put hP (Nat.le_refl _) (by have := HG.out; omega), his⟩
          | false =>
            have HNM := Aside0.mk hnm; clear hnm
            go_wp2_with fail
            refine (name_calls _ false _ HZ2.out HNM.out).mono ?_
            rintro e W6 ⟨rfl, hb6⟩
            have HR6 := Aside0.mk (HRY.out.below hb6)
            have HB6 := Aside0.mk (blk_below HBY.out hb6)
            clear hb6
            go_wp2_with fail
            refine (whole_calls (s.extract P i) _ (by rw [ByteArray.size_extract]; omega) HR6.out.ge).mono ?_
            rintro e W7 ⟨rfl, hb7⟩
            have HR7 := Aside0.mk (HR6.out.below hb7)
            have HB7 := Aside0.mk (blk_below HB6.out hb7)
            clear hb7
            by_cases hv : (wholeV (s.extract P i)).2.2 = 0
            · have HV := Aside0.mk (show wordRes s (sk s p) = .ok (.num (wholeV (s.extract P i)).1, i) by unfold wordRes; rw [HPE.out, HE2.out, HNM.out, if_neg (by decide), if_pos hv])
              have hv1 : ((wholeV (s.extract P i)).2.2 == 0) = true := by simpa using hv
              have hv2 : ((wholeV (s.extract P i)).2.2 != 0) = false := by simpa using hv
              clear hv
              generalize (wholeV (s.extract P i)).2.2 = ve at hv1 hv2 ⊢
              generalize (wholeV (s.extract P i)).2.1 = vu at ⊢
              generalize (wholeV (s.extract P i)).1 = vn at HV ⊢
              obtain ⟨d0, d1, d2, d3, e0, e1, e2, e3⟩ := four_cells HB7.out
              go_wp2_with fail
              have hP := put4 HB7.out (.string ⟨#[]⟩) (.slice none 0 0) (.int .i64 vn) (.string ⟨#[]⟩)
              rw [HV.out]
              exact bodyPost_ret (results_cell_row results36 _ _ w.heap.size 55 _ (0, 0) _ rfl hP.blk Tryd.underlying55 rfl info55s) rfl
                ⟨_, rfl, rfl, HR7.out.put hP (Nat.le_refl _) (by have := HG.out; omega), his⟩
            · have HV := Aside0.mk (show wordRes s (sk s p) = .error 9 by unfold wordRes; rw [HPE.out, HE2.out, HNM.out, if_neg (by decide), if_neg hv])
              have hv1 : ((wholeV (s.extract P i)).2.2 == 0) = false := by simpa using hv
              have hv2 : ((wholeV (s.extract P i)).2.2 != 0) = true := by simpa using hv
              clear hv
              generalize (wholeV (s.extract P i)).2.2 = ve at hv1 hv2 ⊢
              generalize (wholeV (s.extract P i)).2.1 = vu at ⊢
              generalize (wholeV (s.extract P i)).1 = vn at ⊢
              go_wp2_with fail
              rw [HV.out]
              exact ⟨rfl, rfl, HR7.out.grw⟩
    · have hd : decide ((i : Int) < (s.size : Int)) = false := decide_eq_false (by omega)
      have HS := Aside0.mk (wend_no s P i (fun h => absurd h hlt))
      go_wp2_with fail
      go_quiet (fail)
      go_wp2_with fail
      have HRX := Aside0.mk (HR.out.drewN nq)
      have HBX := Aside0.mk (show (wr.drewN nq).heap[w.heap.size]? = _ from HB4.out)
      have HE2 := Aside0.mk (show wordEnd s P = i from by rw [HE.out, HS.out])
      clear HR HRB HE HS HB4 h1 h0 hf 
      generalize wr.drewN nq = W4 at HRX HBX ⊢
      have k1 := HRX.out.at_
      have k0 := HRX.out.str
      have p0 : (0 : Int) ≤ (P : Int) := by omega
      have p1 : (P : Int) ≤ (i : Int) := by omega
      have p2 : (i : Int) ≤ (s.size : Int) := by omega
      have hz2 : (s.extract P i).size ≤ 9223372036854775807 := by rw [ByteArray.size_extract]; omega
      have HZ2 := Aside0.mk hz2; clear hz2
      go_quiet (fail)
      have HRY := Aside0.mk (HRX.out.drewN nq)
      have HBY := Aside0.mk (show (W4.drewN nq).heap[w.heap.size]? = _ from HBX.out)
      generalize W4.drewN nq = W5 at HRY HBY ⊢
      clear HRX HBX k1 k0
      cases hnm : nameB (s.extract P i) with
      | true =>
        have HNM := Aside0.mk hnm; clear hnm
        go_wp2_with fail
        refine (name_calls _ true _ HZ2.out HNM.out).mono ?_
        rintro e W6 ⟨rfl, hb6⟩
        have HR6 := Aside0.mk (HRY.out.below hb6)
        have HB6 := Aside0.mk (blk_below HBY.out hb6)
        clear hb6
        obtain ⟨d0, d1, d2, d3, e0, e1, e2, e3⟩ := four_cells HB6.out
        go_wp2_with fail
        have hP := put4 HB6.out (.string ⟨#[]⟩) (.slice none 0 0) (.int .i64 0) (.string (s.extract P i))
        rw [show wordRes s (sk s p) = .ok (.name (s.extract P i), i) by unfold wordRes; rw [HPE.out, HE2.out, HNM.out]; rfl]
        exact bodyPost_ret (results_cell_row results36 _ _ w.heap.size 55 _ (0, 0) _ rfl hP.blk Tryd.underlying55 rfl info55s) rfl
          ⟨_, rfl, rfl, HR6.out.put hP (Nat.le_refl _) (by have := HG.out; omega), his⟩
      | false =>
        have HNM := Aside0.mk hnm; clear hnm
        go_wp2_with fail
        refine (name_calls _ false _ HZ2.out HNM.out).mono ?_
        rintro e W6 ⟨rfl, hb6⟩
        have HR6 := Aside0.mk (HRY.out.below hb6)
        have HB6 := Aside0.mk (blk_below HBY.out hb6)
        clear hb6
        go_wp2_with fail
        refine (whole_calls (s.extract P i) _ (by rw [ByteArray.size_extract]; omega) HR6.out.ge).mono ?_
        rintro e W7 ⟨rfl, hb7⟩
        have HR7 := Aside0.mk (HR6.out.below hb7)
        have HB7 := Aside0.mk (blk_below HB6.out hb7)
        clear hb7
        by_cases hv : (wholeV (s.extract P i)).2.2 = 0
        · have HV := Aside0.mk (show wordRes s (sk s p) = .ok (.num (wholeV (s.extract P i)).1, i) by unfold wordRes; rw [HPE.out, HE2.out, HNM.out, if_neg (by decide), if_pos hv])
          have hv1 : ((wholeV (s.extract P i)).2.2 == 0) = true := by simpa using hv
          have hv2 : ((wholeV (s.extract P i)).2.2 != 0) = false := by simpa using hv
          clear hv
          generalize (wholeV (s.extract P i)).2.2 = ve at hv1 hv2 ⊢
          generalize (wholeV (s.extract P i)).2.1 = vu at ⊢
          generalize (wholeV (s.extract P i)).1 = vn at HV ⊢
          obtain ⟨d0, d1, d2, d3, e0, e1, e2, e3⟩ := four_cells HB7.out
          go_wp2_with fail
          have hP := put4 HB7.out (.string ⟨#[]⟩) (.slice none 0 0) (.int .i64 vn) (.string ⟨#[]⟩)
          rw [HV.out]
          exact bodyPost_ret (results_cell_row results36 _ _ w.heap.size 55 _ (0, 0) _ rfl hP.blk Tryd.underlying55 rfl info55s) rfl
            ⟨_, rfl, rfl, HR7.out.put hP (Nat.le_refl _) (by have := HG.out; omega), his⟩
        · have HV := Aside0.mk (show wordRes s (sk s p) = .error 9 by unfold wordRes; rw [HPE.out, HE2.out, HNM.out, if_neg (by decide), if_neg hv])
          have hv1 : ((wholeV (s.extract P i)).2.2 == 0) = false := by simpa using hv
          have hv2 : ((wholeV (s.extract P i)).2.2 != 0) = true := by simpa using hv
          clear hv
          generalize (wholeV (s.extract P i)).2.2 = ve at hv1 hv2 ⊢
          generalize (wholeV (s.extract P i)).2.1 = vu at ⊢
          generalize (wholeV (s.extract P i)).1 = vn at ⊢
          go_wp2_with fail
          rw [HV.out]
          exact ⟨rfl, rfl, HR7.out.grw⟩
end Go.Proofs.YtambnodgfhlpfaaDoor.A
