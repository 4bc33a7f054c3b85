/- dragomanref06.from1, walked. -/
import Derived.Test.YthnfmpieoondaaaVQBx
import Derived.Test.YthnfmpieoondaaaVGG
import Derived.Outline
import Derived.WalkMore
import Derived.BigRegion
import Derived.Deep.LoopGhost
set_option linter.unusedVariables false
set_option linter.unusedSimpArgs false
namespace Go.Proofs.Ythnfmpieoondaaa.G
open Go.RowKit Go.Proofs.YthnfmpieoondaaaW.PrintWords Go.Proofs.YthnfmpieoondaaaW.PrintLast Go.Proofs.YthnfmpieoondaaaW.PrintMore Go.Proofs.Ythnfmpieoondaaa.QA Go.Proofs.Ythnfmpieoondaaa.QB
noncomputable def floop : Code := ((Try.f44.body.bind firstLoop).getD .skip)
set_option maxRecDepth 100000 in
def fr2 (u : Nat → Value) : Act := ⟨#[u 0, u 1, u 2, u 3, u 4, u 5, u 6, u 7, u 8, u 9, u 10, u 11, u 12, u 13, u 14, u 15, u 16, u 17, u 18, u 19, u 20, u 21, u 22, u 23, u 24, u 25, u 26, u 27, u 28, u 29, u 30, u 31, u 32, u 33, u 34, u 35, u 36, u 37, u 38, u 39, u 40, u 41, u 42, u 43, u 44, u 45, u 46, u 47, u 48, u 49, u 50, u 51, u 52, u 53, u 54, u 55, u 56, u 57, u 58, u 59, u 60, u 61, u 62, u 63, u 64, u 65, u 66, u 67, u 68, u 69, u 70, u 71, u 72, u 73, u 74, u 75, u 76, u 77, u 78, u 79, u 80, u 81, u 82, u 83, u 84, u 85, u 86, u 87, u 88, u 89, u 90, u 91, u 92, u 93], []⟩
set_option maxRecDepth 100000 in
theorem fr2_of (L : List Value) (h : L.length = 94) : (⟨L.toArray, []⟩ : Act) = fr2 (fun i => L.getD i undef) := by
  have e := list_range L undef
  rw [h] at e
  have e2 : (⟨L.toArray, []⟩ : Act) = ⟨((List.range 94).map (fun i => L.getD i undef)).toArray, []⟩ := congrArg (fun q => (⟨q.toArray, []⟩ : Act)) e
  exact e2.trans rfl
def seenB (l : List Bool) : Obj := .cells (l.map Value.bool).toArray 99 (0, 0)
theorem seen_cell {W : World} {r : Nat} {l : List Bool} (h : W.heap[r]? = some (seenB l)) (i : Nat) (hi : i < l.length) : W.cell? ⟨r, i, none⟩ = some (.bool (l.getD i false)) := by
  rw [blk_cell h i]
  simp [hi]
theorem ia99_0 (b o : Nat) (w : World) : (Instr.indexAt 99 (.pointer (some ⟨b, o, none⟩)) (.int .i64 0)).run Try.prog w = .ok (.pointer (some ⟨b, o, none⟩)) w := by kernel_rfl
theorem ia99_1 (b o : Nat) (w : World) : (Instr.indexAt 99 (.pointer (some ⟨b, o, none⟩)) (.int .i64 1)).run Try.prog w = .ok (.pointer (some ⟨b, o + 1, none⟩)) w := by kernel_rfl
attribute [local go_sem ↓] ia99_0 ia99_1
theorem info76e : (Try.prog.info? 99).map (fun i => (i.zero, i.size, i.bytes)) = some (some (.agg #[(.bool false), (.bool false)]), 2, 2) := by kernel_rfl
theorem pop78 {W : World} {base : Nat} {ok : Nat → Prop} {v : Value} {init : List S97} {x : S97} (h : Kd.R k97 97 W base ok v (init ++ [x])) :
    ∃ g cap, v = .slice (some ⟨g, 0, none⟩) (init.length + 1) cap ∧ init.length + 1 ≤ cap ∧ base ≤ g ∧ g < W.heap.size ∧ W.cell? ⟨g, init.length * 3, none⟩ = some (.int .i64 x.f0) ∧ W.cell? ⟨g, init.length * 3 + 1, none⟩ = some (.bool x.f1) ∧ W.cell? ⟨g, init.length * 3 + 2, none⟩ = some (.int .i64 x.f2) ∧ Kd.R k97 97 W base ok (.slice (some ⟨g, 0, none⟩) init.length cap) init := by
  obtain ⟨g, cap, rfl, hb, hg, _⟩ := Kd.R_form h (by simp)
  have hl : (init ++ [x]).length = init.length + 1 := by simp
  have h' := h
  rw [hl] at h'
  obtain ⟨h1, h2, h3⟩ := Kd.R_reads' h'
  obtain ⟨ad, ha, c0, c1, c2⟩ := at_T97 h3 (init.length : Int) (by omega) (by simp; omega)
  obtain rfl := Option.some.inj ha
  rw [Int.toNat_natCast, add_plain] at c0 c1 c2
  have hx : rd_T97 (init ++ [x]) (init.length : Int) = x := by unfold rd_T97; simp
  rw [hx] at c0 c1 c2
  have ht := Kd.R_take (m := init.length) h' (by simp)
  rw [List.take_left] at ht
  exact ⟨g, cap, by rw [hl], h2, hb, hg, c0, c1, c2, ht⟩
/-- dragomanref06.from1's loop. -/
def from1L (l : List S55) (s : ByteArray) : Nat → List Bool → List Bool → List S97 → Option (List Bool)
  | 0, _, _, _ => none
  | k + 1, out, seen, wait => match wait.getLast? with
    | none => some out
    | some x => if 0 ≤ x.f0 ∧ x.f0 < l.length ∧ 0 ≤ x.f2 ∧ x.f2 < s.size + 1 ∧ wait.length ≤ 1000000 then
        let i := (x.f0.toNat * (s.size + 1) + x.f2.toNat) * 2 + (if x.f1 = true then 1 else 0)
        if seen.getD i false = true then from1L l s k out seen wait.dropLast
        else if x.f1 = true then
          (if x.f0 = (l.length : Int) - 1 then from1L l s k (out.set x.f2.toNat true) (seen.set i true) wait.dropLast
           else (dragomanref06_beyond.f k l x.f0 x.f1 x.f2).bind fun ys => if ys.length ≤ 10 then from1L l s k out (seen.set i true) (wait.dropLast ++ ys) else none)
        else (dragomanref06_within.f k l s x.f0 x.f1 x.f2).bind fun ys => if ys.length ≤ 10 then from1L l s k out (seen.set i true) (wait.dropLast ++ ys) else none
      else none
structure FW (W : World) (ro rs base : Nat) (out seen : List Bool) (vw : Value) (wait : List S97) : Prop where
  ro : W.heap[ro]? = some (boolsB out)
  rs : W.heap[rs]? = some (seenB seen)
  w : Kd.R k97 97 W base (fun _ => True) vw wait
/-- What a frame holds in the loop. -/
structure FF (ro rs M : Nat) (A0 : Option Addr) (c0 : Nat) (l0 : List S55) (s : ByteArray) (u : Nat → Value) : Prop where
  h0 : u 0 = .slice A0 l0.length c0
  h1 : u 1 = .string s
  h7 : u 7 = .slice (some ⟨ro, 0, none⟩) (s.size + 1) (s.size + 1)
  h8 : u 8 = .slice (some ⟨rs, 0, none⟩) M M
def FI (w : World) (ro rs base M : Nat) (A0 : Option Addr) (c0 : Nat) (l0 : List S55) (s : ByteArray) (r : List Bool) (kq : Nat) (a : Act) (w' : World) : Prop :=
  ∃ u, a = fr2 u ∧ FF ro rs M A0 c0 l0 s u ∧ ∃ (out seen : List Bool) (wait : List S97), FW w' ro rs base out seen (u 9) wait ∧ from1L l0 s kq out seen wait = some r ∧ Below w.heap.size w w' ∧ base ≤ w'.heap.size ∧ out.length = s.size + 1 ∧ seen.length = M * 2
def FX (w : World) (ro rs base M : Nat) (A0 : Option Addr) (c0 : Nat) (l0 : List S55) (s : ByteArray) (r : List Bool) (a : Act) (w' : World) : Prop :=
  ∃ u, a = fr2 u ∧ FF ro rs M A0 c0 l0 s u ∧ w'.heap[ro]? = some (boolsB r) ∧ r.length = s.size + 1 ∧ Below w.heap.size w w'
def FQ (w : World) (ro rs base M : Nat) (A0 : Option Addr) (c0 : Nat) (l0 : List S55) (s : ByteArray) (r : List Bool) (e : Exit) (a : Act) (w' : World) : Prop :=
  match e with
  | .exit n => n = 0 ∧ FX w ro rs base M A0 c0 l0 s r a w'
  | _ => False
theorem FI.next (w : World) (ro rs base M : Nat) (A0 : Option Addr) (c0 : Nat) (l0 : List S55) (s : ByteArray) (r : List Bool) (J : Nat → Act → World → Prop) (K : Act → World → Prop) (hJ : ∀ k a' w', FI w ro rs base M A0 c0 l0 s r k a' w' → J k a' w') (gk : Nat) (hK : ∀ a' w', Handed J (gk + 1) a' w' → K a' w') (L : List Value) (hL : L.length = 94) (hf : FF ro rs M A0 c0 l0 s (fun i => L.getD i undef)) (w' : World) (out seen : List Bool) (wait : List S97) (h1 : FW w' ro rs base out seen (L.getD 9 undef) wait) (h2 : from1L l0 s gk out seen wait = some r) (h3 : Below w.heap.size w w') (h4 : base ≤ w'.heap.size) (h5 : out.length = s.size + 1) (h6 : seen.length = M * 2) : K ⟨L.toArray, []⟩ w' :=
  hK _ _ (Handed.intro gk (Nat.lt_succ_self _) (hJ _ _ _ ⟨_, fr2_of L hL, hf, out, seen, wait, h1, h2, h3, h4, h5, h6⟩))
set_option maxHeartbeats 8000000 in
set_option maxRecDepth 1000000 in
theorem fr_again_true (w : World) (ro rs base M : Nat) (A0 : Option Addr) (c0 : Nat) (l0 : List S55) (s : ByteArray) (r : List Bool) (hro : w.heap.size ≤ ro) (hrs : w.heap.size ≤ rs) (hb1 : ro < base) (hb2 : rs < base) (hne : ro ≠ rs) (hM : M = l0.length * (s.size + 1)) (hMb : M ≤ 1000000) (hs : s.size ≤ 100000) (hl : l0.length ≤ 100000) (hn : 0 < l0.length) (hrr : Kd.C k55 w A0 l0.length l0) (hc0 : l0.length ≤ c0) (J : Nat → Act → World → Prop) (K : Act → World → Prop) (gk : Nat) (hJ : ∀ k a' w', FI w ro rs base M A0 c0 l0 s r k a' w' → J k a' w') (hK : ∀ a' w', Handed J (gk + 1) a' w' → K a' w') (wr : World) (u2 u3 u4 u5 u6 u10 u11 u12 u13 u14 u15 u16 u17 u18 u19 u20 u21 u22 u23 u24 u25 u26 u27 u28 u29 u30 u31 u32 u33 u34 u35 u36 u37 u38 u39 u40 u41 u42 u43 u44 u45 u46 u47 u48 u49 u50 u51 u52 u53 u54 u55 u56 u57 u58 u59 u60 u61 u62 u63 u64 u65 u66 u67 u68 u69 u70 u71 u72 u73 u74 u75 u76 u77 u78 u79 u80 u81 u82 u83 u84 u85 u86 u87 u88 u89 u90 u91 u92 u93 : Value) (out seen : List Bool) (gw cap : Nat) (init : List S97) (j b p : Nat)
    (ho : wr.heap[ro]? = some (boolsB out)) (hse : wr.heap[rs]? = some (seenB seen)) (hR : Kd.R k97 97 wr base (fun _ => True) (.slice (some ⟨gw, 0, none⟩) init.length cap) init) (hB : Below w.heap.size w wr) (hZ : base ≤ wr.heap.size) (hO : out.length = s.size + 1) (hS : seen.length = M * 2)
    (hp : wrap64 ((j : Int) * ((s.size : Int) + 1)) = (p : Int)) (hlt : p + b < M) (g2 : (j : Int) < l0.length) (g4 : (b : Int) < s.size + 1) (g5 : init.length + 1 ≤ 1000000) (hlw : init.length + 1 ≤ cap) (hgb : base ≤ gw) (hgwlt : gw < wr.heap.size)
    (cw0 : wr.cell? ⟨gw, init.length * 3, none⟩ = some (.int .i64 j)) (cw1 : wr.cell? ⟨gw, init.length * 3 + 1, none⟩ = some (.bool true)) (cw2 : wr.cell? ⟨gw, init.length * 3 + 2, none⟩ = some (.int .i64 b)) (hsv : seen.getD ((p + b) * 2 + 1) false = true) (hL : from1L l0 s gk out seen init = some r) :
    Code.wp Try.prog floop (Exit.then K (FQ w ro rs base M A0 c0 l0 s r)) ⟨#[.slice A0 l0.length c0, .string s, u2, u3, u4, u5, u6, .slice (some ⟨ro, 0, none⟩) (s.size + 1) (s.size + 1), .slice (some ⟨rs, 0, none⟩) M M, .slice (some ⟨gw, 0, none⟩) (init.length + 1) cap, u10, u11, u12, u13, u14, u15, u16, u17, u18, u19, u20, u21, u22, u23, u24, u25, u26, u27, u28, u29, u30, u31, u32, u33, u34, u35, u36, u37, u38, u39, u40, u41, u42, u43, u44, u45, u46, u47, u48, u49, u50, u51, u52, u53, u54, u55, u56, u57, u58, u59, u60, u61, u62, u63, u64, u65, u66, u67, u68, u69, u70, u71, u72, u73, u74, u75, u76, u77, u78, u79, u80, u81, u82, u83, u84, u85, u86, u87, u88, u89, u90, u91, u92, u93], []⟩ wr := by
  have HJ := Lib.hid hJ
  have HK := Lib.hid hK
  have HR := Aside0.mk hR
  have HB := Aside0.mk hB
  have HZ := Aside0.mk hZ
  have HO := Aside0.mk hO
  have HS := Aside0.mk hS
  have HRO := Aside0.mk ho
  have HRS := Aside0.mk hse
  have HRR := Aside0.mk hrr
  have HMM := Lib.hid hM
  have hne0 : decide (0 < init.length + 1) = true := decide_eq_true (by omega)
  have hlM : (p + b) * 2 + 1 < seen.length := by omega
  have hgl : decide (p + b < M) = true := decide_eq_true hlt
  have qs : ∀ X, (wr.alloc X).cell? ⟨rs, (p + b) * 2 + 1, none⟩ = some (.bool true) := fun X => by rw [World.cell?_alloc_lt _ _ _ (by have := blk_lt hse; exact this), seen_cell hse _ hlM, hsv]
  clear hR hB hZ hO hS ho hse hrr hM hJ hK hsv
  conv => arg 2; whnf
  go_wp2_with fail
  refine FI.next w ro rs base M A0 c0 l0 s r J K HJ.out gk HK.out _ (by rfl) ⟨rfl, rfl, rfl, rfl⟩ _ out seen init ⟨blk_alloc HRO.out _, blk_alloc HRS.out _, Kd.R_alloc HR.out _⟩ hL (HB.out.alloc (by have := HZ.out; omega) _) (by have := HZ.out; simp; omega) HO.out HS.out
set_option maxHeartbeats 8000000 in
set_option maxRecDepth 1000000 in
theorem fr_again_false (w : World) (ro rs base M : Nat) (A0 : Option Addr) (c0 : Nat) (l0 : List S55) (s : ByteArray) (r : List Bool) (hro : w.heap.size ≤ ro) (hrs : w.heap.size ≤ rs) (hb1 : ro < base) (hb2 : rs < base) (hne : ro ≠ rs) (hM : M = l0.length * (s.size + 1)) (hMb : M ≤ 1000000) (hs : s.size ≤ 100000) (hl : l0.length ≤ 100000) (hn : 0 < l0.length) (hrr : Kd.C k55 w A0 l0.length l0) (hc0 : l0.length ≤ c0) (J : Nat → Act → World → Prop) (K : Act → World → Prop) (gk : Nat) (hJ : ∀ k a' w', FI w ro rs base M A0 c0 l0 s r k a' w' → J k a' w') (hK : ∀ a' w', Handed J (gk + 1) a' w' → K a' w') (wr : World) (u2 u3 u4 u5 u6 u10 u11 u12 u13 u14 u15 u16 u17 u18 u19 u20 u21 u22 u23 u24 u25 u26 u27 u28 u29 u30 u31 u32 u33 u34 u35 u36 u37 u38 u39 u40 u41 u42 u43 u44 u45 u46 u47 u48 u49 u50 u51 u52 u53 u54 u55 u56 u57 u58 u59 u60 u61 u62 u63 u64 u65 u66 u67 u68 u69 u70 u71 u72 u73 u74 u75 u76 u77 u78 u79 u80 u81 u82 u83 u84 u85 u86 u87 u88 u89 u90 u91 u92 u93 : Value) (out seen : List Bool) (gw cap : Nat) (init : List S97) (j b p : Nat)
    (ho : wr.heap[ro]? = some (boolsB out)) (hse : wr.heap[rs]? = some (seenB seen)) (hR : Kd.R k97 97 wr base (fun _ => True) (.slice (some ⟨gw, 0, none⟩) init.length cap) init) (hB : Below w.heap.size w wr) (hZ : base ≤ wr.heap.size) (hO : out.length = s.size + 1) (hS : seen.length = M * 2)
    (hp : wrap64 ((j : Int) * ((s.size : Int) + 1)) = (p : Int)) (hlt : p + b < M) (g2 : (j : Int) < l0.length) (g4 : (b : Int) < s.size + 1) (g5 : init.length + 1 ≤ 1000000) (hlw : init.length + 1 ≤ cap) (hgb : base ≤ gw) (hgwlt : gw < wr.heap.size)
    (cw0 : wr.cell? ⟨gw, init.length * 3, none⟩ = some (.int .i64 j)) (cw1 : wr.cell? ⟨gw, init.length * 3 + 1, none⟩ = some (.bool false)) (cw2 : wr.cell? ⟨gw, init.length * 3 + 2, none⟩ = some (.int .i64 b)) (hsv : seen.getD ((p + b) * 2) false = true) (hL : from1L l0 s gk out seen init = some r) :
    Code.wp Try.prog floop (Exit.then K (FQ w ro rs base M A0 c0 l0 s r)) ⟨#[.slice A0 l0.length c0, .string s, u2, u3, u4, u5, u6, .slice (some ⟨ro, 0, none⟩) (s.size + 1) (s.size + 1), .slice (some ⟨rs, 0, none⟩) M M, .slice (some ⟨gw, 0, none⟩) (init.length + 1) cap, u10, u11, u12, u13, u14, u15, u16, u17, u18, u19, u20, u21, u22, u23, u24, u25, u26, u27, u28, u29, u30, u31, u32, u33, u34, u35, u36, u37, u38, u39, u40, u41, u42, u43, u44, u45, u46, u47, u48, u49, u50, u51, u52, u53, u54, u55, u56, u57, u58, u59, u60, u61, u62, u63, u64, u65, u66, u67, u68, u69, u70, u71, u72, u73, u74, u75, u76, u77, u78, u79, u80, u81, u82, u83, u84, u85, u86, u87, u88, u89, u90, u91, u92, u93], []⟩ wr := by
  have HJ := Lib.hid hJ
  have HK := Lib.hid hK
  have HR := Aside0.mk hR
  have HB := Aside0.mk hB
  have HZ := Aside0.mk hZ
  have HO := Aside0.mk hO
  have HS := Aside0.mk hS
  have HRO := Aside0.mk ho
  have HRS := Aside0.mk hse
  have HRR := Aside0.mk hrr
  have HMM := Lib.hid hM
  have hne0 : decide (0 < init.length + 1) = true := decide_eq_true (by omega)
  have hlM : (p + b) * 2 < seen.length := by omega
  have hgl : decide (p + b < M) = true := decide_eq_true hlt
  have qs : ∀ X, (wr.alloc X).cell? ⟨rs, (p + b) * 2, none⟩ = some (.bool true) := fun X => by rw [World.cell?_alloc_lt _ _ _ (by have := blk_lt hse; exact this), seen_cell hse _ hlM, hsv]
  clear hR hB hZ hO hS ho hse hrr hM hJ hK hsv
  conv => arg 2; whnf
  go_wp2_with fail
  refine FI.next w ro rs base M A0 c0 l0 s r J K HJ.out gk HK.out _ (by rfl) ⟨rfl, rfl, rfl, rfl⟩ _ out seen init ⟨blk_alloc HRO.out _, blk_alloc HRS.out _, Kd.R_alloc HR.out _⟩ hL (HB.out.alloc (by have := HZ.out; omega) _) (by have := HZ.out; simp; omega) HO.out HS.out
set_option maxHeartbeats 8000000 in
set_option maxRecDepth 1000000 in
theorem fr_out (w : World) (ro rs base M : Nat) (A0 : Option Addr) (c0 : Nat) (l0 : List S55) (s : ByteArray) (r : List Bool) (hro : w.heap.size ≤ ro) (hrs : w.heap.size ≤ rs) (hb1 : ro < base) (hb2 : rs < base) (hne : ro ≠ rs) (hM : M = l0.length * (s.size + 1)) (hMb : M ≤ 1000000) (hs : s.size ≤ 100000) (hl : l0.length ≤ 100000) (hn : 0 < l0.length) (hrr : Kd.C k55 w A0 l0.length l0) (hc0 : l0.length ≤ c0) (J : Nat → Act → World → Prop) (K : Act → World → Prop) (gk : Nat) (hJ : ∀ k a' w', FI w ro rs base M A0 c0 l0 s r k a' w' → J k a' w') (hK : ∀ a' w', Handed J (gk + 1) a' w' → K a' w') (wr : World) (u2 u3 u4 u5 u6 u10 u11 u12 u13 u14 u15 u16 u17 u18 u19 u20 u21 u22 u23 u24 u25 u26 u27 u28 u29 u30 u31 u32 u33 u34 u35 u36 u37 u38 u39 u40 u41 u42 u43 u44 u45 u46 u47 u48 u49 u50 u51 u52 u53 u54 u55 u56 u57 u58 u59 u60 u61 u62 u63 u64 u65 u66 u67 u68 u69 u70 u71 u72 u73 u74 u75 u76 u77 u78 u79 u80 u81 u82 u83 u84 u85 u86 u87 u88 u89 u90 u91 u92 u93 : Value) (out seen : List Bool) (gw cap : Nat) (init : List S97) (j b p : Nat)
    (ho : wr.heap[ro]? = some (boolsB out)) (hse : wr.heap[rs]? = some (seenB seen)) (hR : Kd.R k97 97 wr base (fun _ => True) (.slice (some ⟨gw, 0, none⟩) init.length cap) init) (hB : Below w.heap.size w wr) (hZ : base ≤ wr.heap.size) (hO : out.length = s.size + 1) (hS : seen.length = M * 2)
    (hp : wrap64 ((j : Int) * ((s.size : Int) + 1)) = (p : Int)) (hlt : p + b < M) (g2 : (j : Int) < l0.length) (g4 : (b : Int) < s.size + 1) (g5 : init.length + 1 ≤ 1000000) (hlw : init.length + 1 ≤ cap) (hgb : base ≤ gw) (hgwlt : gw < wr.heap.size)
    (cw0 : wr.cell? ⟨gw, init.length * 3, none⟩ = some (.int .i64 j)) (cw1 : wr.cell? ⟨gw, init.length * 3 + 1, none⟩ = some (.bool true)) (cw2 : wr.cell? ⟨gw, init.length * 3 + 2, none⟩ = some (.int .i64 b)) (hsv : seen.getD ((p + b) * 2 + 1) false = false) (hrt : ((j : Int) == ((l0.length : Int) - 1)) = true) (hL : from1L l0 s gk (out.set b true) (seen.set ((p + b) * 2 + 1) true) init = some r) :
    Code.wp Try.prog floop (Exit.then K (FQ w ro rs base M A0 c0 l0 s r)) ⟨#[.slice A0 l0.length c0, .string s, u2, u3, u4, u5, u6, .slice (some ⟨ro, 0, none⟩) (s.size + 1) (s.size + 1), .slice (some ⟨rs, 0, none⟩) M M, .slice (some ⟨gw, 0, none⟩) (init.length + 1) cap, u10, u11, u12, u13, u14, u15, u16, u17, u18, u19, u20, u21, u22, u23, u24, u25, u26, u27, u28, u29, u30, u31, u32, u33, u34, u35, u36, u37, u38, u39, u40, u41, u42, u43, u44, u45, u46, u47, u48, u49, u50, u51, u52, u53, u54, u55, u56, u57, u58, u59, u60, u61, u62, u63, u64, u65, u66, u67, u68, u69, u70, u71, u72, u73, u74, u75, u76, u77, u78, u79, u80, u81, u82, u83, u84, u85, u86, u87, u88, u89, u90, u91, u92, u93], []⟩ wr := by
  have HJ := Lib.hid hJ
  have HK := Lib.hid hK
  have HR := Aside0.mk hR
  have HB := Aside0.mk hB
  have HZ := Aside0.mk hZ
  have HO := Aside0.mk hO
  have HS := Aside0.mk hS
  have HRO := Aside0.mk ho
  have HRS := Aside0.mk hse
  have HRR := Aside0.mk hrr
  have HMM := Lib.hid hM
  have hne0 : decide (0 < init.length + 1) = true := decide_eq_true (by omega)
  have hlM : (p + b) * 2 + 1 < seen.length := by omega
  have hgl : decide (p + b < M) = true := decide_eq_true hlt
  have qs : ∀ X, (wr.alloc X).cell? ⟨rs, (p + b) * 2 + 1, none⟩ = some (.bool false) := fun X => by rw [World.cell?_alloc_lt _ _ _ (by have := blk_lt hse; exact this), seen_cell hse _ hlM, hsv]
  have fs : ∀ X i, (wr.alloc X).frozen? ⟨rs, i, none⟩ = false := fun X i => blk_frozen (blk_alloc hse X) i
  have gne : wr.heap.size ≠ rs := by omega
  have gne2 : rs ≠ wr.heap.size := by omega
  have hrs2 : ∀ X, ((wr.alloc X).setCell ⟨rs, (p + b) * 2 + 1, none⟩ (.bool true)).heap[rs]? = some (seenB (seen.set ((p + b) * 2 + 1) true)) := fun X => by
    have := blk_set (blk_alloc HRS.out X) ((p + b) * 2 + 1) (.bool true)
    rw [bools_set] at this
    exact this
  have co : ∀ X, (wr.alloc X).cell? ⟨ro, b, none⟩ = some (.bool (out.getD b false)) := fun X => by rw [World.cell?_alloc_lt _ _ _ (by have := blk_lt ho; exact this), bool_cell ho _ (by omega)]
  have fo : ∀ X i, (wr.alloc X).frozen? ⟨ro, i, none⟩ = false := fun X i => blk_frozen (blk_alloc ho X) i
  have gne3 : wr.heap.size ≠ ro := by omega
  have gne4 : ro ≠ wr.heap.size := by omega
  have hne' := hne.symm
  have HSS := Lib.hid hrs2
  clear hrs2
  clear hR hB hZ hO hS ho hse hrr hM hJ hK hsv
  conv => arg 2; whnf
  go_wp2_with fail
  refine FI.next w ro rs base M A0 c0 l0 s r J K HJ.out gk HK.out _ (by rfl) ⟨rfl, rfl, rfl, rfl⟩ _ (out.set b true) (seen.set ((p + b) * 2 + 1) true) init ⟨?_, blk_far (HSS.out _) hne' _, Kd.R_mono (Kd.R_far (p := ⟨ro, b, none⟩) (Kd.R_far (p := ⟨rs, (p + b) * 2 + 1, none⟩) (Kd.R_alloc (Kd.R_mono (Kd.R_bound HR.out) (fun _ h => h.2.1)) _) (fun k hk => by have : base ≤ k := hk; show k ≠ rs; omega) _) (fun k hk => by have : base ≤ k := hk; show k ≠ ro; omega) _) (fun _ _ => trivial)⟩ hL (((HB.out.alloc (by have := HZ.out; omega) _).setCell (by show w.heap.size ≤ rs; omega) _).setCell (by show w.heap.size ≤ ro; omega) _) (by have := HZ.out; simp; omega) (by rw [List.length_set]; exact HO.out) (by rw [List.length_set]; exact HS.out)
  · have := blk_set (blk_far (blk_alloc HRO.out (.cells #[.int .i64 j, .bool true, .int .i64 b] 97)) (p := ⟨rs, (p + b) * 2 + 1, none⟩) hne (.bool true)) b (.bool true)
    rw [bools_set] at this
    exact this
set_option maxHeartbeats 8000000 in
set_option maxRecDepth 1000000 in
theorem fr_beyond (w : World) (ro rs base M : Nat) (A0 : Option Addr) (c0 : Nat) (l0 : List S55) (s : ByteArray) (r : List Bool) (hro : w.heap.size ≤ ro) (hrs : w.heap.size ≤ rs) (hb1 : ro < base) (hb2 : rs < base) (hne : ro ≠ rs) (hM : M = l0.length * (s.size + 1)) (hMb : M ≤ 1000000) (hs : s.size ≤ 100000) (hl : l0.length ≤ 100000) (hn : 0 < l0.length) (hrr : Kd.C k55 w A0 l0.length l0) (hc0 : l0.length ≤ c0) (J : Nat → Act → World → Prop) (K : Act → World → Prop) (gk : Nat) (hJ : ∀ k a' w', FI w ro rs base M A0 c0 l0 s r k a' w' → J k a' w') (hK : ∀ a' w', Handed J (gk + 1) a' w' → K a' w') (wr : World) (u2 u3 u4 u5 u6 u10 u11 u12 u13 u14 u15 u16 u17 u18 u19 u20 u21 u22 u23 u24 u25 u26 u27 u28 u29 u30 u31 u32 u33 u34 u35 u36 u37 u38 u39 u40 u41 u42 u43 u44 u45 u46 u47 u48 u49 u50 u51 u52 u53 u54 u55 u56 u57 u58 u59 u60 u61 u62 u63 u64 u65 u66 u67 u68 u69 u70 u71 u72 u73 u74 u75 u76 u77 u78 u79 u80 u81 u82 u83 u84 u85 u86 u87 u88 u89 u90 u91 u92 u93 : Value) (out seen : List Bool) (gw cap : Nat) (init : List S97) (j b p : Nat)
    (ho : wr.heap[ro]? = some (boolsB out)) (hse : wr.heap[rs]? = some (seenB seen)) (hR : Kd.R k97 97 wr base (fun _ => True) (.slice (some ⟨gw, 0, none⟩) init.length cap) init) (hB : Below w.heap.size w wr) (hZ : base ≤ wr.heap.size) (hO : out.length = s.size + 1) (hS : seen.length = M * 2)
    (hp : wrap64 ((j : Int) * ((s.size : Int) + 1)) = (p : Int)) (hlt : p + b < M) (g2 : (j : Int) < l0.length) (g4 : (b : Int) < s.size + 1) (g5 : init.length + 1 ≤ 1000000) (hlw : init.length + 1 ≤ cap) (hgb : base ≤ gw) (hgwlt : gw < wr.heap.size)
    (cw0 : wr.cell? ⟨gw, init.length * 3, none⟩ = some (.int .i64 j)) (cw1 : wr.cell? ⟨gw, init.length * 3 + 1, none⟩ = some (.bool true)) (cw2 : wr.cell? ⟨gw, init.length * 3 + 2, none⟩ = some (.int .i64 b)) (hsv : seen.getD ((p + b) * 2 + 1) false = false) (hrt : ((j : Int) == ((l0.length : Int) - 1)) = false) (ys : List S97) (hca : dragomanref06_beyond.f gk l0 j true b = some ys) (hyl : ys.length ≤ 10) (hL : from1L l0 s gk out (seen.set ((p + b) * 2 + 1) true) (init ++ ys) = some r) :
    Code.wp Try.prog floop (Exit.then K (FQ w ro rs base M A0 c0 l0 s r)) ⟨#[.slice A0 l0.length c0, .string s, u2, u3, u4, u5, u6, .slice (some ⟨ro, 0, none⟩) (s.size + 1) (s.size + 1), .slice (some ⟨rs, 0, none⟩) M M, .slice (some ⟨gw, 0, none⟩) (init.length + 1) cap, u10, u11, u12, u13, u14, u15, u16, u17, u18, u19, u20, u21, u22, u23, u24, u25, u26, u27, u28, u29, u30, u31, u32, u33, u34, u35, u36, u37, u38, u39, u40, u41, u42, u43, u44, u45, u46, u47, u48, u49, u50, u51, u52, u53, u54, u55, u56, u57, u58, u59, u60, u61, u62, u63, u64, u65, u66, u67, u68, u69, u70, u71, u72, u73, u74, u75, u76, u77, u78, u79, u80, u81, u82, u83, u84, u85, u86, u87, u88, u89, u90, u91, u92, u93], []⟩ wr := by
  have HJ := Lib.hid hJ
  have HK := Lib.hid hK
  have HR := Aside0.mk hR
  have HB := Aside0.mk hB
  have HZ := Aside0.mk hZ
  have HO := Aside0.mk hO
  have HS := Aside0.mk hS
  have HRO := Aside0.mk ho
  have HRS := Aside0.mk hse
  have HRR := Aside0.mk hrr
  have HMM := Lib.hid hM
  have hne0 : decide (0 < init.length + 1) = true := decide_eq_true (by omega)
  have hlM : (p + b) * 2 + 1 < seen.length := by omega
  have hgl : decide (p + b < M) = true := decide_eq_true hlt
  have qs : ∀ X, (wr.alloc X).cell? ⟨rs, (p + b) * 2 + 1, none⟩ = some (.bool false) := fun X => by rw [World.cell?_alloc_lt _ _ _ (by have := blk_lt hse; exact this), seen_cell hse _ hlM, hsv]
  have fs : ∀ X i, (wr.alloc X).frozen? ⟨rs, i, none⟩ = false := fun X i => blk_frozen (blk_alloc hse X) i
  have gne : wr.heap.size ≠ rs := by omega
  have gne2 : rs ≠ wr.heap.size := by omega
  have hrs2 : ∀ X, ((wr.alloc X).setCell ⟨rs, (p + b) * 2 + 1, none⟩ (.bool true)).heap[rs]? = some (seenB (seen.set ((p + b) * 2 + 1) true)) := fun X => by
    have := blk_set (blk_alloc HRS.out X) ((p + b) * 2 + 1) (.bool true)
    rw [bools_set] at this
    exact this
  have HSS := Lib.hid hrs2
  have HCA := Lib.hid hca
  have HYL := Lib.hid hyl
  have hB2 : Below w.heap.size w ((wr.alloc (.cells #[.int .i64 j, .bool true, .int .i64 b] 97)).setCell ⟨rs, (p + b) * 2 + 1, none⟩ (.bool true)) := (HB.out.alloc (by have := HZ.out; omega) _).setCell (by show w.heap.size ≤ rs; omega) _
  have HB2 := Aside0.mk hB2
  have HR2 := Aside0.mk (Kd.R_far (p := ⟨rs, (p + b) * 2 + 1, none⟩) (Kd.R_alloc (Kd.R_mono (Kd.R_bound HR.out) (fun _ h => h.2.1)) (.cells #[.int .i64 j, .bool true, .int .i64 b] 97)) (fun k hk => by have : base ≤ k := hk; show k ≠ rs; omega) (.bool true))
  clear hrs2 hca hyl hB2
  clear hR hB hZ hO hS ho hse hrr hM hJ hK hsv
  conv => arg 2; whnf
  go_wp2_with fail
  refine (dragomanref06_beyond.calls gk _ _ l0 j true b ys _ (Kd.C_below HRR.out HB2.out) hc0 HCA.out).mono ?_
  rintro x W3 ⟨v3, rfl, hR3, hB3⟩
  obtain ⟨A3, c3, rfl⟩ := Kd.R_slice hR3
  have HR3 := Aside0.mk hR3
  have HB3 := Aside0.mk hB3
  clear hR3 hB3 qs fs gne gne2
  go_wp2_with ((with_reducible refine gate_builtin (b := .append) (xs := #[.tmp 82, .tmp 85]) rfl ?_); at_builtin; refine Kd.R_append_rows k97 (Rr := k97.K W3) (w0 := W3) base rfl (.tmp 82) (.tmp 85) 98 97 (.agg #[(.int .i64 0), (.bool false), (.int .i64 0)]) 24 rfl Try.underlying98 QA.info97 rfl (by decide) (by omega) (.slice (some ⟨gw, 0, none⟩) init.length cap) init ys A3 ys.length c3 (fun k => base ≤ k) (fun _ => False) rfl rfl ?aO ?aR ?aK (fun _ h => h.elim) ?aF ?aB ?aS ?aL ?_)
  case aO => exact Kd.R_below HR2.out HB3.out
  case aR => exact (Kd.R_reads' HR3.out).2.2
  case aK => intro q cs hq; obtain rfl := k97_open hq; exact k97_mkM _ _ _ q
  case aF => intro k hk; have z1 := HB3.out.size; have z2 := HZ.out; simp at z1; omega
  case aB => exact Below.refl _ _
  case aS => have z1 := HB3.out.size; have z2 := HZ.out; simp at z1; omega
  case aL => have := HYL.out; omega
  intro v4 W4 hR4 hB4 hG4 hat
  have HR4 := Aside0.mk hR4
  have HB4 := Aside0.mk hB4
  have HG4 := Aside0.mk hG4
  clear hR4 hB4 hG4 hat
  go_wp2_with fail
  have hz : base ≤ W3.heap.size := by have z1 := HB3.out.size; have z2 := HZ.out; simp at z1; omega
  have hr3 : W3.heap[ro]? = some (boolsB out) := blk_below (blk_far (blk_alloc HRO.out _) (by show ro ≠ rs; exact hne) _) HB3.out
  have hs3 : W3.heap[rs]? = some (seenB (seen.set ((p + b) * 2 + 1) true)) := blk_below (HSS.out _) HB3.out
  refine FI.next w ro rs base M A0 c0 l0 s r J K HJ.out gk HK.out _ (by rfl) ⟨rfl, rfl, rfl, rfl⟩ _ out (seen.set ((p + b) * 2 + 1) true) (init ++ ys) ⟨blk_grown hr3 HG4.out ?_, blk_grown hs3 HG4.out ?_, Kd.R_mono HR4.out (fun _ _ => trivial)⟩ hL ?_ (Nat.le_trans hz HG4.out.size) HO.out (by rw [List.length_set]; exact HS.out)
  · intro z; have q0 : ro = gw := Option.some.inj z; omega
  · intro z; have q0 : rs = gw := Option.some.inj z; omega
  · exact (HB2.out.trans (HB3.out.mono (by have := HZ.out; simp; omega))).trans (HB4.out.mono (by omega))
set_option maxHeartbeats 8000000 in
set_option maxRecDepth 1000000 in
theorem fr_within (w : World) (ro rs base M : Nat) (A0 : Option Addr) (c0 : Nat) (l0 : List S55) (s : ByteArray) (r : List Bool) (hro : w.heap.size ≤ ro) (hrs : w.heap.size ≤ rs) (hb1 : ro < base) (hb2 : rs < base) (hne : ro ≠ rs) (hM : M = l0.length * (s.size + 1)) (hMb : M ≤ 1000000) (hs : s.size ≤ 100000) (hl : l0.length ≤ 100000) (hn : 0 < l0.length) (hrr : Kd.C k55 w A0 l0.length l0) (hc0 : l0.length ≤ c0) (J : Nat → Act → World → Prop) (K : Act → World → Prop) (gk : Nat) (hJ : ∀ k a' w', FI w ro rs base M A0 c0 l0 s r k a' w' → J k a' w') (hK : ∀ a' w', Handed J (gk + 1) a' w' → K a' w') (wr : World) (u2 u3 u4 u5 u6 u10 u11 u12 u13 u14 u15 u16 u17 u18 u19 u20 u21 u22 u23 u24 u25 u26 u27 u28 u29 u30 u31 u32 u33 u34 u35 u36 u37 u38 u39 u40 u41 u42 u43 u44 u45 u46 u47 u48 u49 u50 u51 u52 u53 u54 u55 u56 u57 u58 u59 u60 u61 u62 u63 u64 u65 u66 u67 u68 u69 u70 u71 u72 u73 u74 u75 u76 u77 u78 u79 u80 u81 u82 u83 u84 u85 u86 u87 u88 u89 u90 u91 u92 u93 : Value) (out seen : List Bool) (gw cap : Nat) (init : List S97) (j b p : Nat)
    (ho : wr.heap[ro]? = some (boolsB out)) (hse : wr.heap[rs]? = some (seenB seen)) (hR : Kd.R k97 97 wr base (fun _ => True) (.slice (some ⟨gw, 0, none⟩) init.length cap) init) (hB : Below w.heap.size w wr) (hZ : base ≤ wr.heap.size) (hO : out.length = s.size + 1) (hS : seen.length = M * 2)
    (hp : wrap64 ((j : Int) * ((s.size : Int) + 1)) = (p : Int)) (hlt : p + b < M) (g2 : (j : Int) < l0.length) (g4 : (b : Int) < s.size + 1) (g5 : init.length + 1 ≤ 1000000) (hlw : init.length + 1 ≤ cap) (hgb : base ≤ gw) (hgwlt : gw < wr.heap.size)
    (cw0 : wr.cell? ⟨gw, init.length * 3, none⟩ = some (.int .i64 j)) (cw1 : wr.cell? ⟨gw, init.length * 3 + 1, none⟩ = some (.bool false)) (cw2 : wr.cell? ⟨gw, init.length * 3 + 2, none⟩ = some (.int .i64 b)) (hsv : seen.getD ((p + b) * 2) false = false) (ys : List S97) (hca : dragomanref06_within.f gk l0 s j false b = some ys) (hyl : ys.length ≤ 10) (hL : from1L l0 s gk out (seen.set ((p + b) * 2) true) (init ++ ys) = some r) :
    Code.wp Try.prog floop (Exit.then K (FQ w ro rs base M A0 c0 l0 s r)) ⟨#[.slice A0 l0.length c0, .string s, u2, u3, u4, u5, u6, .slice (some ⟨ro, 0, none⟩) (s.size + 1) (s.size + 1), .slice (some ⟨rs, 0, none⟩) M M, .slice (some ⟨gw, 0, none⟩) (init.length + 1) cap, u10, u11, u12, u13, u14, u15, u16, u17, u18, u19, u20, u21, u22, u23, u24, u25, u26, u27, u28, u29, u30, u31, u32, u33, u34, u35, u36, u37, u38, u39, u40, u41, u42, u43, u44, u45, u46, u47, u48, u49, u50, u51, u52, u53, u54, u55, u56, u57, u58, u59, u60, u61, u62, u63, u64, u65, u66, u67, u68, u69, u70, u71, u72, u73, u74, u75, u76, u77, u78, u79, u80, u81, u82, u83, u84, u85, u86, u87, u88, u89, u90, u91, u92, u93], []⟩ wr := by
  have HJ := Lib.hid hJ
  have HK := Lib.hid hK
  have HR := Aside0.mk hR
  have HB := Aside0.mk hB
  have HZ := Aside0.mk hZ
  have HO := Aside0.mk hO
  have HS := Aside0.mk hS
  have HRO := Aside0.mk ho
  have HRS := Aside0.mk hse
  have HRR := Aside0.mk hrr
  have HMM := Lib.hid hM
  have hne0 : decide (0 < init.length + 1) = true := decide_eq_true (by omega)
  have hlM : (p + b) * 2 < seen.length := by omega
  have hgl : decide (p + b < M) = true := decide_eq_true hlt
  have qs : ∀ X, (wr.alloc X).cell? ⟨rs, (p + b) * 2, none⟩ = some (.bool false) := fun X => by rw [World.cell?_alloc_lt _ _ _ (by have := blk_lt hse; exact this), seen_cell hse _ hlM, hsv]
  have fs : ∀ X i, (wr.alloc X).frozen? ⟨rs, i, none⟩ = false := fun X i => blk_frozen (blk_alloc hse X) i
  have gne : wr.heap.size ≠ rs := by omega
  have gne2 : rs ≠ wr.heap.size := by omega
  have hrs2 : ∀ X, ((wr.alloc X).setCell ⟨rs, (p + b) * 2, none⟩ (.bool true)).heap[rs]? = some (seenB (seen.set ((p + b) * 2) true)) := fun X => by
    have := blk_set (blk_alloc HRS.out X) ((p + b) * 2) (.bool true)
    rw [bools_set] at this
    exact this
  have HSS := Lib.hid hrs2
  have HCA := Lib.hid hca
  have HYL := Lib.hid hyl
  have hB2 : Below w.heap.size w ((wr.alloc (.cells #[.int .i64 j, .bool false, .int .i64 b] 97)).setCell ⟨rs, (p + b) * 2, none⟩ (.bool true)) := (HB.out.alloc (by have := HZ.out; omega) _).setCell (by show w.heap.size ≤ rs; omega) _
  have HB2 := Aside0.mk hB2
  have HR2 := Aside0.mk (Kd.R_far (p := ⟨rs, (p + b) * 2, none⟩) (Kd.R_alloc (Kd.R_mono (Kd.R_bound HR.out) (fun _ h => h.2.1)) (.cells #[.int .i64 j, .bool false, .int .i64 b] 97)) (fun k hk => by have : base ≤ k := hk; show k ≠ rs; omega) (.bool true))
  clear hrs2 hca hyl hB2
  clear hR hB hZ hO hS ho hse hrr hM hJ hK hsv
  conv => arg 2; whnf
  go_wp2_with fail
  refine (dragomanref06_within.calls gk _ _ l0 s j false b ys _ (Kd.C_below HRR.out HB2.out) hc0 HCA.out).mono ?_
  rintro x W3 ⟨v3, rfl, hR3, hB3⟩
  obtain ⟨A3, c3, rfl⟩ := Kd.R_slice hR3
  have HR3 := Aside0.mk hR3
  have HB3 := Aside0.mk hB3
  clear hR3 hB3 qs fs gne gne2
  go_wp2_with ((with_reducible refine gate_builtin (b := .append) (xs := #[.tmp 87, .tmp 91]) rfl ?_); at_builtin; refine Kd.R_append_rows k97 (Rr := k97.K W3) (w0 := W3) base rfl (.tmp 87) (.tmp 91) 98 97 (.agg #[(.int .i64 0), (.bool false), (.int .i64 0)]) 24 rfl Try.underlying98 QA.info97 rfl (by decide) (by omega) (.slice (some ⟨gw, 0, none⟩) init.length cap) init ys A3 ys.length c3 (fun k => base ≤ k) (fun _ => False) rfl rfl ?aO ?aR ?aK (fun _ h => h.elim) ?aF ?aB ?aS ?aL ?_)
  case aO => exact Kd.R_below HR2.out HB3.out
  case aR => exact (Kd.R_reads' HR3.out).2.2
  case aK => intro q cs hq; obtain rfl := k97_open hq; exact k97_mkM _ _ _ q
  case aF => intro k hk; have z1 := HB3.out.size; have z2 := HZ.out; simp at z1; omega
  case aB => exact Below.refl _ _
  case aS => have z1 := HB3.out.size; have z2 := HZ.out; simp at z1; omega
  case aL => have := HYL.out; omega
  intro v4 W4 hR4 hB4 hG4 hat
  have HR4 := Aside0.mk hR4
  have HB4 := Aside0.mk hB4
  have HG4 := Aside0.mk hG4
  clear hR4 hB4 hG4 hat
  go_wp2_with fail
  have hz : base ≤ W3.heap.size := by have z1 := HB3.out.size; have z2 := HZ.out; simp at z1; omega
  have hr3 : W3.heap[ro]? = some (boolsB out) := blk_below (blk_far (blk_alloc HRO.out _) (by show ro ≠ rs; exact hne) _) HB3.out
  have hs3 : W3.heap[rs]? = some (seenB (seen.set ((p + b) * 2) true)) := blk_below (HSS.out _) HB3.out
  refine FI.next w ro rs base M A0 c0 l0 s r J K HJ.out gk HK.out _ (by rfl) ⟨rfl, rfl, rfl, rfl⟩ _ out (seen.set ((p + b) * 2) true) (init ++ ys) ⟨blk_grown hr3 HG4.out ?_, blk_grown hs3 HG4.out ?_, Kd.R_mono HR4.out (fun _ _ => trivial)⟩ hL ?_ (Nat.le_trans hz HG4.out.size) HO.out (by rw [List.length_set]; exact HS.out)
  · intro z; have q0 : ro = gw := Option.some.inj z; omega
  · intro z; have q0 : rs = gw := Option.some.inj z; omega
  · exact (HB2.out.trans (HB3.out.mono (by have := HZ.out; simp; omega))).trans (HB4.out.mono (by omega))
set_option maxHeartbeats 8000000 in
set_option maxRecDepth 1000000 in
theorem fr_done (w : World) (ro rs base M : Nat) (A0 : Option Addr) (c0 : Nat) (l0 : List S55) (s : ByteArray) (r : List Bool) (J : Nat → Act → World → Prop) (K : Act → World → Prop) (gk : Nat) (hJ : ∀ k a' w', FI w ro rs base M A0 c0 l0 s r k a' w' → J k a' w') (hK : ∀ a' w', Handed J (gk + 1) a' w' → K a' w') (wr : World) (u2 u3 u4 u5 u6 u10 u11 u12 u13 u14 u15 u16 u17 u18 u19 u20 u21 u22 u23 u24 u25 u26 u27 u28 u29 u30 u31 u32 u33 u34 u35 u36 u37 u38 u39 u40 u41 u42 u43 u44 u45 u46 u47 u48 u49 u50 u51 u52 u53 u54 u55 u56 u57 u58 u59 u60 u61 u62 u63 u64 u65 u66 u67 u68 u69 u70 u71 u72 u73 u74 u75 u76 u77 u78 u79 u80 u81 u82 u83 u84 u85 u86 u87 u88 u89 u90 u91 u92 u93 : Value) (out seen : List Bool) (q0 : Option Addr) (cap : Nat) (ho : wr.heap[ro]? = some (boolsB r)) (hB : Below w.heap.size w wr) (hO : r.length = s.size + 1) :
    Code.wp Try.prog floop (Exit.then K (FQ w ro rs base M A0 c0 l0 s r)) ⟨#[.slice A0 l0.length c0, .string s, u2, u3, u4, u5, u6, .slice (some ⟨ro, 0, none⟩) (s.size + 1) (s.size + 1), .slice (some ⟨rs, 0, none⟩) M M, .slice q0 0 cap, u10, u11, u12, u13, u14, u15, u16, u17, u18, u19, u20, u21, u22, u23, u24, u25, u26, u27, u28, u29, u30, u31, u32, u33, u34, u35, u36, u37, u38, u39, u40, u41, u42, u43, u44, u45, u46, u47, u48, u49, u50, u51, u52, u53, u54, u55, u56, u57, u58, u59, u60, u61, u62, u63, u64, u65, u66, u67, u68, u69, u70, u71, u72, u73, u74, u75, u76, u77, u78, u79, u80, u81, u82, u83, u84, u85, u86, u87, u88, u89, u90, u91, u92, u93], []⟩ wr := by
  have HB := Lib.hid hB
  have HO := Lib.hid hO
  have HH := Lib.hid ho
  have HJ := Lib.hid hJ
  have HK := Lib.hid hK
  clear hB hO ho hJ hK
  conv => arg 2; whnf
  go_wp2_with fail
  exact ⟨rfl, _, fr2_of _ (by rfl), ⟨rfl, rfl, rfl, rfl⟩, HH.out, HO.out, HB.out⟩
set_option maxHeartbeats 8000000 in
set_option maxRecDepth 1000000 in
theorem fr_round (w : World) (ro rs base M : Nat) (A0 : Option Addr) (c0 : Nat) (l0 : List S55) (s : ByteArray) (r : List Bool) (hro : w.heap.size ≤ ro) (hrs : w.heap.size ≤ rs) (hb1 : ro < base) (hb2 : rs < base) (hne : ro ≠ rs) (hM : M = l0.length * (s.size + 1)) (hMb : M ≤ 1000000) (hs : s.size ≤ 100000) (hl : l0.length ≤ 100000) (hn : 0 < l0.length) (hrr : Kd.C k55 w A0 l0.length l0) (hc0 : l0.length ≤ c0) (J : Nat → Act → World → Prop) (K : Act → World → Prop) (k : Nat) (hJ : ∀ k a' w', FI w ro rs base M A0 c0 l0 s r k a' w' → J k a' w') (hK : ∀ a' w', Handed J k a' w' → K a' w') (a : Act) (wr : World) (hI : FI w ro rs base M A0 c0 l0 s r k a wr) :
    Code.wp Try.prog floop (Exit.then K (FQ w ro rs base M A0 c0 l0 s r)) a wr := by
  obtain ⟨u, rfl, ⟨h0, h1, h7, h8⟩, out, seen, wait, hE, hL, hB, hZ, hO, hS⟩ := hI
  unfold fr2
  rw [h0, h1, h7, h8]
  cases k with
  | zero => simp only [from1L] at hL; cases hL
  | succ gk =>
  cases hgl : wait.getLast? with
  | none =>
    have hw0 : wait = [] := List.getLast?_eq_none_iff.1 hgl
    subst hw0
    simp only [from1L, hgl] at hL
    obtain rfl := Option.some.inj hL
    obtain ⟨q0, cap, h9⟩ := Kd.R_slice hE.w
    rw [h9]
    exact fr_done w ro rs base M A0 c0 l0 s out J K gk hJ hK wr (u 2) (u 3) (u 4) (u 5) (u 6) (u 10) (u 11) (u 12) (u 13) (u 14) (u 15) (u 16) (u 17) (u 18) (u 19) (u 20) (u 21) (u 22) (u 23) (u 24) (u 25) (u 26) (u 27) (u 28) (u 29) (u 30) (u 31) (u 32) (u 33) (u 34) (u 35) (u 36) (u 37) (u 38) (u 39) (u 40) (u 41) (u 42) (u 43) (u 44) (u 45) (u 46) (u 47) (u 48) (u 49) (u 50) (u 51) (u 52) (u 53) (u 54) (u 55) (u 56) (u 57) (u 58) (u 59) (u 60) (u 61) (u 62) (u 63) (u 64) (u 65) (u 66) (u 67) (u 68) (u 69) (u 70) (u 71) (u 72) (u 73) (u 74) (u 75) (u 76) (u 77) (u 78) (u 79) (u 80) (u 81) (u 82) (u 83) (u 84) (u 85) (u 86) (u 87) (u 88) (u 89) (u 90) (u 91) (u 92) (u 93) out seen q0 cap hE.ro hB hO
  | some x =>
    obtain ⟨init, rfl⟩ := List.getLast?_eq_some_iff.1 hgl
    simp only [from1L, hgl, List.dropLast_concat] at hL
    by_cases hg : 0 ≤ x.f0 ∧ x.f0 < l0.length ∧ 0 ≤ x.f2 ∧ x.f2 < s.size + 1 ∧ (init ++ [x]).length ≤ 1000000
    case neg => rw [if_neg hg] at hL; cases hL
    rw [if_pos hg] at hL
    obtain ⟨g1, g2, g3, g4, g5⟩ := hg
    have g6 : init.length + 1 ≤ 1000000 := by simpa using g5
    obtain ⟨node, ended, at_⟩ := x
    dsimp only at g1 g2 g3 g4 hL
    obtain ⟨j, rfl⟩ := Int.eq_ofNat_of_zero_le g1
    obtain ⟨b, rfl⟩ := Int.eq_ofNat_of_zero_le g3
    rw [Int.toNat_natCast, Int.toNat_natCast] at hL
    obtain ⟨gw, cap, h9, hlw, hgb, hgwlt, cw0, cw1, cw2, ht⟩ := pop78 hE.w
    rw [h9]
    have hlt : j * (s.size + 1) + b < M := by rw [hM]; exact idx_lt (by omega) (by omega)
    have hp : wrap64 ((j : Int) * ((s.size : Int) + 1)) = ((j * (s.size + 1) : Nat) : Int) := by
      have e : (j : Int) * ((s.size : Int) + 1) = ((j * (s.size + 1) : Nat) : Int) := by simp
      rw [e]; exact wrap_nat _ (by omega)
    generalize hpp : j * (s.size + 1) = p at *
    cases ended with
    | true =>
      rw [if_pos rfl, if_pos rfl] at hL
      by_cases hsv : seen.getD ((p + b) * 2 + 1) false = true
      · rw [if_pos hsv] at hL
        exact fr_again_true w ro rs base M A0 c0 l0 s r hro hrs hb1 hb2 hne hM hMb hs hl hn hrr hc0 J K gk hJ hK wr (u 2) (u 3) (u 4) (u 5) (u 6) (u 10) (u 11) (u 12) (u 13) (u 14) (u 15) (u 16) (u 17) (u 18) (u 19) (u 20) (u 21) (u 22) (u 23) (u 24) (u 25) (u 26) (u 27) (u 28) (u 29) (u 30) (u 31) (u 32) (u 33) (u 34) (u 35) (u 36) (u 37) (u 38) (u 39) (u 40) (u 41) (u 42) (u 43) (u 44) (u 45) (u 46) (u 47) (u 48) (u 49) (u 50) (u 51) (u 52) (u 53) (u 54) (u 55) (u 56) (u 57) (u 58) (u 59) (u 60) (u 61) (u 62) (u 63) (u 64) (u 65) (u 66) (u 67) (u 68) (u 69) (u 70) (u 71) (u 72) (u 73) (u 74) (u 75) (u 76) (u 77) (u 78) (u 79) (u 80) (u 81) (u 82) (u 83) (u 84) (u 85) (u 86) (u 87) (u 88) (u 89) (u 90) (u 91) (u 92) (u 93) out seen gw cap init j b p hE.ro hE.rs ht hB hZ hO hS hp hlt g2 g4 g6 hlw hgb hgwlt cw0 cw1 cw2 hsv hL
      · rw [if_neg hsv] at hL
        have hsv := Bool.eq_false_iff.2 hsv
        by_cases hrt : (j : Int) = (l0.length : Int) - 1
        · rw [if_pos hrt] at hL
          exact fr_out w ro rs base M A0 c0 l0 s r hro hrs hb1 hb2 hne hM hMb hs hl hn hrr hc0 J K gk hJ hK wr (u 2) (u 3) (u 4) (u 5) (u 6) (u 10) (u 11) (u 12) (u 13) (u 14) (u 15) (u 16) (u 17) (u 18) (u 19) (u 20) (u 21) (u 22) (u 23) (u 24) (u 25) (u 26) (u 27) (u 28) (u 29) (u 30) (u 31) (u 32) (u 33) (u 34) (u 35) (u 36) (u 37) (u 38) (u 39) (u 40) (u 41) (u 42) (u 43) (u 44) (u 45) (u 46) (u 47) (u 48) (u 49) (u 50) (u 51) (u 52) (u 53) (u 54) (u 55) (u 56) (u 57) (u 58) (u 59) (u 60) (u 61) (u 62) (u 63) (u 64) (u 65) (u 66) (u 67) (u 68) (u 69) (u 70) (u 71) (u 72) (u 73) (u 74) (u 75) (u 76) (u 77) (u 78) (u 79) (u 80) (u 81) (u 82) (u 83) (u 84) (u 85) (u 86) (u 87) (u 88) (u 89) (u 90) (u 91) (u 92) (u 93) out seen gw cap init j b p hE.ro hE.rs ht hB hZ hO hS hp hlt g2 g4 g6 hlw hgb hgwlt cw0 cw1 cw2 hsv (beq_iff_eq.2 hrt) hL
        · rw [if_neg hrt] at hL
          cases hca : dragomanref06_beyond.f gk l0 j true b with
          | none => rw [hca] at hL; cases hL
          | some ys =>
            rw [hca, Option.bind_some] at hL
            by_cases hyl : ys.length ≤ 10
            case neg => rw [if_neg hyl] at hL; cases hL
            rw [if_pos hyl] at hL
            exact fr_beyond w ro rs base M A0 c0 l0 s r hro hrs hb1 hb2 hne hM hMb hs hl hn hrr hc0 J K gk hJ hK wr (u 2) (u 3) (u 4) (u 5) (u 6) (u 10) (u 11) (u 12) (u 13) (u 14) (u 15) (u 16) (u 17) (u 18) (u 19) (u 20) (u 21) (u 22) (u 23) (u 24) (u 25) (u 26) (u 27) (u 28) (u 29) (u 30) (u 31) (u 32) (u 33) (u 34) (u 35) (u 36) (u 37) (u 38) (u 39) (u 40) (u 41) (u 42) (u 43) (u 44) (u 45) (u 46) (u 47) (u 48) (u 49) (u 50) (u 51) (u 52) (u 53) (u 54) (u 55) (u 56) (u 57) (u 58) (u 59) (u 60) (u 61) (u 62) (u 63) (u 64) (u 65) (u 66) (u 67) (u 68) (u 69) (u 70) (u 71) (u 72) (u 73) (u 74) (u 75) (u 76) (u 77) (u 78) (u 79) (u 80) (u 81) (u 82) (u 83) (u 84) (u 85) (u 86) (u 87) (u 88) (u 89) (u 90) (u 91) (u 92) (u 93) out seen gw cap init j b p hE.ro hE.rs ht hB hZ hO hS hp hlt g2 g4 g6 hlw hgb hgwlt cw0 cw1 cw2 hsv (beq_eq_false_iff_ne.2 hrt) ys hca hyl hL
    | false =>
      rw [if_neg (show ¬ (false = true) by decide), if_neg (show ¬ (false = true) by decide), Nat.add_zero] at hL
      by_cases hsv : seen.getD ((p + b) * 2) false = true
      · rw [if_pos hsv] at hL
        exact fr_again_false w ro rs base M A0 c0 l0 s r hro hrs hb1 hb2 hne hM hMb hs hl hn hrr hc0 J K gk hJ hK wr (u 2) (u 3) (u 4) (u 5) (u 6) (u 10) (u 11) (u 12) (u 13) (u 14) (u 15) (u 16) (u 17) (u 18) (u 19) (u 20) (u 21) (u 22) (u 23) (u 24) (u 25) (u 26) (u 27) (u 28) (u 29) (u 30) (u 31) (u 32) (u 33) (u 34) (u 35) (u 36) (u 37) (u 38) (u 39) (u 40) (u 41) (u 42) (u 43) (u 44) (u 45) (u 46) (u 47) (u 48) (u 49) (u 50) (u 51) (u 52) (u 53) (u 54) (u 55) (u 56) (u 57) (u 58) (u 59) (u 60) (u 61) (u 62) (u 63) (u 64) (u 65) (u 66) (u 67) (u 68) (u 69) (u 70) (u 71) (u 72) (u 73) (u 74) (u 75) (u 76) (u 77) (u 78) (u 79) (u 80) (u 81) (u 82) (u 83) (u 84) (u 85) (u 86) (u 87) (u 88) (u 89) (u 90) (u 91) (u 92) (u 93) out seen gw cap init j b p hE.ro hE.rs ht hB hZ hO hS hp hlt g2 g4 g6 hlw hgb hgwlt cw0 cw1 cw2 hsv hL
      · rw [if_neg hsv] at hL
        have hsv := Bool.eq_false_iff.2 hsv
        cases hca : dragomanref06_within.f gk l0 s j false b with
        | none => rw [hca] at hL; cases hL
        | some ys =>
          rw [hca, Option.bind_some] at hL
          by_cases hyl : ys.length ≤ 10
          case neg => rw [if_neg hyl] at hL; cases hL
          rw [if_pos hyl] at hL
          exact fr_within w ro rs base M A0 c0 l0 s r hro hrs hb1 hb2 hne hM hMb hs hl hn hrr hc0 J K gk hJ hK wr (u 2) (u 3) (u 4) (u 5) (u 6) (u 10) (u 11) (u 12) (u 13) (u 14) (u 15) (u 16) (u 17) (u 18) (u 19) (u 20) (u 21) (u 22) (u 23) (u 24) (u 25) (u 26) (u 27) (u 28) (u 29) (u 30) (u 31) (u 32) (u 33) (u 34) (u 35) (u 36) (u 37) (u 38) (u 39) (u 40) (u 41) (u 42) (u 43) (u 44) (u 45) (u 46) (u 47) (u 48) (u 49) (u 50) (u 51) (u 52) (u 53) (u 54) (u 55) (u 56) (u 57) (u 58) (u 59) (u 60) (u 61) (u 62) (u 63) (u 64) (u 65) (u 66) (u 67) (u 68) (u 69) (u 70) (u 71) (u 72) (u 73) (u 74) (u 75) (u 76) (u 77) (u 78) (u 79) (u 80) (u 81) (u 82) (u 83) (u 84) (u 85) (u 86) (u 87) (u 88) (u 89) (u 90) (u 91) (u 92) (u 93) out seen gw cap init j b p hE.ro hE.rs ht hB hZ hO hS hp hlt g2 g4 g6 hlw hgb hgwlt cw0 cw1 cw2 hsv ys hca hyl hL
theorem fr_loop (w : World) (ro rs base M : Nat) (A0 : Option Addr) (c0 : Nat) (l0 : List S55) (s : ByteArray) (r : List Bool) (hro : w.heap.size ≤ ro) (hrs : w.heap.size ≤ rs) (hb1 : ro < base) (hb2 : rs < base) (hne : ro ≠ rs) (hM : M = l0.length * (s.size + 1)) (hMb : M ≤ 1000000) (hs : s.size ≤ 100000) (hl : l0.length ≤ 100000) (hn : 0 < l0.length) (hrr : Kd.C k55 w A0 l0.length l0) (hc0 : l0.length ≤ c0) (k : Nat) (a : Act) (wr : World) (hI : FI w ro rs base M A0 c0 l0 s r k a wr) (Q : Exit → Act → World → Prop) (hQ : ∀ a' w', FX w ro rs base M A0 c0 l0 s r a' w' → Q (.exit 0) a' w') :
    Code.wp Try.prog (Code.loop floop) Q a wr := by
  refine wp_mono (Q := FQ w ro rs base M A0 c0 l0 s r) (wp_loop_ghost_k (FI w ro rs base M A0 c0 l0 s r) k hI ?_) ?_
  · intro n a w' h J K hJ hK
    exact fr_round w ro rs base M A0 c0 l0 s r hro hrs hb1 hb2 hne hM hMb hs hl hn hrr hc0 J K n hJ hK a w' h
  · intro e a' w' h
    cases e with
    | exit n => obtain ⟨rfl, h⟩ := h; exact hQ _ _ h
    | _ => cases h
end Go.Proofs.Ythnfmpieoondaaa.G
