/- match.ends' loop, walked. -/
import Derived.Test.YthnfmpieoondaaaJGF
import Derived.Outline
import Derived.WalkMore
import Derived.BigRegion
import Derived.Deep.LoopGhost
set_option linter.unusedVariables false
set_option linter.unusedSimpArgs false
namespace Go.Proofs.Ythnfmpieoondaaa.G
open Go.RowKit Go.Proofs.YthnfmpieoondaaaW.PrintWords Go.Proofs.YthnfmpieoondaaaW.PrintLast Go.Proofs.YthnfmpieoondaaaW.PrintMore Go.Proofs.Ythnfmpieoondaaa.QA
def firstLoop : Code → Option Code
  | .loop c => some c
  | .seq a b => match firstLoop a with
    | some c => some c
    | none => firstLoop b
  | .block _ c => firstLoop c
  | .scope c => firstLoop c
  | .cond _ a b => match firstLoop a with
    | some c => some c
    | none => firstLoop b
  | _ => none
noncomputable def eloop : Code := ((Try.f68.body.bind firstLoop).getD .skip)
set_option maxRecDepth 100000 in
/-- A frame, by what each slot holds. -/
def fr (u : Nat → Value) : Act := ⟨#[u 0, u 1, u 2, u 3, u 4, u 5, u 6, u 7, u 8, u 9, u 10, u 11, u 12, u 13, u 14, u 15, u 16, u 17, u 18, u 19, u 20, u 21, u 22, u 23, u 24, u 25, u 26, u 27, u 28, u 29, u 30, u 31, u 32, u 33, u 34, u 35, u 36, u 37, u 38, u 39, u 40, u 41, u 42, u 43, u 44, u 45, u 46, u 47, u 48, u 49, u 50, u 51, u 52, u 53, u 54, u 55, u 56, u 57, u 58, u 59, u 60, u 61, u 62, u 63, u 64, u 65, u 66, u 67, u 68, u 69, u 70, u 71, u 72, u 73, u 74, u 75, u 76, u 77, u 78, u 79, u 80, u 81, u 82, u 83, u 84, u 85, u 86, u 87, u 88, u 89, u 90, u 91, u 92, u 93, u 94, u 95, u 96, u 97, u 98, u 99, u 100, u 101, u 102, u 103, u 104, u 105, u 106, u 107, u 108, u 109, u 110, u 111, u 112, u 113, u 114, u 115, u 116, u 117, u 118, u 119, u 120, u 121, u 122, u 123, u 124, u 125, u 126, u 127, u 128, u 129, u 130, u 131, u 132, u 133, u 134, u 135, u 136, u 137, u 138, u 139, u 140, u 141, u 142, u 143, u 144, u 145, u 146, u 147, u 148, u 149, u 150, u 151, u 152, u 153, u 154, u 155, u 156, u 157, u 158, u 159, u 160, u 161, u 162, u 163, u 164, u 165, u 166, u 167, u 168, u 169, u 170, u 171, u 172, u 173, u 174, u 175, u 176, u 177, u 178, u 179, u 180, u 181, u 182, u 183, u 184, u 185, u 186, u 187, u 188, u 189, u 190, u 191, u 192, u 193, u 194, u 195, u 196, u 197, u 198, u 199, u 200, u 201, u 202, u 203, u 204, u 205, u 206, u 207, u 208, u 209, u 210, u 211, u 212, u 213, u 214, u 215, u 216, u 217, u 218, u 219, u 220, u 221, u 222, u 223], []⟩
theorem list_range {α : Type} (L : List α) (d : α) : L = (List.range L.length).map (fun i => L.getD i d) := by
  apply List.ext_getElem
  · simp
  · intro i h1 h2; simp [h1]
set_option maxRecDepth 100000 in
theorem fr_of (L : List Value) (h : L.length = 224) : (⟨L.toArray, []⟩ : Act) = fr (fun i => L.getD i undef) := by
  have e := list_range L undef
  rw [h] at e
  have e2 : (⟨L.toArray, []⟩ : Act) = ⟨((List.range 224).map (fun i => L.getD i undef)).toArray, []⟩ := congrArg (fun q => (⟨q.toArray, []⟩ : Act)) e
  exact e2.trans rfl
/-- What a frame holds in the loop. -/
structure EF (w : World) (H gu capu : Nat) (up : List Int) (s : ByteArray) (u : Nat → Value) : Prop where
  h1 : u 1 = .string s
  h3 : u 3 = .pointer (some ⟨w.heap.size, 0, none⟩)
  h7 : u 7 = .slice (some ⟨gu, 0, none⟩) up.length capu
  h8 : u 8 = .pointer (some ⟨H + 1, 0, none⟩)
  h10 : u 10 = .pointer (some ⟨H + 1 + 1 + 1 + 1, 0, none⟩)
  h11 : u 11 = .func (.func 76) #[] #[.pointer (some ⟨H + 1, 0, none⟩), .pointer (some ⟨w.heap.size, 0, none⟩), .pointer (some ⟨H + 1 + 1 + 1, 0, none⟩), .pointer (some ⟨H + 1 + 1 + 1 + 1, 0, none⟩)]
/-- What holds at the head of a round. -/
def EI (w : World) (H gu capu : Nat) (curu : Array Value) (A0 : Option Addr) (c0 : Nat) (l0 : List S55) (up : List Int) (s : ByteArray) (r : List Bool) (kq : Nat) (a : Act) (w' : World) : Prop :=
  ∃ u, a = fr u ∧ EF w H gu capu up s u ∧ ∃ (out seen : List Bool) (vw : Value) (wait : List S113), EW w' w.heap.size (H + 1) (H + 1 + 1 + 1) (H + 1 + 1 + 1 + 1) H (H + 1 + 1) l0.length (s.size + 1) (H + 1 + 1 + 1 + 1 + 1) A0 c0 out seen vw wait ∧ endsL l0 up s kq out (seen, wait) = some r ∧ Below w.heap.size w w' ∧ H + 1 + 1 + 1 + 1 + 1 ≤ w'.heap.size ∧ out.length = s.size + 1 ∧ w'.heap[gu]? = some (.cells curu 3 (0, 0))
/-- What holds behind the loop. -/
def EX (w : World) (H gu capu : Nat) (curu : Array Value) (A0 : Option Addr) (c0 : Nat) (l0 : List S55) (up : List Int) (s : ByteArray) (r : List Bool) (a : Act) (w' : World) : Prop :=
  ∃ u, a = fr u ∧ EF w H gu capu up s u ∧ w'.heap[H + 1]? = some (.cells #[.slice (some ⟨H, 0, none⟩) (s.size + 1) (s.size + 1)] 105 (0, 0)) ∧ w'.heap[H]? = some (boolsB r) ∧ r.length = s.size + 1 ∧ Below w.heap.size w w'
def EQ (w : World) (H gu capu : Nat) (curu : Array Value) (A0 : Option Addr) (c0 : Nat) (l0 : List S55) (up : List Int) (s : ByteArray) (r : List Bool) (e : Exit) (a : Act) (w' : World) : Prop :=
  match e with
  | .exit n => n = 0 ∧ EX w H gu capu curu A0 c0 l0 up s r a w'
  | _ => False
theorem EI.next (w : World) (H gu capu : Nat) (curu : Array Value) (A0 : Option Addr) (c0 : Nat) (l0 : List S55) (up : List Int) (s : ByteArray) (r : List Bool) (J : Nat → Act → World → Prop) (K : Act → World → Prop) (hJ : ∀ k a' w', EI w H gu capu curu A0 c0 l0 up s r k a' w' → J k a' w') (gk : Nat) (hK : ∀ a' w', Handed J (gk + 1) a' w' → K a' w') (L : List Value) (hL : L.length = 224) (hf : EF w H gu capu up s (fun i => L.getD i undef)) (w' : World) (out seen : List Bool) (vw : Value) (wait : List S113) (h1 : EW w' w.heap.size (H + 1) (H + 1 + 1 + 1) (H + 1 + 1 + 1 + 1) H (H + 1 + 1) l0.length (s.size + 1) (H + 1 + 1 + 1 + 1 + 1) A0 c0 out seen vw wait) (h2 : endsL l0 up s gk out (seen, wait) = some r) (h3 : Below w.heap.size w w') (h4 : H + 1 + 1 + 1 + 1 + 1 ≤ w'.heap.size) (h5 : out.length = s.size + 1) (h6 : w'.heap[gu]? = some (.cells curu 3 (0, 0))) : K ⟨L.toArray, []⟩ w' :=
  hK _ _ (Handed.intro gk (Nat.lt_succ_self _) (hJ _ _ _ ⟨_, fr_of L hL, hf, out, seen, vw, wait, h1, h2, h3, h4, h5, h6⟩))
set_option maxHeartbeats 8000000 in
set_option maxRecDepth 1000000 in
theorem ends_goes (w : World) (H gu capu : Nat) (curu : Array Value) (A0 : Option Addr) (c0 : Nat) (l0 : List S55) (up : List Int) (s : ByteArray) (r : List Bool) (hHw : w.heap.size < H) (hgu1 : w.heap.size + 1 ≤ gu) (hgu3 : gu < H) (hcu : ∀ i, i < up.length → curu[i]? = some (.int .i64 (up.getD i 0))) (hlu : up.length = l0.length) (hs : s.size ≤ 100000) (hl : l0.length ≤ 100000) (hrr : Kd.C k55 w A0 l0.length l0) (J : Nat → Act → World → Prop) (K : Act → World → Prop) (gk : Nat) (hJ : ∀ k a' w', EI w H gu capu curu A0 c0 l0 up s r k a' w' → J k a' w') (hK : ∀ a' w', Handed J (gk + 1) a' w' → K a' w') (wr : World) (u0 u2 u4 u5 u6 u9 u12 u13 u14 u15 u16 u17 u18 u19 u20 u21 u22 u23 u24 u25 u26 u27 u28 u29 u30 u31 u32 u33 u34 u35 u36 u37 u38 u39 u40 u41 u42 u43 u44 u45 u46 u47 u48 u49 u50 u51 u52 u53 u54 u55 u56 u57 u58 u59 u60 u61 u62 u63 u64 u65 u66 u67 u68 u69 u70 u71 u72 u73 u74 u75 u76 u77 u78 u79 u80 u81 u82 u83 u84 u85 u86 u87 u88 u89 u90 u91 u92 u93 u94 u95 u96 u97 u98 u99 u100 u101 u102 u103 u104 u105 u106 u107 u108 u109 u110 u111 u112 u113 u114 u115 u116 u117 u118 u119 u120 u121 u122 u123 u124 u125 u126 u127 u128 u129 u130 u131 u132 u133 u134 u135 u136 u137 u138 u139 u140 u141 u142 u143 u144 u145 u146 u147 u148 u149 u150 u151 u152 u153 u154 u155 u156 u157 u158 u159 u160 u161 u162 u163 u164 u165 u166 u167 u168 u169 u170 u171 u172 u173 u174 u175 u176 u177 u178 u179 u180 u181 u182 u183 u184 u185 u186 u187 u188 u189 u190 u191 u192 u193 u194 u195 u196 u197 u198 u199 u200 u201 u202 u203 u204 u205 u206 u207 u208 u209 u210 u211 u212 u213 u214 u215 u216 u217 u218 u219 u220 u221 u222 u223 : Value) (out seen : List Bool) (gw cap : Nat) (init : List S113) (j b : Nat) (ended : Bool)
    (hE : EW wr w.heap.size (H + 1) (H + 1 + 1 + 1) (H + 1 + 1 + 1 + 1) H (H + 1 + 1) l0.length (s.size + 1) (H + 1 + 1 + 1 + 1 + 1) A0 c0 out seen (.slice (some ⟨gw, 0, none⟩) (init.length + 1) cap) (init ++ [⟨j, ended, b⟩])) (hB : Below w.heap.size w wr) (hZ : H + 1 + 1 + 1 + 1 + 1 ≤ wr.heap.size) (hO : out.length = s.size + 1) (hU : wr.heap[gu]? = some (.cells curu 3 (0, 0)))
    (hL : (if ended = true ∧ up.getD j 0 < 0 then endsL l0 up s gk (out.set b true) (seen, init) else (movesL l0 up s ⟨(j : Int), ended, (b : Int)⟩).bind fun mv => (reachAll l0.length out.length mv (seen, init)).bind fun sw' => endsL l0 up s gk out sw') = some r)
    (g2 : (j : Int) < l0.length) (g4 : (b : Int) < out.length) (g5 : init.length + 1 ≤ 1000000) (hlw : init.length + 1 ≤ cap) (hgb : H + 1 + 1 + 1 + 1 + 1 ≤ gw) (hgwlt : gw < wr.heap.size)
    (cw0 : wr.cell? ⟨gw, init.length * 3, none⟩ = some (.int .i64 j)) (cw1 : wr.cell? ⟨gw, init.length * 3 + 1, none⟩ = some (.bool ended)) (cw2 : wr.cell? ⟨gw, init.length * 3 + 2, none⟩ = some (.int .i64 b)) :
    Code.wp Try.prog eloop (Exit.then K (EQ w H gu capu curu A0 c0 l0 up s r)) ⟨#[u0, .string s, u2, .pointer (some ⟨w.heap.size, 0, none⟩), u4, u5, u6, .slice (some ⟨gu, 0, none⟩) up.length capu, .pointer (some ⟨H + 1, 0, none⟩), u9, .pointer (some ⟨H + 1 + 1 + 1 + 1, 0, none⟩), .func (.func 76) #[] #[.pointer (some ⟨H + 1, 0, none⟩), .pointer (some ⟨w.heap.size, 0, none⟩), .pointer (some ⟨H + 1 + 1 + 1, 0, none⟩), .pointer (some ⟨H + 1 + 1 + 1 + 1, 0, none⟩)], u12, u13, u14, u15, u16, u17, u18, u19, u20, u21, u22, u23, u24, u25, u26, u27, u28, u29, u30, u31, u32, u33, u34, u35, u36, u37, u38, u39, u40, u41, u42, u43, u44, u45, u46, u47, u48, u49, u50, u51, u52, u53, u54, u55, u56, u57, u58, u59, u60, u61, u62, u63, u64, u65, u66, u67, u68, u69, u70, u71, u72, u73, u74, u75, u76, u77, u78, u79, u80, u81, u82, u83, u84, u85, u86, u87, u88, u89, u90, u91, u92, u93, u94, u95, u96, u97, u98, u99, u100, u101, u102, u103, u104, u105, u106, u107, u108, u109, u110, u111, u112, u113, u114, u115, u116, u117, u118, u119, u120, u121, u122, u123, u124, u125, u126, u127, u128, u129, u130, u131, u132, u133, u134, u135, u136, u137, u138, u139, u140, u141, u142, u143, u144, u145, u146, u147, u148, u149, u150, u151, u152, u153, u154, u155, u156, u157, u158, u159, u160, u161, u162, u163, u164, u165, u166, u167, u168, u169, u170, u171, u172, u173, u174, u175, u176, u177, u178, u179, u180, u181, u182, u183, u184, u185, u186, u187, u188, u189, u190, u191, u192, u193, u194, u195, u196, u197, u198, u199, u200, u201, u202, u203, u204, u205, u206, u207, u208, u209, u210, u211, u212, u213, u214, u215, u216, u217, u218, u219, u220, u221, u222, u223], []⟩ wr := by
  have HJ := Lib.hid hJ
  have HK := Lib.hid hK
  have HE := Aside0.mk hE
  have HB := Aside0.mk hB
  have HZ := Aside0.mk hZ
  have HO := Aside0.mk hO
  have HU := Aside0.mk hU
  have HLL := Lib.hid hL
  have HLU := Lib.hid hlu
  have HCU := Lib.hid hcu
  have HR := Lib.hid hrr
  have HA : Hid (Apart w.heap.size (H + 1) (H + 1 + 1 + 1) (H + 1 + 1 + 1 + 1) H (H + 1 + 1) (H + 1 + 1 + 1 + 1 + 1)) := Lib.hid ⟨by omega, by omega⟩
  have hne0 : (((init.length : Int) + 1) == 0) = false := by simp; omega
  have ct : wr.cell? ⟨w.heap.size, 0, none⟩ = some (.slice A0 l0.length c0) := (blk_cell hE.t 0).trans rfl
  have co : wr.cell? ⟨H + 1, 0, none⟩ = some (.slice (some ⟨H, 0, none⟩) (s.size + 1) (s.size + 1)) := (blk_cell hE.o 0).trans rfl
  have cs : wr.cell? ⟨H + 1 + 1 + 1, 0, none⟩ = some (.slice (some ⟨H + 1 + 1, 0, none⟩) seen.length seen.length) := (blk_cell hE.s 0).trans rfl
  have cq : wr.cell? ⟨H + 1 + 1 + 1 + 1, 0, none⟩ = some (.slice (some ⟨gw, 0, none⟩) (init.length + 1) cap) := (blk_cell hE.q 0).trans rfl
  have fq : wr.frozen? ⟨H + 1 + 1 + 1 + 1, 0, none⟩ = false := blk_frozen hE.q _
  have cu : wr.cell? ⟨gu, j, none⟩ = some (.int .i64 (up.getD j 0)) := (blk_cell HU.out j).trans (hcu j (by omega))
  obtain ⟨ad, hA0, t0, t1, t2, t3, t4, t5, t6⟩ := at_T55 (Kd.C_below HR.out HB.out) (j : Int) (by omega) g2
  have HA0 := Lib.hid hA0
  clear hE hA0 hcu hlu hJ hK hB hZ hO hU hL hrr
  conv => arg 2; whnf
  have cqa : ∀ X, (wr.alloc X).cell? ⟨H + 1 + 1 + 1 + 1, 0, none⟩ = some (.slice (some ⟨gw, 0, none⟩) (init.length + 1) cap) := fun X => (blk_cell (blk_alloc HE.out.q X) 0).trans rfl
  have fqa : ∀ X i, (wr.alloc X).frozen? ⟨H + 1 + 1 + 1 + 1, i, none⟩ = false := fun X i => blk_frozen (blk_alloc HE.out.q X) i
  go_wp2_with fail
  clear cqa fqa cq fq cw0 cw1 cw2 ct co cs cu hne0
  have HE3 := Lib.hid (EW.pop (x := ⟨(j : Int), ended, (b : Int)⟩) HE.out HA.out (.cells #[.int .i64 j, .bool ended, .int .i64 b] 113))
  have hx3 : ((wr.alloc (.cells #[.int .i64 j, .bool ended, .int .i64 b] 113)).setCell ⟨H + 1 + 1 + 1 + 1, 0, none⟩ (.slice (some ⟨gw, 0, none⟩) init.length cap)).heap[wr.heap.size]? = some (.cells #[.int .i64 j, .bool ended, .int .i64 b] 113 (0, 0)) := blk_far (blk_new wr _) (by have := HZ.out; show wr.heap.size ≠ H + 1 + 1 + 1 + 1; omega) _
  have hu3 : ((wr.alloc (.cells #[.int .i64 j, .bool ended, .int .i64 b] 113)).setCell ⟨H + 1 + 1 + 1 + 1, 0, none⟩ (.slice (some ⟨gw, 0, none⟩) init.length cap)).heap[gu]? = some (.cells curu 3 (0, 0)) := blk_far (blk_alloc HU.out _) (by show gu ≠ H + 1 + 1 + 1 + 1; omega) _
  have hb3 : Below w.heap.size w ((wr.alloc (.cells #[.int .i64 j, .bool ended, .int .i64 b] 113)).setCell ⟨H + 1 + 1 + 1 + 1, 0, none⟩ (.slice (some ⟨gw, 0, none⟩) init.length cap)) := ((HB.out.alloc (by have := HZ.out; omega) _).setCell (by show w.heap.size ≤ H + 1 + 1 + 1 + 1; omega) _)
  have hz3 : ((wr.alloc (.cells #[.int .i64 j, .bool ended, .int .i64 b] 113)).setCell ⟨H + 1 + 1 + 1 + 1, 0, none⟩ (.slice (some ⟨gw, 0, none⟩) init.length cap)).heap.size = wr.heap.size + 1 := by simp
  generalize (wr.alloc (.cells #[.int .i64 j, .bool ended, .int .i64 b] 113)).setCell ⟨H + 1 + 1 + 1 + 1, 0, none⟩ (.slice (some ⟨gw, 0, none⟩) init.length cap) = W3 at *
  have HZ3 := Lib.hid hz3
  obtain ⟨gx, hgx⟩ : ∃ gx, wr.heap.size = gx := ⟨_, rfl⟩
  rw [hgx] at hx3 HZ3 ⊢
  have hx0 : W3.cell? ⟨gx, 0, none⟩ = some (.int .i64 j) := (blk_cell hx3 0).trans rfl
  have hx1 : W3.cell? ⟨gx, 1, none⟩ = some (.bool ended) := (blk_cell hx3 1).trans rfl
  have hx2 : W3.cell? ⟨gx, 2, none⟩ = some (.int .i64 b) := (blk_cell hx3 2).trans rfl
  have ct : W3.cell? ⟨w.heap.size, 0, none⟩ = some (.slice A0 l0.length c0) := (blk_cell HE3.out.t 0).trans rfl
  have cu : W3.cell? ⟨gu, j, none⟩ = some (.int .i64 (up.getD j 0)) := (blk_cell hu3 j).trans (HCU.out j (by have := HLU.out; omega))
  clear t0 t1 t2 t3 t4 t5 t6 HA0 ad
  obtain ⟨ad, hA0, t0, t1, t2, t3, t4, t5, t6⟩ := at_T55 (Kd.C_below HR.out hb3) (j : Int) (by omega) g2
  rw [Int.toNat_natCast] at t0 t1 t2 t3 t4 t5 t6
  subst hA0
  have HX3 := Lib.hid hx3
  have HU3 := Lib.hid hu3
  have HB3 := Lib.hid hb3
  have hlu2 : (j : Int) < (up.length : Int) := by have := HLU.out; omega
  have lgu : gu < W3.heap.size := blk_lt hu3
  have lgt : w.heap.size < W3.heap.size := blk_lt HE3.out.t
  have lgx : gx < W3.heap.size := blk_lt hx3
  have lad : (ad.add (j * 7)).block < W3.heap.size := World.block_lt_of_cell? W3 _ t0
  have n1 : W3.heap.size ≠ gu := by omega
  have n2 : W3.heap.size ≠ w.heap.size := by omega
  have n3 : W3.heap.size ≠ gx := by omega
  have n4 : W3.heap.size ≠ (ad.add (j * 7)).block := by omega
  have m1 := n1.symm
  have m2 := n2.symm
  have m3 := n3.symm
  have m4 := n4.symm
  have q1 : ∀ X, (W3.alloc X).cell? ⟨gu, j, none⟩ = some (.int .i64 (up.getD j 0)) := fun X => (World.cell?_alloc_lt _ _ _ lgu).trans cu
  have q2 : ∀ X, (W3.alloc X).cell? ⟨w.heap.size, 0, none⟩ = some (.slice (some ad) l0.length c0) := fun X => (World.cell?_alloc_lt _ _ _ lgt).trans ct
  have q3 : ∀ X, (W3.alloc X).cell? ⟨gx, 0, none⟩ = some (.int .i64 j) := fun X => (World.cell?_alloc_lt _ _ _ lgx).trans hx0
  have p0 := fun X => (World.cell?_alloc_lt W3 X _ lad).trans t0
  have p1 := fun X => (World.cell?_alloc_lt W3 X ⟨(ad.add (j * 7)).block, (ad.add (j * 7)).off + 1, none⟩ lad).trans t1
  have p2 := fun X => (World.cell?_alloc_lt W3 X ⟨(ad.add (j * 7)).block, (ad.add (j * 7)).off + 2, none⟩ lad).trans t2
  have p3 := fun X => (World.cell?_alloc_lt W3 X ⟨(ad.add (j * 7)).block, (ad.add (j * 7)).off + 3, none⟩ lad).trans t3
  have p4 := fun X => (World.cell?_alloc_lt W3 X ⟨(ad.add (j * 7)).block, (ad.add (j * 7)).off + 4, none⟩ lad).trans t4
  have p5 := fun X => (World.cell?_alloc_lt W3 X ⟨(ad.add (j * 7)).block, (ad.add (j * 7)).off + 5, none⟩ lad).trans t5
  have p6 := fun X => (World.cell?_alloc_lt W3 X ⟨(ad.add (j * 7)).block, (ad.add (j * 7)).off + 6, none⟩ lad).trans t6
  clear hx3 hu3 hb3 lgu lgt lgx lad
  go_region
  clear q1 q2 q3 p0 p1 p2 p3 p4 p5 p6 n1 n2 n3 n4 m1 m2 m3 m4 t0 t1 t2 t3 t4 t5 t6 ct cu hx0 hx1 hx2
  have hz3 := HZ3.out
  have hrd : RD w (W3.alloc (.cells #[.int .i64 (rd_T55 l0 j).f0, .int .u64 (rd_T55 l0 j).f1.f0, .int .u64 (rd_T55 l0 j).f1.f1, .int .u64 (rd_T55 l0 j).f1.f2, .int .u64 (rd_T55 l0 j).f1.f3, .int .i64 (rd_T55 l0 j).f2.f0, .int .i64 (rd_T55 l0 j).f2.f1] 55)).drew
      w.heap.size (H + 1) (H + 1 + 1 + 1) (H + 1 + 1 + 1 + 1) H (H + 1 + 1) l0.length (s.size + 1) (H + 1 + 1 + 1 + 1 + 1) (some ad) c0 gu gx W3.heap.size curu j ended b (rd_T55 l0 j) out seen (.slice (some ⟨gw, 0, none⟩) init.length cap) init :=
    ⟨(HE3.out.alloc _).drew, (HB3.out.alloc (by have := HZ.out; omega) _).trans ⟨rfl, rfl, rfl, Nat.le_refl _, fun _ _ => rfl⟩, blk_drew (blk_alloc HX3.out _), blk_drew (blk_new W3 _), blk_drew (blk_alloc HU3.out _),
      by intro z; have := Option.some.inj z; simp at this; omega, by intro z; have := Option.some.inj z; simp at this; omega, by have := HZ.out; omega, by have := HZ.out; omega, by omega, ⟨by omega, by omega⟩, ⟨by omega, by omega, by omega⟩, by have := HZ.out; simp; omega⟩
  rw [hz3] at hrd
  (try rw [hz3])
  generalize (W3.alloc (.cells #[.int .i64 (rd_T55 l0 j).f0, .int .u64 (rd_T55 l0 j).f1.f0, .int .u64 (rd_T55 l0 j).f1.f1, .int .u64 (rd_T55 l0 j).f1.f2, .int .u64 (rd_T55 l0 j).f1.f3, .int .i64 (rd_T55 l0 j).f2.f0, .int .i64 (rd_T55 l0 j).f2.f1] 55)).drew = W4 at *
  have HRD := Lib.hid hrd
  clear hrd hz3
  obtain ⟨x0, x1, x2, y0, y1, y2, y3, y4, y5, y6, ct, cw⟩ := HRD.out.cells
  clear x0 x1 x2 y0 y1 y2 y3 y4 y5 y6 ct cw
  have hA := HA.out
  have hjn : (j : Int) < l0.length := g2
  have hbb : b < out.length := by omega
  have hL := HLL.out
  have hge : up.getD j 0 = up[j]?.getD 0 := List.getD_eq_getElem?_getD
  rw [hge] at hL
  obtain ⟨p, hp⟩ : ∃ p, up[j]?.getD 0 = p := ⟨_, rfl⟩
  rw [hp] at hL ⊢
  have HP := Lib.hid (hge.trans hp)
  clear hge hp
  have HR0 := HR
  clear hlu2
  go_upto_block 2 with (fail)
  by_cases hout : ended = true ∧ p < 0
  · rw [if_pos hout] at hL
    obtain ⟨rfl, hpn⟩ := hout
    have HL3 := Lib.hid hL
    clear hL
    refine sw_out _ _ _ _ _ _ _ _ _ _ _ _ _ _ _ _ _ _ _ _ _ _ _ _ _ _ _ _ _ _ _ _ _ _ _ _ _ _ _ _ _ _ _ _ _ _ _ _ _ _ _ _ _ _ _ _ _ _ _ _ _ _ _ _ _ _ _ _ _ _ _ _ _ _ _ _ _ _ _ _ _ _ _ _ _ _ _ _ _ _ _ _ _ _ _ _ _ _ _ _ _ _ _ _ _ _ _ _ _ _ _ _ _ _ _ _ _ _ _ _ _ _ _ _ _ _ _ _ _ _ _ _ _ _ _ _ _ _ _ _ _ _ _ _ _ _ _ _ _ _ _ _ _ _ _ _ _ _ _ _ _ _ _ _ _ _ _ _ _ _ _ _ _ _ _ _ _ _ _ _ _ _ _ _ _ _ _ _ _ _ _ _ _ _ _ _ _ _ _ _ _ _ _ _ _ _ _ _ _ _ _ _ _ _ _ _ _ s p w W4 _ _ _ _ _ _ _ _ _ _ _ gu gx _ curu j b _ out seen _ init HRD.out hA (by omega) ⟨by omega, by omega, by omega, by omega⟩ (decide_eq_true hpn) (by have := HO.out; omega) HO.out _ (fun v59 v60 v61 v62 v63 v64 v65 v66 v67 v68 v69 v70 v71 v72 v73 v74 v75 v76 v77 v78 v79 v80 v81 v82 v83 v84 v85 v86 v87 v88 v89 v90 v91 v92 v93 v94 v95 v96 v97 v98 v99 v100 v101 v102 v103 v104 v105 v106 v107 v108 v109 v110 v111 v112 v113 v114 v115 v116 v117 v118 v119 v120 v121 v122 v123 v124 v125 v126 v127 v128 v129 v130 v131 v132 v133 v134 v135 v136 v137 v138 v139 v140 v141 v142 v143 v144 v145 v146 v147 v148 v149 v150 v151 v152 v153 v154 v155 v156 v157 v158 v159 v160 v161 v162 v163 v164 v165 v166 v167 v168 v169 v170 v171 v172 v173 v174 v175 v176 v177 v178 v179 v180 v181 v182 v183 v184 v185 v186 v187 v188 v189 v190 v191 v192 v193 v194 v195 v196 v197 v198 v199 v200 v201 v202 v203 v204 v205 v206 v207 v208 v209 v210 v211 v212 v213 v214 v215 v216 v217 v218 v219 v220 v221 v222 W' vw' h => ?_)
    have HH := Lib.hid h
    clear h
    dsimp only
    go_wp2_with fail
    refine EI.next w H gu capu curu (some ad) c0 l0 up s r J K HJ.out gk HK.out _ (by rfl) ⟨rfl, rfl, rfl, rfl, rfl, rfl⟩ W' _ _ _ _ HH.out.ew HL3.out HH.out.bl HH.out.sz (by rw [List.length_set]; exact HO.out) HH.out.hu
  · rw [if_neg hout] at hL
    cases hmv : movesL l0 up s ⟨(j : Int), ended, (b : Int)⟩ with
    | none => rw [hmv] at hL; cases hL
    | some mv =>
    rw [hmv, Option.bind_some] at hL
    cases hra : reachAll l0.length out.length mv (seen, init) with
    | none => rw [hra] at hL; cases hL
    | some sw' =>
    obtain ⟨seen', wait'⟩ := sw'
    rw [hra, Option.bind_some] at hL
    have HL3 := Lib.hid hL
    rw [HO.out] at hra
    clear hL
    refine sw_all _ _ _ _ _ _ _ _ _ _ _ _ _ _ _ _ _ _ _ _ _ _ _ _ _ _ _ _ _ _ _ _ _ _ _ _ _ _ _ _ _ _ _ _ _ _ _ _ _ _ _ _ _ _ _ _ _ _ _ _ _ _ _ _ _ _ _ _ _ _ _ _ _ _ _ _ _ _ _ _ _ _ _ _ _ _ _ _ _ _ _ _ _ _ _ _ _ _ _ _ _ _ _ _ _ _ _ _ _ _ _ _ _ _ _ _ _ _ _ _ _ _ _ _ _ _ _ _ _ _ _ _ _ _ _ _ _ _ _ _ _ _ _ _ _ _ _ _ _ _ _ _ _ _ _ _ _ _ _ _ _ _ _ _ _ _ _ _ _ _ _ _ _ _ _ _ _ _ _ _ _ _ _ _ _ _ _ _ _ _ _ _ _ _ _ _ _ _ _ _ _ _ _ _ _ _ _ _ _ _ _ _ _ _ _ _ _ s p w W4 _ _ _ _ _ _ _ _ _ _ gu gx _ curu j b ended _ out seen seen' _ init wait' l0 up mv HRD.out hA HR0.out rfl HP.out.symm hout hjn (by have := HO.out; omega) hmv hra _ (fun v59 v60 v61 v62 v63 v64 v65 v66 v67 v68 v69 v70 v71 v72 v73 v74 v75 v76 v77 v78 v79 v80 v81 v82 v83 v84 v85 v86 v87 v88 v89 v90 v91 v92 v93 v94 v95 v96 v97 v98 v99 v100 v101 v102 v103 v104 v105 v106 v107 v108 v109 v110 v111 v112 v113 v114 v115 v116 v117 v118 v119 v120 v121 v122 v123 v124 v125 v126 v127 v128 v129 v130 v131 v132 v133 v134 v135 v136 v137 v138 v139 v140 v141 v142 v143 v144 v145 v146 v147 v148 v149 v150 v151 v152 v153 v154 v155 v156 v157 v158 v159 v160 v161 v162 v163 v164 v165 v166 v167 v168 v169 v170 v171 v172 v173 v174 v175 v176 v177 v178 v179 v180 v181 v182 v183 v184 v185 v186 v187 v188 v189 v190 v191 v192 v193 v194 v195 v196 v197 v198 v199 v200 v201 v202 v203 v204 v205 v206 v207 v208 v209 v210 v211 v212 v213 v214 v215 v216 v217 v218 v219 v220 v221 v222 W' vw' y' h => ?_)
    have HH := Lib.hid h
    clear h hmv hra
    dsimp only
    go_wp2_with fail
    refine EI.next w H gu capu curu (some ad) c0 l0 up s r J K HJ.out gk HK.out _ (by rfl) ⟨rfl, rfl, rfl, rfl, rfl, rfl⟩ W' _ _ _ _ HH.out.ew HL3.out HH.out.bl HH.out.sz HO.out HH.out.hu
set_option maxHeartbeats 8000000 in
set_option maxRecDepth 1000000 in
theorem ends_done (w : World) (H gu capu : Nat) (curu : Array Value) (A0 : Option Addr) (c0 : Nat) (l0 : List S55) (up : List Int) (s : ByteArray) (r : List Bool) (J : Nat → Act → World → Prop) (K : Act → World → Prop) (gk : Nat) (hJ : ∀ k a' w', EI w H gu capu curu A0 c0 l0 up s r k a' w' → J k a' w') (hK : ∀ a' w', Handed J (gk + 1) a' w' → K a' w') (wr : World) (u0 u2 u4 u5 u6 u9 u12 u13 u14 u15 u16 u17 u18 u19 u20 u21 u22 u23 u24 u25 u26 u27 u28 u29 u30 u31 u32 u33 u34 u35 u36 u37 u38 u39 u40 u41 u42 u43 u44 u45 u46 u47 u48 u49 u50 u51 u52 u53 u54 u55 u56 u57 u58 u59 u60 u61 u62 u63 u64 u65 u66 u67 u68 u69 u70 u71 u72 u73 u74 u75 u76 u77 u78 u79 u80 u81 u82 u83 u84 u85 u86 u87 u88 u89 u90 u91 u92 u93 u94 u95 u96 u97 u98 u99 u100 u101 u102 u103 u104 u105 u106 u107 u108 u109 u110 u111 u112 u113 u114 u115 u116 u117 u118 u119 u120 u121 u122 u123 u124 u125 u126 u127 u128 u129 u130 u131 u132 u133 u134 u135 u136 u137 u138 u139 u140 u141 u142 u143 u144 u145 u146 u147 u148 u149 u150 u151 u152 u153 u154 u155 u156 u157 u158 u159 u160 u161 u162 u163 u164 u165 u166 u167 u168 u169 u170 u171 u172 u173 u174 u175 u176 u177 u178 u179 u180 u181 u182 u183 u184 u185 u186 u187 u188 u189 u190 u191 u192 u193 u194 u195 u196 u197 u198 u199 u200 u201 u202 u203 u204 u205 u206 u207 u208 u209 u210 u211 u212 u213 u214 u215 u216 u217 u218 u219 u220 u221 u222 u223 : Value) (seen : List Bool) (q0 : Option Addr) (cap : Nat) (hE : EW wr w.heap.size (H + 1) (H + 1 + 1 + 1) (H + 1 + 1 + 1 + 1) H (H + 1 + 1) l0.length (s.size + 1) (H + 1 + 1 + 1 + 1 + 1) A0 c0 r seen (.slice q0 0 cap) []) (hB : Below w.heap.size w wr) (hO : r.length = s.size + 1) :
    Code.wp Try.prog eloop (Exit.then K (EQ w H gu capu curu A0 c0 l0 up s r)) ⟨#[u0, .string s, u2, .pointer (some ⟨w.heap.size, 0, none⟩), u4, u5, u6, .slice (some ⟨gu, 0, none⟩) up.length capu, .pointer (some ⟨H + 1, 0, none⟩), u9, .pointer (some ⟨H + 1 + 1 + 1 + 1, 0, none⟩), .func (.func 76) #[] #[.pointer (some ⟨H + 1, 0, none⟩), .pointer (some ⟨w.heap.size, 0, none⟩), .pointer (some ⟨H + 1 + 1 + 1, 0, none⟩), .pointer (some ⟨H + 1 + 1 + 1 + 1, 0, none⟩)], u12, u13, u14, u15, u16, u17, u18, u19, u20, u21, u22, u23, u24, u25, u26, u27, u28, u29, u30, u31, u32, u33, u34, u35, u36, u37, u38, u39, u40, u41, u42, u43, u44, u45, u46, u47, u48, u49, u50, u51, u52, u53, u54, u55, u56, u57, u58, u59, u60, u61, u62, u63, u64, u65, u66, u67, u68, u69, u70, u71, u72, u73, u74, u75, u76, u77, u78, u79, u80, u81, u82, u83, u84, u85, u86, u87, u88, u89, u90, u91, u92, u93, u94, u95, u96, u97, u98, u99, u100, u101, u102, u103, u104, u105, u106, u107, u108, u109, u110, u111, u112, u113, u114, u115, u116, u117, u118, u119, u120, u121, u122, u123, u124, u125, u126, u127, u128, u129, u130, u131, u132, u133, u134, u135, u136, u137, u138, u139, u140, u141, u142, u143, u144, u145, u146, u147, u148, u149, u150, u151, u152, u153, u154, u155, u156, u157, u158, u159, u160, u161, u162, u163, u164, u165, u166, u167, u168, u169, u170, u171, u172, u173, u174, u175, u176, u177, u178, u179, u180, u181, u182, u183, u184, u185, u186, u187, u188, u189, u190, u191, u192, u193, u194, u195, u196, u197, u198, u199, u200, u201, u202, u203, u204, u205, u206, u207, u208, u209, u210, u211, u212, u213, u214, u215, u216, u217, u218, u219, u220, u221, u222, u223], []⟩ wr := by
  have cq : wr.cell? ⟨H + 1 + 1 + 1 + 1, 0, none⟩ = some (.slice q0 0 cap) := (blk_cell hE.q 0).trans rfl
  have HE := Lib.hid hE
  have HB := Lib.hid hB
  have HO := Lib.hid hO
  have HJ := Lib.hid hJ
  have HK := Lib.hid hK
  clear hE hB hO hJ hK
  conv => arg 2; whnf
  go_wp2_with fail
  refine ⟨rfl, _, fr_of _ (by rfl), ⟨rfl, rfl, rfl, rfl, rfl, rfl⟩, HE.out.o, HE.out.ro, HO.out, HB.out⟩
set_option maxHeartbeats 8000000 in
set_option maxRecDepth 1000000 in
theorem ends_round (w : World) (H gu capu : Nat) (curu : Array Value) (A0 : Option Addr) (c0 : Nat) (l0 : List S55) (up : List Int) (s : ByteArray) (r : List Bool) (hHw : w.heap.size < H) (hgu1 : w.heap.size + 1 ≤ gu) (hgu3 : gu < H) (hcu : ∀ i, i < up.length → curu[i]? = some (.int .i64 (up.getD i 0))) (hlu : up.length = l0.length) (hs : s.size ≤ 100000) (hl : l0.length ≤ 100000) (hrr : Kd.C k55 w A0 l0.length l0) (J : Nat → Act → World → Prop) (K : Act → World → Prop) (k : Nat) (hJ : ∀ k a' w', EI w H gu capu curu A0 c0 l0 up s r k a' w' → J k a' w') (hK : ∀ a' w', Handed J k a' w' → K a' w') (a : Act) (wr : World) (hI : EI w H gu capu curu A0 c0 l0 up s r k a wr) :
    Code.wp Try.prog eloop (Exit.then K (EQ w H gu capu curu A0 c0 l0 up s r)) a wr := by
  obtain ⟨u, rfl, ⟨h1, h3, h7, h8, h10, h11⟩, out, seen, vw, wait, hE, hL, hB, hZ, hO, hU⟩ := hI
  unfold fr
  rw [h1, h3, h7, h8, h10, h11]
  cases k with
  | zero => simp only [endsL] at hL; cases hL
  | succ gk =>
  cases hgl : wait.getLast? with
  | none =>
    have hw0 : wait = [] := List.getLast?_eq_none_iff.1 hgl
    subst hw0
    simp only [endsL, hgl] at hL
    obtain rfl := Option.some.inj hL
    obtain ⟨q0, cap, rfl⟩ : ∃ q0 cap, vw = .slice q0 0 cap := by
      have h := hE.w.2
      rcases h with ⟨h, _⟩ | ⟨g, cap, cur, h, _⟩
      · exact ⟨_, _, h⟩
      · exact ⟨_, _, h⟩
    exact ends_done w H gu capu curu A0 c0 l0 up s out J K gk hJ hK wr (u 0) (u 2) (u 4) (u 5) (u 6) (u 9) (u 12) (u 13) (u 14) (u 15) (u 16) (u 17) (u 18) (u 19) (u 20) (u 21) (u 22) (u 23) (u 24) (u 25) (u 26) (u 27) (u 28) (u 29) (u 30) (u 31) (u 32) (u 33) (u 34) (u 35) (u 36) (u 37) (u 38) (u 39) (u 40) (u 41) (u 42) (u 43) (u 44) (u 45) (u 46) (u 47) (u 48) (u 49) (u 50) (u 51) (u 52) (u 53) (u 54) (u 55) (u 56) (u 57) (u 58) (u 59) (u 60) (u 61) (u 62) (u 63) (u 64) (u 65) (u 66) (u 67) (u 68) (u 69) (u 70) (u 71) (u 72) (u 73) (u 74) (u 75) (u 76) (u 77) (u 78) (u 79) (u 80) (u 81) (u 82) (u 83) (u 84) (u 85) (u 86) (u 87) (u 88) (u 89) (u 90) (u 91) (u 92) (u 93) (u 94) (u 95) (u 96) (u 97) (u 98) (u 99) (u 100) (u 101) (u 102) (u 103) (u 104) (u 105) (u 106) (u 107) (u 108) (u 109) (u 110) (u 111) (u 112) (u 113) (u 114) (u 115) (u 116) (u 117) (u 118) (u 119) (u 120) (u 121) (u 122) (u 123) (u 124) (u 125) (u 126) (u 127) (u 128) (u 129) (u 130) (u 131) (u 132) (u 133) (u 134) (u 135) (u 136) (u 137) (u 138) (u 139) (u 140) (u 141) (u 142) (u 143) (u 144) (u 145) (u 146) (u 147) (u 148) (u 149) (u 150) (u 151) (u 152) (u 153) (u 154) (u 155) (u 156) (u 157) (u 158) (u 159) (u 160) (u 161) (u 162) (u 163) (u 164) (u 165) (u 166) (u 167) (u 168) (u 169) (u 170) (u 171) (u 172) (u 173) (u 174) (u 175) (u 176) (u 177) (u 178) (u 179) (u 180) (u 181) (u 182) (u 183) (u 184) (u 185) (u 186) (u 187) (u 188) (u 189) (u 190) (u 191) (u 192) (u 193) (u 194) (u 195) (u 196) (u 197) (u 198) (u 199) (u 200) (u 201) (u 202) (u 203) (u 204) (u 205) (u 206) (u 207) (u 208) (u 209) (u 210) (u 211) (u 212) (u 213) (u 214) (u 215) (u 216) (u 217) (u 218) (u 219) (u 220) (u 221) (u 222) (u 223) seen q0 cap hE hB hO
  | some x =>
    obtain ⟨init, rfl⟩ := List.getLast?_eq_some_iff.1 hgl
    simp only [endsL, hgl, List.dropLast_concat] at hL
    by_cases hg : 0 ≤ x.node ∧ x.node < l0.length ∧ 0 ≤ x.at_ ∧ x.at_ < out.length ∧ (init ++ [x]).length ≤ 1000000
    case neg => rw [if_neg hg] at hL; cases hL
    rw [if_pos hg] at hL
    obtain ⟨g1, g2, g3, g4, g5⟩ := hg
    have g6 : init.length + 1 ≤ 1000000 := by simpa using g5
    obtain ⟨node, ended, at_⟩ := x
    dsimp only at g1 g2 g3 g4 hL
    obtain ⟨j, rfl⟩ := Int.eq_ofNat_of_zero_le g1
    obtain ⟨b, rfl⟩ := Int.eq_ofNat_of_zero_le g3
    rw [Int.toNat_natCast, Int.toNat_natCast] at hL
    obtain ⟨gw, cap, hvw, hlw, hgb, cw0, cw1, cw2⟩ := own_last hE.w
    subst hvw
    have hgwlt : gw < wr.heap.size := (hE.w.lt gw rfl).2
    exact ends_goes w H gu capu curu A0 c0 l0 up s r hHw hgu1 hgu3 hcu hlu hs hl hrr J K gk hJ hK wr (u 0) (u 2) (u 4) (u 5) (u 6) (u 9) (u 12) (u 13) (u 14) (u 15) (u 16) (u 17) (u 18) (u 19) (u 20) (u 21) (u 22) (u 23) (u 24) (u 25) (u 26) (u 27) (u 28) (u 29) (u 30) (u 31) (u 32) (u 33) (u 34) (u 35) (u 36) (u 37) (u 38) (u 39) (u 40) (u 41) (u 42) (u 43) (u 44) (u 45) (u 46) (u 47) (u 48) (u 49) (u 50) (u 51) (u 52) (u 53) (u 54) (u 55) (u 56) (u 57) (u 58) (u 59) (u 60) (u 61) (u 62) (u 63) (u 64) (u 65) (u 66) (u 67) (u 68) (u 69) (u 70) (u 71) (u 72) (u 73) (u 74) (u 75) (u 76) (u 77) (u 78) (u 79) (u 80) (u 81) (u 82) (u 83) (u 84) (u 85) (u 86) (u 87) (u 88) (u 89) (u 90) (u 91) (u 92) (u 93) (u 94) (u 95) (u 96) (u 97) (u 98) (u 99) (u 100) (u 101) (u 102) (u 103) (u 104) (u 105) (u 106) (u 107) (u 108) (u 109) (u 110) (u 111) (u 112) (u 113) (u 114) (u 115) (u 116) (u 117) (u 118) (u 119) (u 120) (u 121) (u 122) (u 123) (u 124) (u 125) (u 126) (u 127) (u 128) (u 129) (u 130) (u 131) (u 132) (u 133) (u 134) (u 135) (u 136) (u 137) (u 138) (u 139) (u 140) (u 141) (u 142) (u 143) (u 144) (u 145) (u 146) (u 147) (u 148) (u 149) (u 150) (u 151) (u 152) (u 153) (u 154) (u 155) (u 156) (u 157) (u 158) (u 159) (u 160) (u 161) (u 162) (u 163) (u 164) (u 165) (u 166) (u 167) (u 168) (u 169) (u 170) (u 171) (u 172) (u 173) (u 174) (u 175) (u 176) (u 177) (u 178) (u 179) (u 180) (u 181) (u 182) (u 183) (u 184) (u 185) (u 186) (u 187) (u 188) (u 189) (u 190) (u 191) (u 192) (u 193) (u 194) (u 195) (u 196) (u 197) (u 198) (u 199) (u 200) (u 201) (u 202) (u 203) (u 204) (u 205) (u 206) (u 207) (u 208) (u 209) (u 210) (u 211) (u 212) (u 213) (u 214) (u 215) (u 216) (u 217) (u 218) (u 219) (u 220) (u 221) (u 222) (u 223) out seen gw cap init j b ended hE hB hZ hO hU hL g2 g4 g6 hlw hgb hgwlt cw0 cw1 cw2
theorem ends_loop (w : World) (H gu capu : Nat) (curu : Array Value) (A0 : Option Addr) (c0 : Nat) (l0 : List S55) (up : List Int) (s : ByteArray) (r : List Bool) (hHw : w.heap.size < H) (hgu1 : w.heap.size + 1 ≤ gu) (hgu3 : gu < H) (hcu : ∀ i, i < up.length → curu[i]? = some (.int .i64 (up.getD i 0))) (hlu : up.length = l0.length) (hs : s.size ≤ 100000) (hl : l0.length ≤ 100000) (hrr : Kd.C k55 w A0 l0.length l0) (k : Nat) (a : Act) (wr : World) (hI : EI w H gu capu curu A0 c0 l0 up s r k a wr) (Q : Exit → Act → World → Prop) (hQ : ∀ a' w', EX w H gu capu curu A0 c0 l0 up s r a' w' → Q (.exit 0) a' w') :
    Code.wp Try.prog (Code.loop eloop) Q a wr := by
  refine wp_mono (Q := EQ w H gu capu curu A0 c0 l0 up s r) (wp_loop_ghost_k (EI w H gu capu curu A0 c0 l0 up s r) k hI ?_) ?_
  · intro n a w' h J K hJ hK
    exact ends_round w H gu capu curu A0 c0 l0 up s r hHw hgu1 hgu3 hcu hlu hs hl hrr J K n hJ hK a w' h
  · intro e a' w' h
    cases e with
    | exit n => obtain ⟨rfl, h⟩ := h; exact hQ _ _ h
    | _ => cases h
end Go.Proofs.Ythnfmpieoondaaa.G
