/- match.ends: what it computes, and how all lies in a round. -/
import Derived.Test.YthnfmpieoondaaaJGBC
import Derived.Test.YthnfmpieoondaaaJGA
import Derived.WalkMore
set_option linter.unusedVariables false
set_option linter.unusedSimpArgs false
namespace Go.Proofs.Ythnfmpieoondaaa.G
open Go.RowKit Go.Proofs.YthnfmpieoondaaaW.PrintWords Go.Proofs.YthnfmpieoondaaaW.PrintLast Go.Proofs.YthnfmpieoondaaaW.PrintMore Go.Proofs.Ythnfmpieoondaaa.QA
theorem info4 : (Try.prog.info? 4).map (fun i => (i.zero, i.size, i.bytes)) = some (some (.bool false), 1, 1) := by kernel_rfl
theorem made_bools (m : Nat) : madeCells #[Value.bool false] m = ((List.replicate m false).map Value.bool).toArray := by
  apply Array.ext'
  simp [madeCells, Nat.mod_one]
  rw [List.eq_replicate_iff]
  exact ⟨by simp, fun b hb => by simp at hb; exact hb.2.symm⟩
theorem mk_bools (x : Int) (m : Nat) (hx : x = (m : Int)) (hm : m ≤ 16000000) (W : World) : (Instr.makeSlice 105 (.int .i64 x) (.int .i64 x)).run Try.prog W = .ok (.slice (some ⟨W.heap.size, 0, none⟩) m m) (W.alloc (boolsB (List.replicate m false))) := by
  subst hx
  obtain ⟨i, hi, hz, hs, hb⟩ := info_parts info4
  have h := run_makeSlice (P := Try.prog) W 105 4 i (.bool false) Try.underlying105 hi hz .i64 .i64 (m : Int) (m : Int) (by omega) (by omega) (by rw [hs]; omega) (by rw [hb]; omega) (by omega)
  rw [hs, Nat.mul_one, Int.toNat_natCast, show (Value.bool false).cells = #[Value.bool false] from rfl, made_bools] at h
  exact h
theorem Mov.below {W W' : World} {rs bw B : Nat} {own : Option Nat} (h : Mov W W' rs bw own) (h1 : B ≤ rs) (h2 : B ≤ bw) (h3 : ∀ g, own = some g → B ≤ g) (hB : B ≤ W.heap.size := by omega) : Below B W W' :=
  ⟨h.os, h.tape, h.output, h.size, fun k hk => h.block k (by omega) (by omega) (by omega) (fun z => by have := h3 k z.symm; omega)⟩
/-- The last of those that wait, read and taken away. -/
theorem own_pop {W : World} {base : Nat} {gw cap : Nat} {init : List S113} {x : S113} (h : W.ownsRow base 113 3 (.slice (some ⟨gw, 0, none⟩) (init.length + 1) cap) (init.length + 1) (encW (init ++ [x]))) :
    W.ownsRow base 113 3 (.slice (some ⟨gw, 0, none⟩) init.length cap) init.length (encW init) := by
  obtain ⟨h1, h2⟩ := h
  refine ⟨encW_length init, ?_⟩
  rcases h2 with ⟨h2, _⟩ | ⟨g, cap', cur, hv, hb, hg, hn, hc, hs, ht⟩
  · cases h2
  · obtain ⟨rfl, rfl⟩ : gw = g ∧ cap = cap' := by simpa using hv
    refine .inr ⟨gw, cap, cur, rfl, hb, hg, by omega, hc, hs, ?_⟩
    have e : encW (init ++ [x]) = encW init ++ x.enc := by unfold encW; simp
    rw [e] at ht
    have := congrArg (List.take (init.length * 3)) ht
    rw [List.take_take, Nat.min_eq_left (by omega), ← encW_length init, List.take_left] at this
    rw [← encW_length init]; exact this
theorem own_last {W : World} {base : Nat} {v : Value} {init : List S113} {x : S113} (h : W.ownsRow base 113 3 v (init ++ [x]).length (encW (init ++ [x]))) :
    ∃ gw cap, v = .slice (some ⟨gw, 0, none⟩) (init.length + 1) cap ∧ init.length + 1 ≤ cap ∧ base ≤ gw ∧ (W.cell? ⟨gw, init.length * 3, none⟩ = some (.int .i64 x.node) ∧ W.cell? ⟨gw, init.length * 3 + 1, none⟩ = some (.bool x.ended) ∧ W.cell? ⟨gw, init.length * 3 + 2, none⟩ = some (.int .i64 x.at_)) := by
  have hl : (init ++ [x]).length = init.length + 1 := by simp
  rw [hl] at h
  have h2 := h.2
  rcases h2 with ⟨_, h2⟩ | ⟨g, cap, cur, rfl, hb, hg, hn, hcm, hs, ht⟩
  · omega
  · refine ⟨g, cap, rfl, hn, hb, ?_⟩
    have e : encW (init ++ [x]) = encW init ++ x.enc := by unfold encW; simp
    have hL := encW_length init
    have key : ∀ i u, x.enc[i]? = some u → W.cell? ⟨g, init.length * 3 + i, none⟩ = some u := by
      intro i u hu
      have := h.cells (g := g) rfl (init.length * 3 + i) u (by rw [e, List.getElem?_append_right (by omega), hL, Nat.add_sub_cancel_left]; exact hu)
      have hadd : (⟨g, 0, none⟩ : Addr).add (init.length * 3 + i) = ⟨g, init.length * 3 + i, none⟩ := by unfold Addr.add; split <;> simp_all
      rwa [hadd] at this
    exact ⟨key 0 _ rfl, key 1 _ rfl, key 2 _ rfl⟩
theorem EW.pop {W : World} {bt bo bs bw ro rs n m base : Nat} {A0 : Option Addr} {c0 : Nat} {out seen : List Bool} {gw cap : Nat} {init : List S113} {x : S113} (hE : EW W bt bo bs bw ro rs n m base A0 c0 out seen (.slice (some ⟨gw, 0, none⟩) (init.length + 1) cap) (init ++ [x]))
    (hA : Apart bt bo bs bw ro rs base) (o : Obj) : EW ((W.alloc o).setCell ⟨bw, 0, none⟩ (.slice (some ⟨gw, 0, none⟩) init.length cap)) bt bo bs bw ro rs n m base A0 c0 out seen (.slice (some ⟨gw, 0, none⟩) init.length cap) init := by
  obtain ⟨b1, b2, b3, b4, b5, b6⟩ := hA.hb
  obtain ⟨d1, d2, d3, d4, d5, d6, d7, d8, d9⟩ := hA.hd
  have hw := hE.w
  rw [show (init ++ [x]).length = init.length + 1 by simp] at hw
  have hw2 := (own_pop hw).alloc o
  exact ⟨blk_far (blk_alloc hE.t o) d1 _, blk_far (blk_alloc hE.o o) d2 _, blk_far (blk_alloc hE.s o) d3 _, blk_set (blk_alloc hE.q o) 0 _, blk_far (blk_alloc hE.ro o) d9 _, blk_far (blk_alloc hE.rs o) d7.symm _,
    hw2.kept (grown_set _ bw 0 _) (.inr (not_row hw2 b4))⟩
/-- The calls that follow where a node begins, or has ended, at a place. -/
def movesL (l : List S55) (up : List Int) (s : ByteArray) (x : S113) : Option (List (Int × Bool × Int)) :=
  if x.ended = true then
    let p := up.getD x.node.toNat 0
    if 0 ≤ p ∧ p < l.length then
      let y := rd_T55 l p
      if y.f0 = 4 ∨ y.f0 = 5 then some [(p, true, x.at_), (x.node, false, x.at_)]
      else if y.f0 = 2 then (if y.f2.f0 = x.node then some [(y.f2.f1, false, x.at_)] else some [(p, true, x.at_)])
      else some [(p, true, x.at_)]
    else none
  else
    let y := rd_T55 l x.node
    if y.f0 = 0 ∨ (y.f0 = 7 ∧ x.at_ = 0) ∨ (y.f0 = 8 ∧ x.at_ = (s.size : Int)) then some [(x.node, true, x.at_)]
    else if y.f0 = 1 then (if x.at_ < (s.size : Int) then (class_Has.f y.f1.f0 y.f1.f1 y.f1.f2 y.f1.f3 (bt s x.at_)).bind fun h => some (if h = true then [(x.node, true, x.at_ + 1)] else []) else some [])
    else if y.f0 = 2 ∨ y.f0 = 5 then some [(y.f2.f0, false, x.at_)]
    else if y.f0 = 3 then some [(y.f2.f0, false, x.at_), (y.f2.f1, false, x.at_)]
    else if y.f0 = 4 ∨ y.f0 = 6 then some [(x.node, true, x.at_), (y.f2.f0, false, x.at_)]
    else some []
def reachAll (n m : Nat) : List (Int × Bool × Int) → List Bool × List S113 → Option (List Bool × List S113)
  | [], sw => some sw
  | (a, b, c) :: r, sw => (reachP n m sw a b c).bind (reachAll n m r)
/-- match.ends' loop. -/
def endsL (l : List S55) (up : List Int) (s : ByteArray) : Nat → List Bool → List Bool × List S113 → Option (List Bool)
  | 0, _, _ => none
  | k + 1, out, sw => match sw.2.getLast? with
    | none => some out
    | some x => if 0 ≤ x.node ∧ x.node < l.length ∧ 0 ≤ x.at_ ∧ x.at_ < out.length ∧ sw.2.length ≤ 1000000 then
        (if x.ended = true ∧ up.getD x.node.toNat 0 < 0 then endsL l up s k (out.set x.at_.toNat true) (sw.1, sw.2.dropLast)
         else (movesL l up s x).bind fun mv => (reachAll l.length out.length mv (sw.1, sw.2.dropLast)).bind fun sw' => endsL l up s k out sw')
      else none

theorem EW.alloc {W : World} {bt bo bs bw ro rs n m base : Nat} {A0 : Option Addr} {c0 : Nat} {out seen : List Bool} {vw : Value} {wait : List S113} (h : EW W bt bo bs bw ro rs n m base A0 c0 out seen vw wait) (o : Obj) : EW (W.alloc o) bt bo bs bw ro rs n m base A0 c0 out seen vw wait :=
  ⟨blk_alloc h.t o, blk_alloc h.o o, blk_alloc h.s o, blk_alloc h.q o, blk_alloc h.ro o, blk_alloc h.rs o, h.w.alloc o⟩
theorem EW.drew {W : World} {bt bo bs bw ro rs n m base : Nat} {A0 : Option Addr} {c0 : Nat} {out seen : List Bool} {vw : Value} {wait : List S113} (h : EW W bt bo bs bw ro rs n m base A0 c0 out seen vw wait) : EW W.drew bt bo bs bw ro rs n m base A0 c0 out seen vw wait :=
  ⟨h.t, h.o, h.s, h.q, h.ro, h.rs, h.w⟩
def yCells (y : S55) : Array Value := #[.int .i64 y.f0, .int .u64 y.f1.f0, .int .u64 y.f1.f1, .int .u64 y.f1.f2, .int .u64 y.f1.f3, .int .i64 y.f2.f0, .int .i64 y.f2.f1]
/-- How all lies in the midst of a round. -/
structure RD (w0 W : World) (bt bo bs bw ro rs n m base : Nat) (A0 : Option Addr) (c0 : Nat) (gu gx gn : Nat) (cu : Array Value) (j : Int) (e : Bool) (b : Int) (y : S55) (out seen : List Bool) (vw : Value) (wait : List S113) : Prop where
  ew : EW W bt bo bs bw ro rs n m base A0 c0 out seen vw wait
  bl : Below w0.heap.size w0 W
  hx : W.heap[gx]? = some (.cells #[.int .i64 j, .bool e, .int .i64 b] 113 (0, 0))
  hn : W.heap[gn]? = some (.cells (yCells y) 55 (0, 0))
  hu : W.heap[gu]? = some (.cells cu 3 (0, 0))
  ox : vw.ownBlock ≠ some gx
  on : vw.ownBlock ≠ some gn
  bx : base ≤ gx
  bn : base ≤ gn
  bu : gu < base
  nu : gu ≠ rs ∧ gu ≠ bw
  b0 : w0.heap.size ≤ rs ∧ w0.heap.size ≤ bw ∧ w0.heap.size ≤ base
  sz : base ≤ W.heap.size
theorem RD.move {w0 W W' : World} {bt bo bs bw ro rs n m base : Nat} {A0 : Option Addr} {c0 : Nat} {gu gx gn : Nat} {cu : Array Value} {j : Int} {e : Bool} {b : Int} {y : S55} {out seen seen' : List Bool} {vw vw' : Value} {wait wait' : List S113}
    (h : RD w0 W bt bo bs bw ro rs n m base A0 c0 gu gx gn cu j e b y out seen vw wait) (hA : Apart bt bo bs bw ro rs base) (h1 : EW W' bt bo bs bw ro rs n m base A0 c0 out seen' vw' wait') (h2 : Mov W W' rs bw vw.ownBlock) (h3 : vw'.ownBlock = vw.ownBlock ∨ ∃ g, vw'.ownBlock = some g ∧ W.heap.size ≤ g) :
    RD w0 W' bt bo bs bw ro rs n m base A0 c0 gu gx gn cu j e b y out seen' vw' wait' := by
  have lx := blk_lt h.hx
  have ln := blk_lt h.hn
  have lu := blk_lt h.hu
  have hb := hA.hb
  have nr := fun {g : Nat} (hg : g < base) => (not_row h.ew.w hg)
  have b0 := h.b0
  refine ⟨h1, h.bl.trans (h2.below b0.1 b0.2.1 (fun g hg => by have := (h.ew.w.lt g hg).1; omega) (by have := h.sz; omega)), (h2.block gx lx (by have := h.bx; omega) (by have := h.bx; omega) h.ox.symm).trans h.hx, (h2.block gn ln (by have := h.bn; omega) (by have := h.bn; omega) h.on.symm).trans h.hn,
    (h2.block gu lu h.nu.1 h.nu.2 (nr h.bu).symm).trans h.hu, ?_, ?_, h.bx, h.bn, h.bu, h.nu, b0, Nat.le_trans h.sz h2.size⟩
  · rcases h3 with z | ⟨g, z, hg⟩
    · rw [z]; exact h.ox
    · rw [z]; intro q; have := Option.some.inj q; omega
  · rcases h3 with z | ⟨g, z, hg⟩
    · rw [z]; exact h.on
    · rw [z]; intro q; have := Option.some.inj q; omega
theorem reach_rd {w0 W : World} {bt bo bs bw ro rs n m base : Nat} {A0 : Option Addr} {c0 : Nat} {gu gx gn : Nat} {cu : Array Value} {j : Int} {e : Bool} {b : Int} {y : S55} {out seen : List Bool} {vw : Value} {wait : List S113}
    (h : RD w0 W bt bo bs bw ro rs n m base A0 c0 gu gx gn cu j e b y out seen vw wait) (hA : Apart bt bo bs bw ro rs base) (node at_ : Int) (ended : Bool) (seen' : List Bool) (wait' : List S113) (hr : reachP n m (seen, wait) node ended at_ = some (seen', wait')) :
    Calls Try.prog 76 #[.int .i64 node, .bool ended, .int .i64 at_, .pointer (some ⟨bo, 0, none⟩), .pointer (some ⟨bt, 0, none⟩), .pointer (some ⟨bs, 0, none⟩), .pointer (some ⟨bw, 0, none⟩)] W fun x W' => x = .returned (.tuple #[]) ∧
      ∃ vw', RD w0 W' bt bo bs bw ro rs n m base A0 c0 gu gx gn cu j e b y out seen' vw' wait' := by
  refine (reach_calls node at_ ended n m bt bo bs bw ro rs base A0 c0 out seen seen' vw wait wait' W h.ew hA h.sz hr).mono ?_
  rintro x W' ⟨rfl, vw', h1, h2, h3⟩
  exact ⟨rfl, vw', h.move hA h1 h2 h3⟩
/-- What a round's walk reads. -/
theorem RD.cells {w0 W : World} {bt bo bs bw ro rs n m base : Nat} {A0 : Option Addr} {c0 : Nat} {gu gx gn : Nat} {cu : Array Value} {j : Int} {e : Bool} {b : Int} {y : S55} {out seen : List Bool} {vw : Value} {wait : List S113}
    (h : RD w0 W bt bo bs bw ro rs n m base A0 c0 gu gx gn cu j e b y out seen vw wait) :
    W.cell? ⟨gx, 0, none⟩ = some (.int .i64 j) ∧ W.cell? ⟨gx, 1, none⟩ = some (.bool e) ∧ W.cell? ⟨gx, 2, none⟩ = some (.int .i64 b) ∧ W.cell? ⟨gn, 0, none⟩ = some (.int .i64 y.f0) ∧ W.cell? ⟨gn, 1, none⟩ = some (.int .u64 y.f1.f0) ∧ W.cell? ⟨gn, 2, none⟩ = some (.int .u64 y.f1.f1) ∧ W.cell? ⟨gn, 3, none⟩ = some (.int .u64 y.f1.f2) ∧ W.cell? ⟨gn, 4, none⟩ = some (.int .u64 y.f1.f3) ∧ W.cell? ⟨gn, 5, none⟩ = some (.int .i64 y.f2.f0) ∧ W.cell? ⟨gn, 6, none⟩ = some (.int .i64 y.f2.f1) ∧ W.cell? ⟨bt, 0, none⟩ = some (.slice A0 n c0) ∧ W.cell? ⟨bw, 0, none⟩ = some vw :=
  ⟨(blk_cell h.hx 0).trans rfl, (blk_cell h.hx 1).trans rfl, (blk_cell h.hx 2).trans rfl, (blk_cell h.hn 0).trans rfl, (blk_cell h.hn 1).trans rfl, (blk_cell h.hn 2).trans rfl, (blk_cell h.hn 3).trans rfl, (blk_cell h.hn 4).trans rfl, (blk_cell h.hn 5).trans rfl, (blk_cell h.hn 6).trans rfl, (blk_cell h.ew.t 0).trans rfl, (blk_cell h.ew.q 0).trans rfl⟩
end Go.Proofs.Ythnfmpieoondaaa.G
