/- Texts of this seat, put together: each part tells above it what it proves and on what conditions. -/
import Derived.Test.YthnfmpieoondaaaJQAx
import Derived.Deep.AppendLies
import Derived.Lib.Hide
/- match.ends' inner function, walked. -/
section
set_option linter.unusedVariables false
set_option linter.unusedSimpArgs false
namespace Go.Proofs.Ythnfmpieoondaaa.G
open Go.RowKit Go.Proofs.YthnfmpieoondaaaW.PrintWords Go.Proofs.YthnfmpieoondaaaW.PrintLast Go.Proofs.YthnfmpieoondaaaW.PrintMore Go.Proofs.Ythnfmpieoondaaa.QA
structure S113 where
  node : Int
  ended : Bool
  at_ : Int
def S113.enc (x : S113) : List Value := [.int .i64 x.node, .bool x.ended, .int .i64 x.at_]
def encW (l : List S113) : List Value := l.flatMap S113.enc
theorem encW_length (l : List S113) : (encW l).length = l.length * 3 := by
  induction l with
  | nil => rfl
  | cons x r ih => rw [show encW (x :: r) = x.enc ++ encW r from rfl, List.length_append, ih]; simp [S113.enc]; omega
def boolsB (l : List Bool) : Obj := .cells (l.map Value.bool).toArray 4 (0, 0)
/-- How the variables of match.ends lie. -/
structure EW (W : World) (bt bo bs bw ro rs n m base : Nat) (A0 : Option Addr) (c0 : Nat) (out seen : List Bool) (vw : Value) (wait : List S113) : Prop where
  t : W.heap[bt]? = some (.cells #[.slice A0 n c0] 22 (0, 0))
  o : W.heap[bo]? = some (.cells #[.slice (some ⟨ro, 0, none⟩) m m] 105 (0, 0))
  s : W.heap[bs]? = some (.cells #[.slice (some ⟨rs, 0, none⟩) seen.length seen.length] 105 (0, 0))
  q : W.heap[bw]? = some (.cells #[vw] 111 (0, 0))
  ro : W.heap[ro]? = some (boolsB out)
  rs : W.heap[rs]? = some (boolsB seen)
  w : W.ownsRow base 113 3 vw wait.length (encW wait)
theorem bool_cell {W : World} {r : Nat} {l : List Bool} (h : W.heap[r]? = some (boolsB l)) (i : Nat) (hi : i < l.length) : W.cell? ⟨r, i, none⟩ = some (.bool (l.getD i false)) := by
  rw [blk_cell h i]
  simp [hi]
set_option maxHeartbeats 4000000 in
set_option maxRecDepth 100000 in
theorem reach_old_f (node : Int) (a p q n m : Nat) (bt bo bs bw ro rs base : Nat) (A0 : Option Addr) (c0 : Nat) (out seen : List Bool) (vw : Value) (wait : List S113) (W : World)
    (hE : EW W bt bo bs bw ro rs n m base A0 c0 out seen vw wait) (hp : wrap64 (node * (m : Int)) = (p : Int)) (hi : p + a < seen.length) (hl : seen.length ≤ 4000000) (hs : seen.getD (p + a) false = true) :
    Calls Try.prog 76 #[.int .i64 node, .bool false, .int .i64 a, .pointer (some ⟨bo, 0, none⟩), .pointer (some ⟨bt, 0, none⟩), .pointer (some ⟨bs, 0, none⟩), .pointer (some ⟨bw, 0, none⟩)] W fun e W' => e = .returned (.tuple #[]) ∧ W = W' := by
  have c1 : W.cell? ⟨bo, 0, none⟩ = some (.slice (some ⟨ro, 0, none⟩) m m) := (blk_cell hE.o 0).trans rfl
  have c2 : W.cell? ⟨bs, 0, none⟩ = some (.slice (some ⟨rs, 0, none⟩) seen.length seen.length) := (blk_cell hE.s 0).trans rfl
  have c3 : W.cell? ⟨rs, p + a, none⟩ = some (.bool true) := by rw [bool_cell hE.rs _ hi, hs]
  clear hs
  go_enter Try.func76, Try.ntmps76
  go_wp2
  go_end0
  exact ⟨rfl, rfl⟩
set_option maxHeartbeats 4000000 in
set_option maxRecDepth 100000 in
theorem reach_old_t (node : Int) (a p q n m : Nat) (bt bo bs bw ro rs base : Nat) (A0 : Option Addr) (c0 : Nat) (out seen : List Bool) (vw : Value) (wait : List S113) (W : World)
    (hE : EW W bt bo bs bw ro rs n m base A0 c0 out seen vw wait) (hp : wrap64 (node * (m : Int)) = (p : Int)) (hq : wrap64 ((n : Int) * (m : Int)) = (q : Int)) (hi : p + q + a < seen.length) (hl : seen.length ≤ 4000000) (hs : seen.getD (p + q + a) false = true) :
    Calls Try.prog 76 #[.int .i64 node, .bool true, .int .i64 a, .pointer (some ⟨bo, 0, none⟩), .pointer (some ⟨bt, 0, none⟩), .pointer (some ⟨bs, 0, none⟩), .pointer (some ⟨bw, 0, none⟩)] W fun e W' => e = .returned (.tuple #[]) ∧ W = W' := by
  have c0_ : W.cell? ⟨bt, 0, none⟩ = some (.slice A0 n c0) := (blk_cell hE.t 0).trans rfl
  have c1 : W.cell? ⟨bo, 0, none⟩ = some (.slice (some ⟨ro, 0, none⟩) m m) := (blk_cell hE.o 0).trans rfl
  have c2 : W.cell? ⟨bs, 0, none⟩ = some (.slice (some ⟨rs, 0, none⟩) seen.length seen.length) := (blk_cell hE.s 0).trans rfl
  have c3 : W.cell? ⟨rs, p + q + a, none⟩ = some (.bool true) := by rw [bool_cell hE.rs _ hi, hs]
  clear hs
  go_enter Try.func76, Try.ntmps76
  go_wp2
  go_end0
  exact ⟨rfl, rfl⟩
/-- What a call of it may have changed: these blocks alone. -/
structure Mov (W W' : World) (rs bw : Nat) (own : Option Nat) : Prop where
  os : W'.os = W.os
  tape : W'.tape = W.tape
  output : W'.output = W.output
  size : W.heap.size ≤ W'.heap.size
  block : ∀ g, g < W.heap.size → g ≠ rs → g ≠ bw → some g ≠ own → W'.heap[g]? = W.heap[g]?
theorem info72 : (Try.prog.info? 113).map (fun i => (i.zero, i.size, i.bytes)) = some (some (.agg #[(.int .i64 0), (.bool false), (.int .i64 0)]), 3, 24) := by kernel_rfl
theorem bools_set (l : List Bool) (i : Nat) (b : Bool) : ((l.map Value.bool).toArray).setIfInBounds i (.bool b) = ((l.set i b).map Value.bool).toArray := by
  rw [List.map_set]; simp
theorem grown_set (W : World) (b i : Nat) (v : Value) : W.grownBy (W.setCell ⟨b, i, none⟩ v) (some b) :=
  ⟨rfl, rfl, rfl, by simp, fun k _ hne => Below.heap_setCell W ⟨b, i, none⟩ v k (fun h => hne (by rw [h]))⟩
theorem not_row {w : World} {base size n : Nat} {e : TypeId} {v : Value} {xs : List Value} (h : w.ownsRow base e size v n xs) {g : Nat} (hg : g < base) : v.ownBlock ≠ some g := fun z => by have := (h.lt g z).1; omega
/-- The end of a call that goes on: the row of those that wait is one longer. -/
theorem reach_end {W : World} {bt bo bs bw ro rs n m base : Nat} {A0 : Option Addr} {c0 : Nat} {out seen : List Bool} {vw : Value} {wait : List S113} (hE : EW W bt bo bs bw ro rs n m base A0 c0 out seen vw wait)
    (hb : bt < base ∧ bo < base ∧ bs < base ∧ bw < base ∧ ro < base ∧ rs < base) (hd : bt ≠ bw ∧ bo ≠ bw ∧ bs ≠ bw ∧ bt ≠ rs ∧ bo ≠ rs ∧ bs ≠ rs ∧ bw ≠ rs ∧ ro ≠ rs ∧ ro ≠ bw) (k : Nat) (x : S113) (g cap : Nat) (o : Obj) (W3 : World)
    (hown : W3.ownsRow base 113 3 (.slice (some ⟨g, 0, none⟩) (wait.length + 1) cap) (wait.length + 1) (encW wait ++ x.enc)) (hg : ((W.setCell ⟨rs, k, none⟩ (.bool true)).alloc o).grownBy W3 vw.ownBlock) (hgg : vw.ownBlock = some g ∨ g = W.heap.size + 1) :
    EW (W3.setCell ⟨bw, 0, none⟩ (.slice (some ⟨g, 0, none⟩) (wait.length + 1) cap)) bt bo bs bw ro rs n m base A0 c0 out (seen.set k true) (.slice (some ⟨g, 0, none⟩) (wait.length + 1) cap) (wait ++ [x]) ∧ Mov W (W3.setCell ⟨bw, 0, none⟩ (.slice (some ⟨g, 0, none⟩) (wait.length + 1) cap)) rs bw vw.ownBlock ∧ (some g = vw.ownBlock ∨ W.heap.size ≤ g) := by
  obtain ⟨b1, b2, b3, b4, b5, b6⟩ := hb
  obtain ⟨d1, d2, d3, d4, d5, d6, d7, d8, d9⟩ := hd
  have nr := fun {g : Nat} (h : g < base) => (not_row hE.w h)
  have s1 := fun {g : Nat} {cs : Array Value} {t : TypeId} (h : W.heap[g]? = some (.cells cs t (0, 0))) (hne : g ≠ rs) (hb : g < base) => blk_grown (blk_alloc (blk_far h (p := ⟨rs, k, none⟩) hne (.bool true)) o) hg (nr hb).symm
  have r1 : W3.heap[rs]? = some (boolsB (seen.set k true)) := by
    refine blk_grown (blk_alloc ?_ o) hg (nr b6).symm
    have := blk_set hE.rs k (.bool true)
    rw [bools_set] at this
    exact this
  refine ⟨⟨blk_far (s1 hE.t d4 b1) d1 _, blk_far (s1 hE.o d5 b2) d2 _, ?_, ?_, blk_far (s1 hE.ro d8 b5) d9 _, blk_far r1 d7.symm _, ?_⟩, ⟨hg.os, hg.tape, hg.output, ?_, ?_⟩, ?_⟩
  · rw [List.length_set]; exact blk_far (s1 hE.s d6 b3) d3 _
  · exact blk_set (s1 hE.q d7 b4) 0 _
  · have e : encW (wait ++ [x]) = encW wait ++ x.enc := by unfold encW; simp
    rw [e, List.length_append]
    exact hown.kept (grown_set W3 bw 0 _) (.inr (not_row hown b4))
  · have := hg.size; simp at this ⊢; omega
  · intro i hi h1 h2 h3
    rw [Below.heap_setCell W3 ⟨bw, 0, none⟩ _ i h2, hg.block i (by simp; omega) h3, Below.heap_alloc _ _ i (by simp; omega), Below.heap_setCell W ⟨rs, k, none⟩ _ i h1]
  · rcases hgg with h | h
    · exact .inl h.symm
    · right; omega
set_option maxHeartbeats 4000000 in
set_option maxRecDepth 100000 in
theorem reach_new_f (node : Int) (a p q n m : Nat) (bt bo bs bw ro rs base : Nat) (A0 : Option Addr) (c0 : Nat) (out seen : List Bool) (vw : Value) (wait : List S113) (W : World)
    (hE : EW W bt bo bs bw ro rs n m base A0 c0 out seen vw wait) (hb : bt < base ∧ bo < base ∧ bs < base ∧ bw < base ∧ ro < base ∧ rs < base) (hd : bt ≠ bw ∧ bo ≠ bw ∧ bs ≠ bw ∧ bt ≠ rs ∧ bo ≠ rs ∧ bs ≠ rs ∧ bw ≠ rs ∧ ro ≠ rs ∧ ro ≠ bw)
    (hbase : base ≤ W.heap.size) (hwl : wait.length ≤ 1000000) (hp : wrap64 (node * (m : Int)) = (p : Int)) (hi : p + a < seen.length) (hl : seen.length ≤ 4000000) (hs : seen.getD (p + a) false = false) :
    Calls Try.prog 76 #[.int .i64 node, .bool false, .int .i64 a, .pointer (some ⟨bo, 0, none⟩), .pointer (some ⟨bt, 0, none⟩), .pointer (some ⟨bs, 0, none⟩), .pointer (some ⟨bw, 0, none⟩)] W fun e W' => e = .returned (.tuple #[]) ∧
      ∃ g cap, EW W' bt bo bs bw ro rs n m base A0 c0 out (seen.set (p + a) true) (.slice (some ⟨g, 0, none⟩) (wait.length + 1) cap) (wait ++ [⟨node, false, a⟩]) ∧ Mov W W' rs bw vw.ownBlock ∧ (some g = vw.ownBlock ∨ W.heap.size ≤ g) := by
  have c1 : W.cell? ⟨bo, 0, none⟩ = some (.slice (some ⟨ro, 0, none⟩) m m) := (blk_cell hE.o 0).trans rfl
  have c2 : W.cell? ⟨bs, 0, none⟩ = some (.slice (some ⟨rs, 0, none⟩) seen.length seen.length) := (blk_cell hE.s 0).trans rfl
  have c3 : W.cell? ⟨rs, p + a, none⟩ = some (.bool false) := by rw [bool_cell hE.rs _ hi, hs]
  have c4 : W.cell? ⟨bw, 0, none⟩ = some vw := (blk_cell hE.q 0).trans rfl
  have f1 : W.frozen? ⟨rs, p + a, none⟩ = false := blk_frozen hE.rs _
  have f2 : W.frozen? ⟨bw, 0, none⟩ = false := blk_frozen hE.q _
  have HE := Lib.hid hE
  have HD := Lib.hid hd
  have HB := Lib.hid hb
  have hn1 := hd.2.2.2.2.2.2.1
  obtain ⟨i0, hi0, hz0, hz1, hz2⟩ := info_parts info72
  have hown1 := hE.w.kept (grown_set W rs (p + a) (.bool true)) (.inr (not_row hE.w hb.2.2.2.2.2))
  clear hs hE hd hb
  go_enter Try.func76, Try.ntmps76
  go_wp2_with (at_builtin; refine wpList_append_lies _ rfl _ _ 111 rfl base 113 i0 (.agg #[(.int .i64 0), (.bool false), (.int .i64 0)]) 3 24 Try.underlying111 hi0 hz0 hz1 hz2 rfl (by decide) _ _ _ rfl (hown1.alloc _) ⟨W.heap.size, 0, none⟩ 1 1 [.int .i64 node, .bool false, .int .i64 a] rfl rfl ?c1 ?c2 (by decide) ?c3 ?c4 ?c5 (W.heap.size + 1) ?c6 ?_)
  case c1 => exact World.news_of_block (cs := #[.int .i64 node, .bool false, .int .i64 a]) (t := 113) (fr := (0, 0)) (by have h := blk_new (W.setCell ⟨rs, p + a, none⟩ (.bool true)) (.cells #[.int .i64 node, .bool false, .int .i64 a] 113); rw [World.size_setCell] at h; exact h)
  case c2 => intro u hu; simp at hu; rcases hu with rfl | rfl | rfl <;> rfl
  case c3 => unfold maxLen; omega
  case c4 => omega
  case c5 => simp; omega
  case c6 => simp
  intro g cap W3 hown3 hg3 hgg hlt
  have hq3 : W3.heap[bw]? = some (.cells #[vw] 111 (0, 0)) := blk_grown (blk_alloc (blk_far HE.out.q (p := ⟨rs, p + a, none⟩) hn1 (.bool true)) _) hg3 (not_row HE.out.w HB.out.2.2.2.1).symm
  have e4 : W3.cell? ⟨bw, 0, none⟩ = some vw := (blk_cell hq3 0).trans rfl
  have f4 : W3.frozen? ⟨bw, 0, none⟩ = false := blk_frozen hq3 _
  have HH := Lib.hid (And.intro hown3 (And.intro hg3 hgg))
  clear hown3 hg3 hgg hq3
  go_wp2
  go_end0
  exact ⟨rfl, g, cap, reach_end HE.out HB.out HD.out (p + a) ⟨node, false, a⟩ g cap _ W3 HH.out.1 HH.out.2.1 HH.out.2.2⟩
set_option maxHeartbeats 4000000 in
set_option maxRecDepth 100000 in
theorem reach_new_t (node : Int) (a p q n m : Nat) (bt bo bs bw ro rs base : Nat) (A0 : Option Addr) (c0 : Nat) (out seen : List Bool) (vw : Value) (wait : List S113) (W : World)
    (hE : EW W bt bo bs bw ro rs n m base A0 c0 out seen vw wait) (hb : bt < base ∧ bo < base ∧ bs < base ∧ bw < base ∧ ro < base ∧ rs < base) (hd : bt ≠ bw ∧ bo ≠ bw ∧ bs ≠ bw ∧ bt ≠ rs ∧ bo ≠ rs ∧ bs ≠ rs ∧ bw ≠ rs ∧ ro ≠ rs ∧ ro ≠ bw)
    (hbase : base ≤ W.heap.size) (hwl : wait.length ≤ 1000000) (hp : wrap64 (node * (m : Int)) = (p : Int)) (hq : wrap64 ((n : Int) * (m : Int)) = (q : Int)) (hi : p + q + a < seen.length) (hl : seen.length ≤ 4000000) (hs : seen.getD (p + q + a) false = false) :
    Calls Try.prog 76 #[.int .i64 node, .bool true, .int .i64 a, .pointer (some ⟨bo, 0, none⟩), .pointer (some ⟨bt, 0, none⟩), .pointer (some ⟨bs, 0, none⟩), .pointer (some ⟨bw, 0, none⟩)] W fun e W' => e = .returned (.tuple #[]) ∧
      ∃ g cap, EW W' bt bo bs bw ro rs n m base A0 c0 out (seen.set (p + q + a) true) (.slice (some ⟨g, 0, none⟩) (wait.length + 1) cap) (wait ++ [⟨node, true, a⟩]) ∧ Mov W W' rs bw vw.ownBlock ∧ (some g = vw.ownBlock ∨ W.heap.size ≤ g) := by
  have c0_ : W.cell? ⟨bt, 0, none⟩ = some (.slice A0 n c0) := (blk_cell hE.t 0).trans rfl
  have c1 : W.cell? ⟨bo, 0, none⟩ = some (.slice (some ⟨ro, 0, none⟩) m m) := (blk_cell hE.o 0).trans rfl
  have c2 : W.cell? ⟨bs, 0, none⟩ = some (.slice (some ⟨rs, 0, none⟩) seen.length seen.length) := (blk_cell hE.s 0).trans rfl
  have c3 : W.cell? ⟨rs, p + q + a, none⟩ = some (.bool false) := by rw [bool_cell hE.rs _ hi, hs]
  have c4 : W.cell? ⟨bw, 0, none⟩ = some vw := (blk_cell hE.q 0).trans rfl
  have f1 : W.frozen? ⟨rs, p + q + a, none⟩ = false := blk_frozen hE.rs _
  have f2 : W.frozen? ⟨bw, 0, none⟩ = false := blk_frozen hE.q _
  have HE := Lib.hid hE
  have HD := Lib.hid hd
  have HB := Lib.hid hb
  have hn1 := hd.2.2.2.2.2.2.1
  obtain ⟨i0, hi0, hz0, hz1, hz2⟩ := info_parts info72
  have hown1 := hE.w.kept (grown_set W rs (p + q + a) (.bool true)) (.inr (not_row hE.w hb.2.2.2.2.2))
  clear hs hE hd hb
  go_enter Try.func76, Try.ntmps76
  go_wp2_with (at_builtin; refine wpList_append_lies _ rfl _ _ 111 rfl base 113 i0 (.agg #[(.int .i64 0), (.bool false), (.int .i64 0)]) 3 24 Try.underlying111 hi0 hz0 hz1 hz2 rfl (by decide) _ _ _ rfl (hown1.alloc _) ⟨W.heap.size, 0, none⟩ 1 1 [.int .i64 node, .bool true, .int .i64 a] rfl rfl ?c1 ?c2 (by decide) ?c3 ?c4 ?c5 (W.heap.size + 1) ?c6 ?_)
  case c1 => exact World.news_of_block (cs := #[.int .i64 node, .bool true, .int .i64 a]) (t := 113) (fr := (0, 0)) (by have h := blk_new (W.setCell ⟨rs, p + q + a, none⟩ (.bool true)) (.cells #[.int .i64 node, .bool true, .int .i64 a] 113); rw [World.size_setCell] at h; exact h)
  case c2 => intro u hu; simp at hu; rcases hu with rfl | rfl | rfl <;> rfl
  case c3 => unfold maxLen; omega
  case c4 => omega
  case c5 => simp; omega
  case c6 => simp
  intro g cap W3 hown3 hg3 hgg hlt
  have hq3 : W3.heap[bw]? = some (.cells #[vw] 111 (0, 0)) := blk_grown (blk_alloc (blk_far HE.out.q (p := ⟨rs, p + q + a, none⟩) hn1 (.bool true)) _) hg3 (not_row HE.out.w HB.out.2.2.2.1).symm
  have e4 : W3.cell? ⟨bw, 0, none⟩ = some vw := (blk_cell hq3 0).trans rfl
  have f4 : W3.frozen? ⟨bw, 0, none⟩ = false := blk_frozen hq3 _
  have HH := Lib.hid (And.intro hown3 (And.intro hg3 hgg))
  clear hown3 hg3 hgg hq3
  go_wp2
  go_end0
  exact ⟨rfl, g, cap, reach_end HE.out HB.out HD.out (p + q + a) ⟨node, true, a⟩ g cap _ W3 HH.out.1 HH.out.2.1 HH.out.2.2⟩
end Go.Proofs.Ythnfmpieoondaaa.G
end

/- match.ends' inner function as one contract. -/
section
set_option linter.unusedVariables false
set_option linter.unusedSimpArgs false
namespace Go.Proofs.Ythnfmpieoondaaa.G
open Go.RowKit Go.Proofs.YthnfmpieoondaaaW.PrintWords Go.Proofs.YthnfmpieoondaaaW.PrintLast Go.Proofs.YthnfmpieoondaaaW.PrintMore Go.Proofs.Ythnfmpieoondaaa.QA
/-- A place that is come to: seen once, it waits. -/
def reachP (n m : Nat) (sw : List Bool × List S113) (node : Int) (ended : Bool) (at_ : Int) : Option (List Bool × List S113) :=
  if 0 ≤ node ∧ node < n ∧ 0 ≤ at_ ∧ at_ < m ∧ sw.1.length = 2 * (n * m) ∧ n * m ≤ 1000000 ∧ sw.2.length ≤ 1000000 then
    if sw.1.getD (node.toNat * m + (if ended = true then n * m else 0) + at_.toNat) false = true then some sw
    else some (sw.1.set (node.toNat * m + (if ended = true then n * m else 0) + at_.toNat) true, sw.2 ++ [⟨node, ended, at_⟩])
  else none
theorem Mov.refl (W : World) (rs bw : Nat) (own : Option Nat) : Mov W W rs bw own := ⟨rfl, rfl, rfl, Nat.le_refl _, fun _ _ _ _ _ => rfl⟩
/-- The facts that stay all along. -/
structure Apart (bt bo bs bw ro rs base : Nat) : Prop where
  hb : bt < base ∧ bo < base ∧ bs < base ∧ bw < base ∧ ro < base ∧ rs < base
  hd : bt ≠ bw ∧ bo ≠ bw ∧ bs ≠ bw ∧ bt ≠ rs ∧ bo ≠ rs ∧ bs ≠ rs ∧ bw ≠ rs ∧ ro ≠ rs ∧ ro ≠ bw
theorem idx_lt {n m j a : Nat} (h1 : j < n) (h2 : a < m) : j * m + a < n * m := by
  have : (j + 1) * m ≤ n * m := Nat.mul_le_mul_right m h1
  rw [Nat.add_mul, Nat.one_mul] at this
  omega
theorem wrap_nat (x : Nat) (h : x ≤ 100000000) : wrap64 ((x : Nat) : Int) = (x : Int) := by unfold wrap64; omega
theorem reach_calls (node at_ : Int) (ended : Bool) (n m : Nat) (bt bo bs bw ro rs base : Nat) (A0 : Option Addr) (c0 : Nat) (out seen seen' : List Bool) (vw : Value) (wait wait' : List S113) (W : World)
    (hE : EW W bt bo bs bw ro rs n m base A0 c0 out seen vw wait) (hA : Apart bt bo bs bw ro rs base) (hbase : base ≤ W.heap.size) (h : reachP n m (seen, wait) node ended at_ = some (seen', wait')) :
    Calls Try.prog 76 #[.int .i64 node, .bool ended, .int .i64 at_, .pointer (some ⟨bo, 0, none⟩), .pointer (some ⟨bt, 0, none⟩), .pointer (some ⟨bs, 0, none⟩), .pointer (some ⟨bw, 0, none⟩)] W fun e W' => e = .returned (.tuple #[]) ∧
      ∃ vw', EW W' bt bo bs bw ro rs n m base A0 c0 out seen' vw' wait' ∧ Mov W W' rs bw vw.ownBlock ∧ (vw'.ownBlock = vw.ownBlock ∨ ∃ g, vw'.ownBlock = some g ∧ W.heap.size ≤ g) := by
  unfold reachP at h
  by_cases hg : 0 ≤ node ∧ node < n ∧ 0 ≤ at_ ∧ at_ < m ∧ (seen, wait).1.length = 2 * (n * m) ∧ n * m ≤ 1000000 ∧ (seen, wait).2.length ≤ 1000000
  · rw [if_pos hg] at h
    obtain ⟨g1, g2, g3, g4, g5, g6, g7⟩ := hg
    dsimp only at g5 g7 h
    obtain ⟨j, rfl⟩ := Int.eq_ofNat_of_zero_le g1
    obtain ⟨a, rfl⟩ := Int.eq_ofNat_of_zero_le g3
    rw [Int.toNat_natCast, Int.toNat_natCast] at h
    have hlt := idx_lt (n := n) (m := m) (j := j) (a := a) (by omega) (by omega)
    have i1 : j * m + n * m + a < seen.length := Nat.lt_of_lt_of_eq (by omega) g5.symm
    have i2 : j * m + a < seen.length := Nat.lt_of_lt_of_eq (by omega) g5.symm
    have i3 : seen.length ≤ 4000000 := Nat.le_trans (Nat.le_of_eq g5) (by omega)
    have i4 : j * m ≤ 100000000 := by omega
    have i5 : n * m ≤ 100000000 := by omega
    have hp : wrap64 ((j : Int) * (m : Int)) = ((j * m : Nat) : Int) := by rw [← Int.natCast_mul]; exact wrap_nat _ i4
    have hq : wrap64 ((n : Int) * (m : Int)) = ((n * m : Nat) : Int) := by rw [← Int.natCast_mul]; exact wrap_nat _ i5
    generalize hpp : j * m = p at *
    generalize hqq : n * m = q at *
    cases ended with
    | true =>
      rw [if_pos rfl] at h
      by_cases hs : seen.getD (p + q + a) false = true
      · rw [if_pos hs] at h
        have h := Option.some.inj h
        obtain ⟨rfl, rfl⟩ : seen = seen' ∧ wait = wait' := ⟨congrArg (·.1) h, congrArg (·.2) h⟩
        refine (reach_old_t _ a p q n m bt bo bs bw ro rs base A0 c0 out seen vw wait W hE hp hq i1 i3 hs).mono ?_
        rintro e W' ⟨rfl, rfl⟩
        exact ⟨rfl, vw, hE, Mov.refl _ _ _ _, .inl rfl⟩
      · rw [if_neg hs] at h
        have h := Option.some.inj h
        obtain ⟨rfl, rfl⟩ : seen.set (p + q + a) true = seen' ∧ wait ++ [⟨(j : Int), true, (a : Int)⟩] = wait' := ⟨congrArg (·.1) h, congrArg (·.2) h⟩
        refine (reach_new_t _ a p q n m bt bo bs bw ro rs base A0 c0 out seen vw wait W hE hA.hb hA.hd hbase g7 hp hq i1 i3 (Bool.eq_false_iff.2 hs)).mono ?_
        rintro e W' ⟨rfl, g, cap, h1, h2, h3⟩
        exact ⟨rfl, _, h1, h2, h3.imp (fun z => by rw [← z]; rfl) (fun z => ⟨g, rfl, z⟩)⟩
    | false =>
      rw [show (if false = true then q else 0) = 0 from rfl, Nat.add_zero] at h
      by_cases hs : seen.getD (p + a) false = true
      · rw [if_pos hs] at h
        have h := Option.some.inj h
        obtain ⟨rfl, rfl⟩ : seen = seen' ∧ wait = wait' := ⟨congrArg (·.1) h, congrArg (·.2) h⟩
        refine (reach_old_f _ a p q n m bt bo bs bw ro rs base A0 c0 out seen vw wait W hE hp i2 i3 hs).mono ?_
        rintro e W' ⟨rfl, rfl⟩
        exact ⟨rfl, vw, hE, Mov.refl _ _ _ _, .inl rfl⟩
      · rw [if_neg hs] at h
        have h := Option.some.inj h
        obtain ⟨rfl, rfl⟩ : seen.set (p + a) true = seen' ∧ wait ++ [⟨(j : Int), false, (a : Int)⟩] = wait' := ⟨congrArg (·.1) h, congrArg (·.2) h⟩
        refine (reach_new_f _ a p q n m bt bo bs bw ro rs base A0 c0 out seen vw wait W hE hA.hb hA.hd hbase g7 hp i2 i3 (Bool.eq_false_iff.2 hs)).mono ?_
        rintro e W' ⟨rfl, g, cap, h1, h2, h3⟩
        exact ⟨rfl, _, h1, h2, h3.imp (fun z => by rw [← z]; rfl) (fun z => ⟨g, rfl, z⟩)⟩
  · rw [if_neg hg] at h; cases h
end Go.Proofs.Ythnfmpieoondaaa.G
end
