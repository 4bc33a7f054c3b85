/- Texts of this seat, put together: each part tells above it what it proves and on what conditions. -/
import Derived.Shelf.Small.Utf8
import Derived.Shelf.Small.Bits
import Derived.Shelf.Small.Strs
import Derived.Shelf.Strconv.Itoa0
import Derived.Shelf.Strconv.Itoa1
import Derived.Shelf.LaysM
import Derived.Shelf.Strconv.Itoa2
import Derived.Shelf.Strconv.Itoa3
import Derived.Shelf.Strconv.Itoa4
import Derived.Shelf.Strings.Search1
import Derived.Shelf.Unicode.Decode
import Derived.Shelf.Strings.Runes
import Derived.Shelf.Strings.AsciiSet
import Derived.Shelf.Bits.Mul64
import Derived.Shelf.Unicode.DecodeSlow
import Derived.Shelf.Unicode.DecodeAny
import Derived.Shelf.Unicode.DecodeLast
import Derived.Test.YtgodmbcebpbdiaaDoorProg
import Derived.Below
import Derived.Deep.Draws
import Derived.OwnWalk
import Derived.Outline
import Derived.Lib.Hide
import Derived.WalkKit
import Derived.WalkSpells
import Derived.WalkLawsBesides
import Derived.KernelRfl
import Derived.RowKit3
import Derived.Deep.DeepCutAuto
import Derived.Deep.CutBlock
import Derived.RegionTactic
import Derived.BigRegion
import Derived.Defers
import Derived.Recover
import Derived.Laws.Pointers
import Derived.Test.YtgodmbcebpbdiaaDoorWWords
import Derived.Test.YtgodmbcebpbdiaaDoorWLast
import Derived.Deep.AppendLies
import Derived.Maps.AppendAt
import Derived.Laws.BytesArg
import Derived.Laws.MakeOwn
import Derived.Laws.OwnMore
import Derived.Deep.OwnRows
import Derived.Tactics
import Derived.Lib.ConvBytes
import Derived.Laws.Slices
import Derived.Deep.LoopGhost
import Derived.Deep.QuietTactic
import Derived.BigQuiet
import Derived.WideLaws
import Derived.Deep.RegionHeld3
import Derived.Laws.Rows
import Derived.Lib.AppendStr
import Derived.ArgAppend
import Derived.Laws.IdiomCopy
import Derived.OrdersHeld
import Derived.Laws.BitsLemmas
import Derived.RowKit
import Derived.Test.YtgodmbcebpbdiaaDoorWTab
import Derived.Test.YtgodmbcebpbdiaaDoorWFour
import Derived.Test.YtgodmbcebpbdiaaDoorWQPut
import Derived.Test.YtgodmbcebpbdiaaDoorWApart
import Derived.Test.YtgodmbcebpbdiaaDoorWArr
import Derived.Test.YtgodmbcebpbdiaaDoorWZeros
import Derived.Test.YtgodmbcebpbdiaaDoorWFoot
import Derived.Test.YtgodmbcebpbdiaaDoorWKept
import Derived.Test.YtgodmbcebpbdiaaDoorWShare
import Derived.Test.YtgodmbcebpbdiaaDoorWN
import Derived.Test.YtgodmbcebpbdiaaDoorWFootNe
import Derived.Test.YtgodmbcebpbdiaaDoorWAt
import Derived.Test.YtgodmbcebpbdiaaDoorWEqStruct
import Derived.Test.YtgodmbcebpbdiaaDoorWRepsOne
import Derived.Test.YtgodmbcebpbdiaaDoorWInv
import Derived.Test.YtgodmbcebpbdiaaDoorWInvWords
import Derived.Test.YtgodmbcebpbdiaaDoorWGuard
import Derived.Test.YtgodmbcebpbdiaaDoorWNEv
import Derived.Test.YtgodmbcebpbdiaaDoorWMore
import Derived.Laws.Bits64b
import Derived.Lib.BitFns
import Derived.Lib.ItoaNum
import Derived.WalkSmall
import Derived.Lib.LaidTab
import Derived.Lib.AppendIntMem
/-
  DERIVED: THE SHELF's CONTRACTS AT THIS DUMP, IN PLAIN WORDS (tools/lay-plain.mjs out of 'TrydShelf.lean', which tools/lay-shelf.mjs wrote): THE SAME DECLARATIONS UNDER THE SAME NAMES: 'import', 'namespace', 'open', 'def', 'theorem' AND NOTHING ELSE: no command of the shelf's: FOR A HAND-IN. Each laying: the table of numbers ('.._ren') and one theorem, a field a fact of the dump's own or the kernel's comparison; each contract: ONE APPLICATION.
-/
section
namespace Go.Proofs
open Go.Shelf
def Tryd.lays134_ren : Go.Shelf.Ren := ⟨fun | 134 => 68 | 129 => 76 | n => n, fun | 53 => 51 | 3 => 3 | 4 => 4 | 46 => 67 | 5 => 5 | 9 => 9 | n => n, fun | n => n⟩
theorem Tryd.lays134 : Go.Proofs.Lays.n134 Tryd.prog Tryd.lays134_ren := {
  mixed := by kernel_rfl
  f129 := Tryd.func76.trans (congrArg some (by kernel_rfl))
  f134 := Tryd.func68.trans (congrArg some (by kernel_rfl))
  t3 := Tryd.underlying3
  a3 := Tryd.isAgg3
  z3 := Tryd.sizeOf3
  v3 := Tryd.zeroValue3
  t4 := Tryd.underlying4
  a4 := Tryd.isAgg4
  z4 := Tryd.sizeOf4
  v4 := Tryd.zeroValue4
  t5 := Tryd.underlying5
  a5 := Tryd.isAgg5
  z5 := Tryd.sizeOf5
  v5 := Tryd.zeroValue5
  t9 := Tryd.underlying9
  a9 := Tryd.isAgg9
  z9 := Tryd.sizeOf9
  v9 := Tryd.zeroValue9
  t46 := Tryd.underlying67
  a46 := Tryd.isAgg67
  z46 := Tryd.sizeOf67
  v46 := Tryd.zeroValue67
  t53 := Tryd.underlying51
  a53 := Tryd.isAgg51
  z53 := Tryd.sizeOf51
  v53 := Tryd.zeroValue51 }
def Tryd.laysM173_ren : Go.Shelf.Ren := ⟨fun | 173 => 56 | 246 => 64 | 283 => 69 | 284 => 70 | 285 => 71 | 286 => 72 | 129 => 76 | 317 => 77 | 318 => 78 | 319 => 79 | 320 => 80 | 337 => 86 | 338 => 87 | n => n, fun | 2 => 2 | 3 => 3 | 9 => 9 | 4 => 4 | 171 => 93 | 0 => 0 | 53 => 51 | 37 => 31 | 5 => 5 | 173 => 95 | 212 => 100 | 51 => 101 | 20 => 20 | 213 => 102 | 46 => 67 | 232 => 113 | 233 => 114 | n => n, fun | 17 => 3 | 18 => 7 | 19 => 8 | n => n⟩
theorem Tryd.laysM173 : Go.Proofs.LaysM.n173 Tryd.prog Tryd.laysM173_ren := {
  mixed := by kernel_rfl
  f129 := Tryd.func76.trans (congrArg some (by kernel_rfl))
  f173 := Tryd.func56.trans (congrArg some (by kernel_rfl))
  f246 := Tryd.func64.trans (congrArg some (by kernel_rfl))
  f283 := Tryd.func69.trans (congrArg some (by kernel_rfl))
  f284 := Tryd.func70.trans (congrArg some (by kernel_rfl))
  f285 := Tryd.func71.trans (congrArg some (by kernel_rfl))
  f286 := Tryd.func72.trans (congrArg some (by kernel_rfl))
  f317 := Tryd.func77.trans (congrArg some (by kernel_rfl))
  f318 := Tryd.func78.trans (congrArg some (by kernel_rfl))
  f319 := Tryd.func79.trans (congrArg some (by kernel_rfl))
  f320 := Tryd.func80.trans (congrArg some (by kernel_rfl))
  f337 := Tryd.func86.trans (congrArg some (by kernel_rfl))
  f338 := Tryd.func87.trans (congrArg some (by kernel_rfl))
  t0 := Tryd.underlying0
  a0 := Tryd.isAgg0
  z0 := Tryd.sizeOf0
  v0 := Tryd.zeroValue0
  t2 := Tryd.underlying2
  a2 := Tryd.isAgg2
  z2 := Tryd.sizeOf2
  v2 := Tryd.zeroValue2
  t3 := Tryd.underlying3
  a3 := Tryd.isAgg3
  z3 := Tryd.sizeOf3
  v3 := Tryd.zeroValue3
  t4 := Tryd.underlying4
  a4 := Tryd.isAgg4
  z4 := Tryd.sizeOf4
  v4 := Tryd.zeroValue4
  t5 := Tryd.underlying5
  a5 := Tryd.isAgg5
  z5 := Tryd.sizeOf5
  v5 := Tryd.zeroValue5
  t9 := Tryd.underlying9
  a9 := Tryd.isAgg9
  z9 := Tryd.sizeOf9
  v9 := Tryd.zeroValue9
  t20 := Tryd.underlying20
  a20 := Tryd.isAgg20
  z20 := Tryd.sizeOf20
  v20 := Tryd.zeroValue20
  t37 := Tryd.underlying31
  a37 := Tryd.isAgg31
  z37 := Tryd.sizeOf31
  v37 := Tryd.zeroValue31
  t46 := Tryd.underlying67
  a46 := Tryd.isAgg67
  z46 := Tryd.sizeOf67
  v46 := Tryd.zeroValue67
  t51 := Tryd.underlying101
  a51 := Tryd.isAgg101
  z51 := Tryd.sizeOf101
  v51 := Tryd.zeroValue101
  t53 := Tryd.underlying51
  a53 := Tryd.isAgg51
  z53 := Tryd.sizeOf51
  v53 := Tryd.zeroValue51
  t171 := Tryd.underlying93
  a171 := Tryd.isAgg93
  z171 := Tryd.sizeOf93
  v171 := Tryd.zeroValue93
  t173 := Tryd.underlying95
  a173 := Tryd.isAgg95
  z173 := Tryd.sizeOf95
  v173 := Tryd.zeroValue95
  t212 := Tryd.underlying100
  a212 := Tryd.isAgg100
  z212 := Tryd.sizeOf100
  v212 := Tryd.zeroValue100
  t213 := Tryd.underlying102
  a213 := Tryd.isAgg102
  z213 := Tryd.sizeOf102
  t232 := Tryd.underlying113
  a232 := Tryd.isAgg113
  z232 := Tryd.sizeOf113
  v232 := Tryd.zeroValue113
  t233 := Tryd.underlying114
  a233 := Tryd.isAgg114
  z233 := Tryd.sizeOf114
  v233 := Tryd.zeroValue114
  g17 := by kernel_rfl
  g18 := by kernel_rfl
  g19 := by kernel_rfl
  i0 := by kernel_rfl
  i2 := by kernel_rfl
  i3 := by kernel_rfl
  i4 := by kernel_rfl
  i5 := by kernel_rfl
  i9 := by kernel_rfl
  i20 := by kernel_rfl
  i37 := by kernel_rfl
  i46 := by kernel_rfl
  i51 := by kernel_rfl
  i53 := by kernel_rfl
  i171 := by kernel_rfl
  i173 := by kernel_rfl
  i212 := by kernel_rfl
  i232 := by kernel_rfl
  i233 := by kernel_rfl
  m17 := by kernel_rfl
  m18 := by kernel_rfl
  m19 := by kernel_rfl }
def Tryd.lays264_ren : Go.Shelf.Ren := ⟨fun | 264 => 37 | n => n, fun | 53 => 51 | 46 => 67 | n => n, fun | n => n⟩
theorem Tryd.lays264 : Go.Proofs.Lays.n264 Tryd.prog Tryd.lays264_ren := {
  mixed := by kernel_rfl
  f264 := Tryd.func37.trans (congrArg some (by kernel_rfl))
  t46 := Tryd.underlying67
  a46 := Tryd.isAgg67
  z46 := Tryd.sizeOf67
  v46 := Tryd.zeroValue67
  t53 := Tryd.underlying51
  a53 := Tryd.isAgg51
  z53 := Tryd.sizeOf51
  v53 := Tryd.zeroValue51 }
/-- bits.LeadingZeros64: "LeadingZeros64 returns the number of leading zero bits in x; the result is 64 for x == 0.": IT RETURNS '64 - Lib.bitLen x'; the world is as it was. ITS CALLEE bits.Len64 IS MET BY ITS OWN CONTRACT OFF THE SHELF (lay that first): entered in place it sends the kernel out of memory. (LAID: no walk: one application.) -/
theorem Tryd.bits_LeadingZeros64 (x : Int) (w : World) (h0 : 0 ≤ x) (h1 : x ≤ 18446744073709551615) :
    Calls Tryd.prog 68 #[.int .u64 x] w fun e w' => e = .returned (.int .i64 (64 - (Lib.bitLen x.toNat : Int))) ∧ w' = w := Any.bits_LeadingZeros64 Tryd.lays134 x w h0 h1
open Go.RowKit Go.Sort Go.Lib in
/-- strconv.FormatInt: "FormatInt returns the string representation of i in the given base": AT BASE 10: i's decimal numeral, for every int64. (LAID: no walk: one application.) -/
theorem Tryd.strconv_FormatInt_10 (n : Int) (h0 : -9223372036854775808 ≤ n) (h1 : n ≤ 9223372036854775807) (w : World) (htab : Lib.TabIs Tryd.prog w "internal/strconv.uint64pow10" .u64 Lib.pow10Tab) :
    Calls Tryd.prog 56 #[.int .i64 n, .int .i64 10] w fun e w' => e = .returned (.string ⟨(Lib.itoa n).toArray⟩) ∧ ∃ k os, w' = grow (w.drewN k) os := Any.strconv_FormatInt_10 Tryd.laysM173 n h0 h1 w htab
open Go.RowKit Go.Lib in
theorem Tryd.bits_Mul64 (x y : Nat) (hx : x < 18446744073709551616) (hy : y < 18446744073709551616) (w : World) :
    Calls Tryd.prog 37 #[.int .u64 x, .int .u64 y] w fun e w' => e = .returned (.tuple #[.int .u64 ((x * y / 18446744073709551616 : Nat) : Int), .int .u64 ((x * y % 18446744073709551616 : Nat) : Int)]) ∧ w' = w := Any.bits_Mul64 Tryd.lays264 x y hx hy w
end Go.Proofs
end

/- Functions of package dec that give up and catch, walked. -/
section
set_option linter.unusedVariables false
set_option linter.unusedSimpArgs false
namespace Go.Proofs.YtgodmbcebpbdiaaDoor.G
open Go.RowKit Go.Proofs.YtgodmbcebpbdiaaDoorW.PrintWords Go.Proofs.YtgodmbcebpbdiaaDoorW.PrintLast

/-- What is given up with. -/
def fault (e : Int) : PanicEntry := { v := .iface 74 (.agg #[.int .i64 e]), recovered := false }

set_option maxHeartbeats 2000000 in
theorem wrong_no (e : Int) (w : World) : Calls Tryd.prog 36 #[.bool false, .int .i64 e] w fun x w' => x = .returned (.tuple #[]) ∧ w = w' := by
  go_enter Tryd.func36, Tryd.ntmps36
  go_wp2
  go_end0
  exact ⟨rfl, rfl⟩
set_option maxHeartbeats 2000000 in
theorem wrong_yes (e : Int) (w : World) : Calls Tryd.prog 36 #[.bool true, .int .i64 e] w fun x w' => x = .panicked [fault e] ∧ w = w' := by
  go_enter Tryd.func36, Tryd.ntmps36
  go_wp2
  exact ⟨rfl, rfl, rfl⟩

theorem as74 (v : Value) (w : World) : (Instr.typeAssert (.iface 74 v) 20 74 true).run Tryd.prog w = .ok (.tuple #[v, .bool true]) w := by kernel_rfl
set_option maxHeartbeats 2000000 in
theorem caught_yes (p q : Nat) (x y e : Int) (older : List PanicEntry) (w : World) (hp : w.cell? ⟨p, 0, none⟩ = some (.int .i64 x)) (hq : w.cell? ⟨q, 0, none⟩ = some (.int .i64 y)) (fp : w.frozen? ⟨p, 0, none⟩ = false) (fq : w.frozen? ⟨q, 0, none⟩ = false) (hpq : p ≠ q) :
    CallsD Tryd.prog 34 #[.pointer (some ⟨p, 0, none⟩), .pointer (some ⟨q, 0, none⟩)] (.panicking (fault e :: older)) w fun x' u' w' =>
      x' = .returned (.tuple #[]) ∧ u' = .panicking ({ fault e with recovered := true } :: older) ∧ w' = (((w.setCell ⟨p, 0, none⟩ (.int .i64 0)).setCell ⟨q, 0, none⟩ (.int .i64 e)).alloc (.cells #[.int .i64 e] 74)).drew := by
  refine callsD_of_wpS Tryd.func34 rfl fun c₀ cs hu => ?_
  apply wpS_seq
  apply wpS_region
  simp [wpOpsS, go_sem, recoverD, hu, Tryd.ntmps34, Exit.thenS, fault]
  refine wpS_of_wp ?_
  have Hu := Lib.hid hu; clear hu
  have ht : (#[(.pointer (some ⟨p, 0, none⟩)), (.pointer (some ⟨q, 0, none⟩))] ++ ((Array.replicate 22 undef).setIfInBounds 5 (.iface 74 (.agg #[.int .i64 e]))).setIfInBounds 2 (.iface 74 (.agg #[.int .i64 e])) : Array Value) = #[(.pointer (some ⟨p, 0, none⟩)), (.pointer (some ⟨q, 0, none⟩)), undef, undef, (.iface 74 (.agg #[.int .i64 e])), undef, undef, (.iface 74 (.agg #[.int .i64 e])), undef, undef, undef, undef, undef, undef, undef, undef, undef, undef, undef, undef, undef, undef, undef, undef] := by simp [Array.replicate, Array.setIfInBounds]
  rw [ht]
  clear ht
  have hta := as74 (.agg #[.int .i64 e])
  go_wp2
  have hlp : p < w.heap.size := World.block_lt_of_cell? w _ hp
  have hlq : q < w.heap.size := World.block_lt_of_cell? w _ hq
  have hnp : w.heap.size ≠ p := by omega
  have hnq : w.heap.size ≠ q := by omega
  go_region
  exact ⟨rfl, _, rfl, _, results_none rfl _ _ _, rfl, rfl, rfl⟩

set_option maxHeartbeats 2000000 in
theorem caught_no (p q : Nat) (w : World) :
    CallsD Tryd.prog 34 #[.pointer (some ⟨p, 0, none⟩), .pointer (some ⟨q, 0, none⟩)] .returning w fun x' u' w' =>
      x' = .returned (.tuple #[]) ∧ u' = .returning ∧ w' = w := by
  refine callsD_of_wpS Tryd.func34 rfl fun c₀ cs hu => ?_
  apply wpS_seq
  apply wpS_region
  simp [wpOpsS, go_sem, recoverD, hu, Tryd.ntmps34, Exit.thenS]
  refine wpS_of_wp ?_
  have Hu := Lib.hid hu
  have ht : (#[.pointer (some ⟨p, 0, none⟩), .pointer (some ⟨q, 0, none⟩)] ++ ((Array.replicate 22 undef).setIfInBounds 5 .nilIface).setIfInBounds 2 .nilIface : Array Value) = #[(.pointer (some ⟨p, 0, none⟩)), (.pointer (some ⟨q, 0, none⟩)), undef, undef, .nilIface, undef, undef, .nilIface, undef, undef, undef, undef, undef, undef, undef, undef, undef, undef, undef, undef, undef, undef, undef, undef] := by simp [Array.replicate, Array.setIfInBounds]
  rw [ht]
  clear ht hu
  go_wp2
  refine ⟨rfl, .returning, ?_, _, results_none rfl _ _ _, rfl, rfl, rfl⟩
  rw [← Hu.out]

end Go.Proofs.YtgodmbcebpbdiaaDoor.G
end

/- dec.Add and dec.Sub, walked: at every two numbers. -/
section
set_option linter.unusedVariables false
set_option linter.unusedSimpArgs false
namespace Go.Proofs.YtgodmbcebpbdiaaDoor.G
open Go.RowKit Go.Proofs.YtgodmbcebpbdiaaDoorW.PrintWords Go.Proofs.YtgodmbcebpbdiaaDoorW.PrintLast
/-- A sum. -/
def addV (a b : Int) : Int × Int := if (decide (a < 0) == decide (b < 0)) && (decide (wrap64 (a + b) < 0) != decide (a < 0)) then (0, 3) else (wrap64 (a + b), 0)
set_option maxHeartbeats 4000000 in
set_option maxRecDepth 100000 in
theorem add_1 (a b : Int) (w : World) (h1 : decide (a < 0) = true) (h2 : decide (b < 0) = true) (h3 : decide (wrap64 (a + b) < 0) = true) :
    Calls Tryd.prog 23 #[.int .i64 a, .int .i64 b] w fun x w' => x = .returned (.tuple #[.int .i64 (addV a b).1, .int .i64 (addV a b).2]) ∧ Below w.heap.size w w' := by
    have HV := Lib.hid (show addV a b = (wrap64 (a + b), 0) by unfold addV; rw [h1, h2, h3]; rfl)
    go_enter_defers Tryd.func23, Tryd.ntmps23
    go_wp2_with fail
    refine (wrong_no _ _).mono ?_
    rintro e w' ⟨rfl, rfl⟩
    go_wp2
    refine leaves_cons (f := 34) (args := #[.pointer (some ⟨w.heap.size, 0, none⟩), .pointer (some ⟨w.heap.size + 1, 0, none⟩)]) (by simp) (by simp [go_sem]) ?_
    refine (caught_no w.heap.size (w.heap.size + 1) _).mono ?_
    rintro e u' w'' ⟨rfl, rfl, rfl⟩
    simp [Leaves, settle, fault, results, Tryd.results23, go_sem]
    rw [HV.out]
    exact ⟨⟨rfl, rfl⟩, ((Below.refl _ _).alloc (Nat.le_refl _) _).alloc (by simp) _⟩
set_option maxHeartbeats 4000000 in
set_option maxRecDepth 100000 in
theorem add_2 (a b : Int) (w : World) (h1 : decide (a < 0) = true) (h2 : decide (b < 0) = true) (h3 : decide (wrap64 (a + b) < 0) = false) :
    Calls Tryd.prog 23 #[.int .i64 a, .int .i64 b] w fun x w' => x = .returned (.tuple #[.int .i64 (addV a b).1, .int .i64 (addV a b).2]) ∧ Below w.heap.size w w' := by
    have HV := Lib.hid (show addV a b = (0, 3) by unfold addV; rw [h1, h2, h3]; rfl)
    go_enter_defers Tryd.func23, Tryd.ntmps23
    go_wp2_with fail
    refine (wrong_yes _ _).mono ?_
    rintro e w' ⟨rfl, rfl⟩
    refine leaves_cons (f := 34) (args := #[.pointer (some ⟨w.heap.size, 0, none⟩), .pointer (some ⟨w.heap.size + 1, 0, none⟩)]) (by simp) (by simp [go_sem]) ?_
    refine (caught_yes w.heap.size (w.heap.size + 1) (wrap64 (a + b)) 0 3 [] _ (by simp [go_sem]) (by simp [go_sem]) (by simp [go_sem]) (by simp [go_sem]) (by omega)).mono ?_
    rintro e u' w'' ⟨rfl, rfl, rfl⟩
    simp [Leaves, settle, fault, results, Tryd.results23, go_sem]
    rw [HV.out]
    exact ⟨⟨rfl, rfl⟩, below_drew ((((Below.refl _ _).alloc (Nat.le_refl _) _).alloc (by simp) _).alloc (by simp; omega) _)⟩
set_option maxHeartbeats 4000000 in
set_option maxRecDepth 100000 in
theorem add_3 (a b : Int) (w : World) (h1 : decide (a < 0) = true) (h2 : decide (b < 0) = false) (h3 : decide (wrap64 (a + b) < 0) = true) :
    Calls Tryd.prog 23 #[.int .i64 a, .int .i64 b] w fun x w' => x = .returned (.tuple #[.int .i64 (addV a b).1, .int .i64 (addV a b).2]) ∧ Below w.heap.size w w' := by
    have HV := Lib.hid (show addV a b = (wrap64 (a + b), 0) by unfold addV; rw [h1, h2, h3]; rfl)
    go_enter_defers Tryd.func23, Tryd.ntmps23
    go_wp2_with fail
    refine (wrong_no _ _).mono ?_
    rintro e w' ⟨rfl, rfl⟩
    go_wp2
    refine leaves_cons (f := 34) (args := #[.pointer (some ⟨w.heap.size, 0, none⟩), .pointer (some ⟨w.heap.size + 1, 0, none⟩)]) (by simp) (by simp [go_sem]) ?_
    refine (caught_no w.heap.size (w.heap.size + 1) _).mono ?_
    rintro e u' w'' ⟨rfl, rfl, rfl⟩
    simp [Leaves, settle, fault, results, Tryd.results23, go_sem]
    rw [HV.out]
    exact ⟨⟨rfl, rfl⟩, ((Below.refl _ _).alloc (Nat.le_refl _) _).alloc (by simp) _⟩
set_option maxHeartbeats 4000000 in
set_option maxRecDepth 100000 in
theorem add_4 (a b : Int) (w : World) (h1 : decide (a < 0) = true) (h2 : decide (b < 0) = false) (h3 : decide (wrap64 (a + b) < 0) = false) :
    Calls Tryd.prog 23 #[.int .i64 a, .int .i64 b] w fun x w' => x = .returned (.tuple #[.int .i64 (addV a b).1, .int .i64 (addV a b).2]) ∧ Below w.heap.size w w' := by
    have HV := Lib.hid (show addV a b = (wrap64 (a + b), 0) by unfold addV; rw [h1, h2, h3]; rfl)
    go_enter_defers Tryd.func23, Tryd.ntmps23
    go_wp2_with fail
    refine (wrong_no _ _).mono ?_
    rintro e w' ⟨rfl, rfl⟩
    go_wp2
    refine leaves_cons (f := 34) (args := #[.pointer (some ⟨w.heap.size, 0, none⟩), .pointer (some ⟨w.heap.size + 1, 0, none⟩)]) (by simp) (by simp [go_sem]) ?_
    refine (caught_no w.heap.size (w.heap.size + 1) _).mono ?_
    rintro e u' w'' ⟨rfl, rfl, rfl⟩
    simp [Leaves, settle, fault, results, Tryd.results23, go_sem]
    rw [HV.out]
    exact ⟨⟨rfl, rfl⟩, ((Below.refl _ _).alloc (Nat.le_refl _) _).alloc (by simp) _⟩
set_option maxHeartbeats 4000000 in
set_option maxRecDepth 100000 in
theorem add_5 (a b : Int) (w : World) (h1 : decide (a < 0) = false) (h2 : decide (b < 0) = true) (h3 : decide (wrap64 (a + b) < 0) = true) :
    Calls Tryd.prog 23 #[.int .i64 a, .int .i64 b] w fun x w' => x = .returned (.tuple #[.int .i64 (addV a b).1, .int .i64 (addV a b).2]) ∧ Below w.heap.size w w' := by
    have HV := Lib.hid (show addV a b = (wrap64 (a + b), 0) by unfold addV; rw [h1, h2, h3]; rfl)
    go_enter_defers Tryd.func23, Tryd.ntmps23
    go_wp2_with fail
    refine (wrong_no _ _).mono ?_
    rintro e w' ⟨rfl, rfl⟩
    go_wp2
    refine leaves_cons (f := 34) (args := #[.pointer (some ⟨w.heap.size, 0, none⟩), .pointer (some ⟨w.heap.size + 1, 0, none⟩)]) (by simp) (by simp [go_sem]) ?_
    refine (caught_no w.heap.size (w.heap.size + 1) _).mono ?_
    rintro e u' w'' ⟨rfl, rfl, rfl⟩
    simp [Leaves, settle, fault, results, Tryd.results23, go_sem]
    rw [HV.out]
    exact ⟨⟨rfl, rfl⟩, ((Below.refl _ _).alloc (Nat.le_refl _) _).alloc (by simp) _⟩
set_option maxHeartbeats 4000000 in
set_option maxRecDepth 100000 in
theorem add_6 (a b : Int) (w : World) (h1 : decide (a < 0) = false) (h2 : decide (b < 0) = true) (h3 : decide (wrap64 (a + b) < 0) = false) :
    Calls Tryd.prog 23 #[.int .i64 a, .int .i64 b] w fun x w' => x = .returned (.tuple #[.int .i64 (addV a b).1, .int .i64 (addV a b).2]) ∧ Below w.heap.size w w' := by
    have HV := Lib.hid (show addV a b = (wrap64 (a + b), 0) by unfold addV; rw [h1, h2, h3]; rfl)
    go_enter_defers Tryd.func23, Tryd.ntmps23
    go_wp2_with fail
    refine (wrong_no _ _).mono ?_
    rintro e w' ⟨rfl, rfl⟩
    go_wp2
    refine leaves_cons (f := 34) (args := #[.pointer (some ⟨w.heap.size, 0, none⟩), .pointer (some ⟨w.heap.size + 1, 0, none⟩)]) (by simp) (by simp [go_sem]) ?_
    refine (caught_no w.heap.size (w.heap.size + 1) _).mono ?_
    rintro e u' w'' ⟨rfl, rfl, rfl⟩
    simp [Leaves, settle, fault, results, Tryd.results23, go_sem]
    rw [HV.out]
    exact ⟨⟨rfl, rfl⟩, ((Below.refl _ _).alloc (Nat.le_refl _) _).alloc (by simp) _⟩
set_option maxHeartbeats 4000000 in
set_option maxRecDepth 100000 in
theorem add_7 (a b : Int) (w : World) (h1 : decide (a < 0) = false) (h2 : decide (b < 0) = false) (h3 : decide (wrap64 (a + b) < 0) = true) :
    Calls Tryd.prog 23 #[.int .i64 a, .int .i64 b] w fun x w' => x = .returned (.tuple #[.int .i64 (addV a b).1, .int .i64 (addV a b).2]) ∧ Below w.heap.size w w' := by
    have HV := Lib.hid (show addV a b = (0, 3) by unfold addV; rw [h1, h2, h3]; rfl)
    go_enter_defers Tryd.func23, Tryd.ntmps23
    go_wp2_with fail
    refine (wrong_yes _ _).mono ?_
    rintro e w' ⟨rfl, rfl⟩
    refine leaves_cons (f := 34) (args := #[.pointer (some ⟨w.heap.size, 0, none⟩), .pointer (some ⟨w.heap.size + 1, 0, none⟩)]) (by simp) (by simp [go_sem]) ?_
    refine (caught_yes w.heap.size (w.heap.size + 1) (wrap64 (a + b)) 0 3 [] _ (by simp [go_sem]) (by simp [go_sem]) (by simp [go_sem]) (by simp [go_sem]) (by omega)).mono ?_
    rintro e u' w'' ⟨rfl, rfl, rfl⟩
    simp [Leaves, settle, fault, results, Tryd.results23, go_sem]
    rw [HV.out]
    exact ⟨⟨rfl, rfl⟩, below_drew ((((Below.refl _ _).alloc (Nat.le_refl _) _).alloc (by simp) _).alloc (by simp; omega) _)⟩
set_option maxHeartbeats 4000000 in
set_option maxRecDepth 100000 in
theorem add_8 (a b : Int) (w : World) (h1 : decide (a < 0) = false) (h2 : decide (b < 0) = false) (h3 : decide (wrap64 (a + b) < 0) = false) :
    Calls Tryd.prog 23 #[.int .i64 a, .int .i64 b] w fun x w' => x = .returned (.tuple #[.int .i64 (addV a b).1, .int .i64 (addV a b).2]) ∧ Below w.heap.size w w' := by
    have HV := Lib.hid (show addV a b = (wrap64 (a + b), 0) by unfold addV; rw [h1, h2, h3]; rfl)
    go_enter_defers Tryd.func23, Tryd.ntmps23
    go_wp2_with fail
    refine (wrong_no _ _).mono ?_
    rintro e w' ⟨rfl, rfl⟩
    go_wp2
    refine leaves_cons (f := 34) (args := #[.pointer (some ⟨w.heap.size, 0, none⟩), .pointer (some ⟨w.heap.size + 1, 0, none⟩)]) (by simp) (by simp [go_sem]) ?_
    refine (caught_no w.heap.size (w.heap.size + 1) _).mono ?_
    rintro e u' w'' ⟨rfl, rfl, rfl⟩
    simp [Leaves, settle, fault, results, Tryd.results23, go_sem]
    rw [HV.out]
    exact ⟨⟨rfl, rfl⟩, ((Below.refl _ _).alloc (Nat.le_refl _) _).alloc (by simp) _⟩
theorem add_calls (a b : Int) (w : World) : Calls Tryd.prog 23 #[.int .i64 a, .int .i64 b] w fun x w' => x = .returned (.tuple #[.int .i64 (addV a b).1, .int .i64 (addV a b).2]) ∧ Below w.heap.size w w' := by
  cases h1 : decide (a < 0) <;> cases h2 : decide (b < 0) <;> cases h3 : decide (wrap64 (a + b) < 0)
  · exact add_8 a b w h1 h2 h3
  · exact add_7 a b w h1 h2 h3
  · exact add_6 a b w h1 h2 h3
  · exact add_5 a b w h1 h2 h3
  · exact add_4 a b w h1 h2 h3
  · exact add_3 a b w h1 h2 h3
  · exact add_2 a b w h1 h2 h3
  · exact add_1 a b w h1 h2 h3
/-- A difference. -/
def subV (a b : Int) : Int × Int := if (decide (a < 0) != decide (b < 0)) && (decide (wrap64 (a - b) < 0) != decide (a < 0)) then (0, 3) else (wrap64 (a - b), 0)
set_option maxHeartbeats 4000000 in
set_option maxRecDepth 100000 in
theorem sub_1 (a b : Int) (w : World) (h1 : decide (a < 0) = true) (h2 : decide (b < 0) = true) (h3 : decide (wrap64 (a - b) < 0) = true) :
    Calls Tryd.prog 22 #[.int .i64 a, .int .i64 b] w fun x w' => x = .returned (.tuple #[.int .i64 (subV a b).1, .int .i64 (subV a b).2]) ∧ Below w.heap.size w w' := by
    have HV := Lib.hid (show subV a b = (wrap64 (a - b), 0) by unfold subV; rw [h1, h2, h3]; rfl)
    go_enter_defers Tryd.func22, Tryd.ntmps22
    go_wp2_with fail
    refine (wrong_no _ _).mono ?_
    rintro e w' ⟨rfl, rfl⟩
    go_wp2
    refine leaves_cons (f := 34) (args := #[.pointer (some ⟨w.heap.size, 0, none⟩), .pointer (some ⟨w.heap.size + 1, 0, none⟩)]) (by simp) (by simp [go_sem]) ?_
    refine (caught_no w.heap.size (w.heap.size + 1) _).mono ?_
    rintro e u' w'' ⟨rfl, rfl, rfl⟩
    simp [Leaves, settle, fault, results, Tryd.results22, go_sem]
    rw [HV.out]
    exact ⟨⟨rfl, rfl⟩, ((Below.refl _ _).alloc (Nat.le_refl _) _).alloc (by simp) _⟩
set_option maxHeartbeats 4000000 in
set_option maxRecDepth 100000 in
theorem sub_2 (a b : Int) (w : World) (h1 : decide (a < 0) = true) (h2 : decide (b < 0) = true) (h3 : decide (wrap64 (a - b) < 0) = false) :
    Calls Tryd.prog 22 #[.int .i64 a, .int .i64 b] w fun x w' => x = .returned (.tuple #[.int .i64 (subV a b).1, .int .i64 (subV a b).2]) ∧ Below w.heap.size w w' := by
    have HV := Lib.hid (show subV a b = (wrap64 (a - b), 0) by unfold subV; rw [h1, h2, h3]; rfl)
    go_enter_defers Tryd.func22, Tryd.ntmps22
    go_wp2_with fail
    refine (wrong_no _ _).mono ?_
    rintro e w' ⟨rfl, rfl⟩
    go_wp2
    refine leaves_cons (f := 34) (args := #[.pointer (some ⟨w.heap.size, 0, none⟩), .pointer (some ⟨w.heap.size + 1, 0, none⟩)]) (by simp) (by simp [go_sem]) ?_
    refine (caught_no w.heap.size (w.heap.size + 1) _).mono ?_
    rintro e u' w'' ⟨rfl, rfl, rfl⟩
    simp [Leaves, settle, fault, results, Tryd.results22, go_sem]
    rw [HV.out]
    exact ⟨⟨rfl, rfl⟩, ((Below.refl _ _).alloc (Nat.le_refl _) _).alloc (by simp) _⟩
set_option maxHeartbeats 4000000 in
set_option maxRecDepth 100000 in
theorem sub_3 (a b : Int) (w : World) (h1 : decide (a < 0) = true) (h2 : decide (b < 0) = false) (h3 : decide (wrap64 (a - b) < 0) = true) :
    Calls Tryd.prog 22 #[.int .i64 a, .int .i64 b] w fun x w' => x = .returned (.tuple #[.int .i64 (subV a b).1, .int .i64 (subV a b).2]) ∧ Below w.heap.size w w' := by
    have HV := Lib.hid (show subV a b = (wrap64 (a - b), 0) by unfold subV; rw [h1, h2, h3]; rfl)
    go_enter_defers Tryd.func22, Tryd.ntmps22
    go_wp2_with fail
    refine (wrong_no _ _).mono ?_
    rintro e w' ⟨rfl, rfl⟩
    go_wp2
    refine leaves_cons (f := 34) (args := #[.pointer (some ⟨w.heap.size, 0, none⟩), .pointer (some ⟨w.heap.size + 1, 0, none⟩)]) (by simp) (by simp [go_sem]) ?_
    refine (caught_no w.heap.size (w.heap.size + 1) _).mono ?_
    rintro e u' w'' ⟨rfl, rfl, rfl⟩
    simp [Leaves, settle, fault, results, Tryd.results22, go_sem]
    rw [HV.out]
    exact ⟨⟨rfl, rfl⟩, ((Below.refl _ _).alloc (Nat.le_refl _) _).alloc (by simp) _⟩
set_option maxHeartbeats 4000000 in
set_option maxRecDepth 100000 in
theorem sub_4 (a b : Int) (w : World) (h1 : decide (a < 0) = true) (h2 : decide (b < 0) = false) (h3 : decide (wrap64 (a - b) < 0) = false) :
    Calls Tryd.prog 22 #[.int .i64 a, .int .i64 b] w fun x w' => x = .returned (.tuple #[.int .i64 (subV a b).1, .int .i64 (subV a b).2]) ∧ Below w.heap.size w w' := by
    have HV := Lib.hid (show subV a b = (0, 3) by unfold subV; rw [h1, h2, h3]; rfl)
    go_enter_defers Tryd.func22, Tryd.ntmps22
    go_wp2_with fail
    refine (wrong_yes _ _).mono ?_
    rintro e w' ⟨rfl, rfl⟩
    refine leaves_cons (f := 34) (args := #[.pointer (some ⟨w.heap.size, 0, none⟩), .pointer (some ⟨w.heap.size + 1, 0, none⟩)]) (by simp) (by simp [go_sem]) ?_
    refine (caught_yes w.heap.size (w.heap.size + 1) (wrap64 (a - b)) 0 3 [] _ (by simp [go_sem]) (by simp [go_sem]) (by simp [go_sem]) (by simp [go_sem]) (by omega)).mono ?_
    rintro e u' w'' ⟨rfl, rfl, rfl⟩
    simp [Leaves, settle, fault, results, Tryd.results22, go_sem]
    rw [HV.out]
    exact ⟨⟨rfl, rfl⟩, below_drew ((((Below.refl _ _).alloc (Nat.le_refl _) _).alloc (by simp) _).alloc (by simp; omega) _)⟩
set_option maxHeartbeats 4000000 in
set_option maxRecDepth 100000 in
theorem sub_5 (a b : Int) (w : World) (h1 : decide (a < 0) = false) (h2 : decide (b < 0) = true) (h3 : decide (wrap64 (a - b) < 0) = true) :
    Calls Tryd.prog 22 #[.int .i64 a, .int .i64 b] w fun x w' => x = .returned (.tuple #[.int .i64 (subV a b).1, .int .i64 (subV a b).2]) ∧ Below w.heap.size w w' := by
    have HV := Lib.hid (show subV a b = (0, 3) by unfold subV; rw [h1, h2, h3]; rfl)
    go_enter_defers Tryd.func22, Tryd.ntmps22
    go_wp2_with fail
    refine (wrong_yes _ _).mono ?_
    rintro e w' ⟨rfl, rfl⟩
    refine leaves_cons (f := 34) (args := #[.pointer (some ⟨w.heap.size, 0, none⟩), .pointer (some ⟨w.heap.size + 1, 0, none⟩)]) (by simp) (by simp [go_sem]) ?_
    refine (caught_yes w.heap.size (w.heap.size + 1) (wrap64 (a - b)) 0 3 [] _ (by simp [go_sem]) (by simp [go_sem]) (by simp [go_sem]) (by simp [go_sem]) (by omega)).mono ?_
    rintro e u' w'' ⟨rfl, rfl, rfl⟩
    simp [Leaves, settle, fault, results, Tryd.results22, go_sem]
    rw [HV.out]
    exact ⟨⟨rfl, rfl⟩, below_drew ((((Below.refl _ _).alloc (Nat.le_refl _) _).alloc (by simp) _).alloc (by simp; omega) _)⟩
set_option maxHeartbeats 4000000 in
set_option maxRecDepth 100000 in
theorem sub_6 (a b : Int) (w : World) (h1 : decide (a < 0) = false) (h2 : decide (b < 0) = true) (h3 : decide (wrap64 (a - b) < 0) = false) :
    Calls Tryd.prog 22 #[.int .i64 a, .int .i64 b] w fun x w' => x = .returned (.tuple #[.int .i64 (subV a b).1, .int .i64 (subV a b).2]) ∧ Below w.heap.size w w' := by
    have HV := Lib.hid (show subV a b = (wrap64 (a - b), 0) by unfold subV; rw [h1, h2, h3]; rfl)
    go_enter_defers Tryd.func22, Tryd.ntmps22
    go_wp2_with fail
    refine (wrong_no _ _).mono ?_
    rintro e w' ⟨rfl, rfl⟩
    go_wp2
    refine leaves_cons (f := 34) (args := #[.pointer (some ⟨w.heap.size, 0, none⟩), .pointer (some ⟨w.heap.size + 1, 0, none⟩)]) (by simp) (by simp [go_sem]) ?_
    refine (caught_no w.heap.size (w.heap.size + 1) _).mono ?_
    rintro e u' w'' ⟨rfl, rfl, rfl⟩
    simp [Leaves, settle, fault, results, Tryd.results22, go_sem]
    rw [HV.out]
    exact ⟨⟨rfl, rfl⟩, ((Below.refl _ _).alloc (Nat.le_refl _) _).alloc (by simp) _⟩
set_option maxHeartbeats 4000000 in
set_option maxRecDepth 100000 in
theorem sub_7 (a b : Int) (w : World) (h1 : decide (a < 0) = false) (h2 : decide (b < 0) = false) (h3 : decide (wrap64 (a - b) < 0) = true) :
    Calls Tryd.prog 22 #[.int .i64 a, .int .i64 b] w fun x w' => x = .returned (.tuple #[.int .i64 (subV a b).1, .int .i64 (subV a b).2]) ∧ Below w.heap.size w w' := by
    have HV := Lib.hid (show subV a b = (wrap64 (a - b), 0) by unfold subV; rw [h1, h2, h3]; rfl)
    go_enter_defers Tryd.func22, Tryd.ntmps22
    go_wp2_with fail
    refine (wrong_no _ _).mono ?_
    rintro e w' ⟨rfl, rfl⟩
    go_wp2
    refine leaves_cons (f := 34) (args := #[.pointer (some ⟨w.heap.size, 0, none⟩), .pointer (some ⟨w.heap.size + 1, 0, none⟩)]) (by simp) (by simp [go_sem]) ?_
    refine (caught_no w.heap.size (w.heap.size + 1) _).mono ?_
    rintro e u' w'' ⟨rfl, rfl, rfl⟩
    simp [Leaves, settle, fault, results, Tryd.results22, go_sem]
    rw [HV.out]
    exact ⟨⟨rfl, rfl⟩, ((Below.refl _ _).alloc (Nat.le_refl _) _).alloc (by simp) _⟩
set_option maxHeartbeats 4000000 in
set_option maxRecDepth 100000 in
theorem sub_8 (a b : Int) (w : World) (h1 : decide (a < 0) = false) (h2 : decide (b < 0) = false) (h3 : decide (wrap64 (a - b) < 0) = false) :
    Calls Tryd.prog 22 #[.int .i64 a, .int .i64 b] w fun x w' => x = .returned (.tuple #[.int .i64 (subV a b).1, .int .i64 (subV a b).2]) ∧ Below w.heap.size w w' := by
    have HV := Lib.hid (show subV a b = (wrap64 (a - b), 0) by unfold subV; rw [h1, h2, h3]; rfl)
    go_enter_defers Tryd.func22, Tryd.ntmps22
    go_wp2_with fail
    refine (wrong_no _ _).mono ?_
    rintro e w' ⟨rfl, rfl⟩
    go_wp2
    refine leaves_cons (f := 34) (args := #[.pointer (some ⟨w.heap.size, 0, none⟩), .pointer (some ⟨w.heap.size + 1, 0, none⟩)]) (by simp) (by simp [go_sem]) ?_
    refine (caught_no w.heap.size (w.heap.size + 1) _).mono ?_
    rintro e u' w'' ⟨rfl, rfl, rfl⟩
    simp [Leaves, settle, fault, results, Tryd.results22, go_sem]
    rw [HV.out]
    exact ⟨⟨rfl, rfl⟩, ((Below.refl _ _).alloc (Nat.le_refl _) _).alloc (by simp) _⟩
theorem sub_calls (a b : Int) (w : World) : Calls Tryd.prog 22 #[.int .i64 a, .int .i64 b] w fun x w' => x = .returned (.tuple #[.int .i64 (subV a b).1, .int .i64 (subV a b).2]) ∧ Below w.heap.size w w' := by
  cases h1 : decide (a < 0) <;> cases h2 : decide (b < 0) <;> cases h3 : decide (wrap64 (a - b) < 0)
  · exact sub_8 a b w h1 h2 h3
  · exact sub_7 a b w h1 h2 h3
  · exact sub_6 a b w h1 h2 h3
  · exact sub_5 a b w h1 h2 h3
  · exact sub_4 a b w h1 h2 h3
  · exact sub_3 a b w h1 h2 h3
  · exact sub_2 a b w h1 h2 h3
  · exact sub_1 a b w h1 h2 h3
end Go.Proofs.YtgodmbcebpbdiaaDoor.G
end

/- dec.joined, walked, its upper word 0. -/
section
set_option linter.unusedVariables false
set_option linter.unusedSimpArgs false
namespace Go.Proofs.YtgodmbcebpbdiaaDoor.G
open Go.RowKit Go.Proofs.YtgodmbcebpbdiaaDoorW.PrintWords Go.Proofs.YtgodmbcebpbdiaaDoorW.PrintLast
theorem ret_int {k : IntKind} {a b : Int} (h : a = b) : Ending.returned (.int k a) = .returned (.int k b) := by rw [h]
theorem wrapFit {x : Int} (h0 : -9223372036854775808 ≤ x) (h1 : x ≤ 9223372036854775807) : wrap64 x = x := by unfold wrap64; omega
set_option maxHeartbeats 4000000 in
set_option maxRecDepth 100000 in
theorem joined_pos (q : Int) (w : World) (h0 : decide (9223372036854775807 < q) = false) :
    Calls Tryd.prog 39 #[.int .u64 0, .int .u64 q, .bool false] w fun x w' => x = .returned (.int .i64 (wrap64 q)) ∧ w = w' := by
  go_enter Tryd.func39, Tryd.ntmps39
  go_wp2_with fail
  refine (wrong_no _ _).mono ?_
  rintro e w' ⟨rfl, rfl⟩
  go_wp2
  go_ret
  exact ⟨rfl, rfl⟩
set_option maxHeartbeats 4000000 in
set_option maxRecDepth 100000 in
theorem joined_neg (q : Int) (w : World) (h0 : decide (9223372036854775808 < q) = false) :
    Calls Tryd.prog 39 #[.int .u64 0, .int .u64 q, .bool true] w fun x w' => x = .returned (.int .i64 (wrap64 (-wrap64 q))) ∧ w = w' := by
  go_enter Tryd.func39, Tryd.ntmps39
  go_wp2_with fail
  refine (wrong_no _ _).mono ?_
  rintro e w' ⟨rfl, rfl⟩
  go_wp2
  go_ret
  exact ⟨rfl, rfl⟩
set_option maxHeartbeats 4000000 in
set_option maxRecDepth 100000 in
theorem joined_pover (q : Int) (w : World) (h0 : decide (9223372036854775807 < q) = true) :
    Calls Tryd.prog 39 #[.int .u64 0, .int .u64 q, .bool false] w fun x w' => x = .panicked [fault 3] ∧ w = w' := by
  go_enter Tryd.func39, Tryd.ntmps39
  go_wp2_with fail
  refine (wrong_yes _ _).mono ?_
  rintro e w' ⟨rfl, rfl⟩
  exact ⟨rfl, rfl, rfl⟩
set_option maxHeartbeats 4000000 in
set_option maxRecDepth 100000 in
theorem joined_nover (q : Int) (w : World) (h0 : decide (9223372036854775808 < q) = true) :
    Calls Tryd.prog 39 #[.int .u64 0, .int .u64 q, .bool true] w fun x w' => x = .panicked [fault 3] ∧ w = w' := by
  go_enter Tryd.func39, Tryd.ntmps39
  go_wp2_with fail
  refine (wrong_yes _ _).mono ?_
  rintro e w' ⟨rfl, rfl⟩
  exact ⟨rfl, rfl, rfl⟩

/-- A number of two words and a sign, its upper word 0; none: it gives up. -/
def joinV (q : Nat) (below : Bool) : Option Int := if below then (if q ≤ 9223372036854775808 then some (-(q : Int)) else none) else (if q ≤ 9223372036854775807 then some (q : Int) else none)
theorem joined_some (q : Nat) (below : Bool) (v : Int) (w : World) (hq : q < 18446744073709551616) (h : joinV q below = some v) :
    Calls Tryd.prog 39 #[.int .u64 0, .int .u64 q, .bool below] w fun x w' => x = .returned (.int .i64 v) ∧ w = w' := by
  unfold joinV at h
  cases below with
  | false =>
    by_cases hl : q ≤ 9223372036854775807
    · rw [if_neg (by decide), if_pos hl] at h
      obtain rfl := Option.some.inj h
      have := joined_pos q w (decide_eq_false (by omega))
      rw [wrapFit (x := (q : Int)) (by omega) (by omega)] at this
      exact this
    · rw [if_neg (by decide), if_neg hl] at h; cases h
  | true =>
    by_cases hl : q ≤ 9223372036854775808
    · rw [if_pos rfl, if_pos hl] at h
      obtain rfl := Option.some.inj h
      have := joined_neg q w (decide_eq_false (by omega))
      have e : wrap64 (-wrap64 (q : Int)) = -(q : Int) := by unfold wrap64; omega
      rw [e] at this
      exact this
    · rw [if_pos rfl, if_neg hl] at h; cases h
theorem joined_none (q : Nat) (below : Bool) (w : World) (h : joinV q below = none) :
    Calls Tryd.prog 39 #[.int .u64 0, .int .u64 q, .bool below] w fun x w' => x = .panicked [fault 3] ∧ w = w' := by
  unfold joinV at h
  cases below with
  | false =>
    by_cases hl : q ≤ 9223372036854775807
    · rw [if_neg (by decide), if_pos hl] at h; cases h
    · exact joined_pover q w (decide_eq_true (by omega))
  | true =>
    by_cases hl : q ≤ 9223372036854775808
    · rw [if_pos rfl, if_pos hl] at h; cases h
    · exact joined_nover q w (decide_eq_true (by omega))
/-! ### a number without its sign -/
set_option maxHeartbeats 4000000 in
theorem split_neg (n : Int) (w : World) (h0 : decide (n < 0) = true) :
    Calls Tryd.prog 43 #[.int .i64 n] w fun x w' => x = .returned (.tuple #[.int .u64 (IntKind.u64.wrap (-IntKind.u64.wrap n)), .bool true]) ∧ w = w' := by
  go_enter Tryd.func43, Tryd.ntmps43
  go_wp2
  go_ret2
  exact ⟨rfl, rfl⟩
set_option maxHeartbeats 4000000 in
theorem split_pos (n : Int) (w : World) (h0 : decide (n < 0) = false) :
    Calls Tryd.prog 43 #[.int .i64 n] w fun x w' => x = .returned (.tuple #[.int .u64 (IntKind.u64.wrap n), .bool false]) ∧ w = w' := by
  go_enter Tryd.func43, Tryd.ntmps43
  go_wp2
  go_ret2
  exact ⟨rfl, rfl⟩
end Go.Proofs.YtgodmbcebpbdiaaDoor.G
end

/- math/bits.LeadingZeros64, as a Lean function. -/
section
set_option linter.unusedVariables false
set_option linter.unusedSimpArgs false
namespace Go.Proofs.YtgodmbcebpbdiaaDoor.G
open Go.RowKit Go.Proofs.YtgodmbcebpbdiaaDoorW.PrintWords Go.Proofs.YtgodmbcebpbdiaaDoorW.PrintLast
def bits_LeadingZeros64.f (x : Int) : Option Int := if 0 ≤ x ∧ x ≤ 18446744073709551615 then some (64 - (Lib.bitLen x.toNat : Int)) else none
theorem bits_LeadingZeros64.calls (x r : Int) (w : World) (h : bits_LeadingZeros64.f x = some r) :
    Calls Tryd.prog 68 #[.int .u64 x] w fun e w' => e = .returned (.int .i64 r) ∧ Drawn0 w w' := by
  unfold bits_LeadingZeros64.f at h
  by_cases hx : 0 ≤ x ∧ x ≤ 18446744073709551615
  · rw [if_pos hx] at h
    obtain rfl := Option.some.inj h
    refine (Tryd.bits_LeadingZeros64 x w hx.1 hx.2).mono ?_
    rintro e w' ⟨rfl, rfl⟩
    exact ⟨rfl, Drawn0.refl _⟩
  · rw [if_neg hx] at h; cases h
end Go.Proofs.YtgodmbcebpbdiaaDoor.G
end

/- The Go functions of this part as Lean functions, each with a proof that a call of it comes to just what the Lean function does. Written by a program of the session's. Conditions: none but those in each theorem. -/
section
namespace Go.Proofs.YtgodmbcebpbdiaaDoor.Q0
open Go.Proofs.YtgodmbcebpbdiaaDoor.G
open Go.RowKit Go.Proofs.YtgodmbcebpbdiaaDoorW.PrintWords Go.Proofs.YtgodmbcebpbdiaaDoorW.PrintLast Go.Proofs.YtgodmbcebpbdiaaDoorW.PrintMore
attribute [local go_sem] max2_int min2_int max_two min_two max_three min_three max_four min_four   -- for this text's walks alone
set_option linter.unusedVariables false
set_option linter.unusedSimpArgs false



def errW : Option Int → Value
  | none => .nilIface
  | some c => .iface 0 (.int .i64 c)
theorem errW_none : errW none = .nilIface := rfl
theorem errW_some (c : Int) : errW (some c) = .iface 0 (.int .i64 c) := rfl

-- the values' own types

end Go.Proofs.YtgodmbcebpbdiaaDoor.Q0
end

/- The Go functions of this part as Lean functions, each with a proof that a call of it comes to just what the Lean function does. Written by a program of the session's. Conditions: none but those in each theorem. -/
section
namespace Go.Proofs.YtgodmbcebpbdiaaDoor.Q0
open Go.Proofs.YtgodmbcebpbdiaaDoor.G
open Go.RowKit Go.Proofs.YtgodmbcebpbdiaaDoorW.PrintWords Go.Proofs.YtgodmbcebpbdiaaDoorW.PrintLast Go.Proofs.YtgodmbcebpbdiaaDoorW.PrintMore
attribute [local go_sem] max2_int min2_int max_two min_two max_three min_three max_four min_four   -- for this text's walks alone
set_option linter.unusedVariables false
set_option linter.unusedSimpArgs false

-- GIVEN: function 68 (bits_LeadingZeros64)

/-! ### bits_Div64: function 62 -/
mutual
def bits_Div64.j2 : Nat → Int → Int → Int → Int → Int → Int → Int → Int → Option (Int × Int)
  | 0, _, _, _, _, _, _, _, _ => none
  | k + 1, x2, x8, x9, x10, x11, x13, x14, x15 => if x9 = 0 then (none) else (bits_Div64.l1 k x2 x8 x9 x10 x14 x15 (IntKind.u64.wrap ((IntKind.u64.wrap ((IntKind.u64.wrap ((IntKind.u64.wrap (x11 * 4294967296)) + x13)) - (IntKind.u64.wrap (x15 * x2)))) - (IntKind.u64.wrap ((IntKind.u64.wrap (Int.tdiv (IntKind.u64.wrap ((IntKind.u64.wrap ((IntKind.u64.wrap (x11 * 4294967296)) + x13)) - (IntKind.u64.wrap (x15 * x2)))) x9)) * x9)))) (IntKind.u64.wrap ((IntKind.u64.wrap ((IntKind.u64.wrap (x11 * 4294967296)) + x13)) - (IntKind.u64.wrap (x15 * x2)))) (IntKind.u64.wrap (Int.tdiv (IntKind.u64.wrap ((IntKind.u64.wrap ((IntKind.u64.wrap (x11 * 4294967296)) + x13)) - (IntKind.u64.wrap (x15 * x2)))) x9)))
def bits_Div64.l1 : Nat → Int → Int → Int → Int → Int → Int → Int → Int → Int → Option (Int × Int)
  | 0, _, _, _, _, _, _, _, _, _ => none
  | k + 1, x2, x8, x9, x10, x14, x15, x16, x17, x18 => if x18 ≥ 4294967296 then (bits_Div64.j4 k x2 x8 x9 x10 x14 x15 x16 x17 x18 true) else (bits_Div64.j4 k x2 x8 x9 x10 x14 x15 x16 x17 x18 (decide ((IntKind.u64.wrap (x18 * x10)) > (IntKind.u64.wrap ((IntKind.u64.wrap (4294967296 * x16)) + x14)))))
def bits_Div64.j4 : Nat → Int → Int → Int → Int → Int → Int → Int → Int → Int → Bool → Option (Int × Int)
  | 0, _, _, _, _, _, _, _, _, _, _ => none
  | k + 1, x2, x8, x9, x10, x14, x15, x16, x17, x18, x113 => if x113 = true then (if (IntKind.u64.wrap (x16 + x9)) ≥ 4294967296 then (if 0 ≤ x8 then (some (IntKind.u64.wrap ((IntKind.u64.wrap (x15 * 4294967296)) + (IntKind.u64.wrap (x18 - 1))), shr .u64 (IntKind.u64.wrap ((IntKind.u64.wrap ((IntKind.u64.wrap (x17 * 4294967296)) + x14)) - (IntKind.u64.wrap ((IntKind.u64.wrap (x18 - 1)) * x2)))) x8)) else (none)) else (bits_Div64.l1 k x2 x8 x9 x10 x14 x15 (IntKind.u64.wrap (x16 + x9)) x17 (IntKind.u64.wrap (x18 - 1)))) else (if 0 ≤ x8 then (some (IntKind.u64.wrap ((IntKind.u64.wrap (x15 * 4294967296)) + x18), shr .u64 (IntKind.u64.wrap ((IntKind.u64.wrap ((IntKind.u64.wrap (x17 * 4294967296)) + x14)) - (IntKind.u64.wrap (x18 * x2)))) x8)) else (none))
def bits_Div64.l0 : Nat → Int → Int → Int → Int → Int → Int → Int → Int → Int → Option (Int × Int)
  | 0, _, _, _, _, _, _, _, _, _ => none
  | k + 1, x2, x8, x9, x10, x11, x13, x14, x15, x16 => if x15 ≥ 4294967296 then (bits_Div64.j1 k x2 x8 x9 x10 x11 x13 x14 x15 x16 true) else (bits_Div64.j1 k x2 x8 x9 x10 x11 x13 x14 x15 x16 (decide ((IntKind.u64.wrap (x15 * x10)) > (IntKind.u64.wrap ((IntKind.u64.wrap (4294967296 * x16)) + x13)))))
def bits_Div64.j1 : Nat → Int → Int → Int → Int → Int → Int → Int → Int → Int → Bool → Option (Int × Int)
  | 0, _, _, _, _, _, _, _, _, _, _ => none
  | k + 1, x2, x8, x9, x10, x11, x13, x14, x15, x16, x78 => if x78 = true then (if (IntKind.u64.wrap (x16 + x9)) ≥ 4294967296 then (bits_Div64.j2 k x2 x8 x9 x10 x11 x13 x14 (IntKind.u64.wrap (x15 - 1))) else (bits_Div64.l0 k x2 x8 x9 x10 x11 x13 x14 (IntKind.u64.wrap (x15 - 1)) (IntKind.u64.wrap (x16 + x9)))) else (bits_Div64.j2 k x2 x8 x9 x10 x11 x13 x14 x15)
end
def bits_Div64.f (k : Nat) (a0 : Int) (a1 : Int) (a2 : Int) : Option (Int × Int) := if a2 = 0 then (none) else (if a2 ≤ a0 then (none) else (if a0 = 0 then (some (IntKind.u64.wrap (Int.tdiv a1 a2), Int.tmod a1 a2)) else ((bits_LeadingZeros64.f a2).bind fun t101 => (if 0 ≤ (IntKind.u64.wrap (t101)) then (if 0 ≤ (IntKind.u64.wrap (64 - (IntKind.u64.wrap (t101)))) then (if ((shl .u64 a2 (IntKind.u64.wrap (t101))) / 4294967296) = 0 then (none) else (bits_Div64.l0 k (shl .u64 a2 (IntKind.u64.wrap (t101))) (IntKind.u64.wrap (t101)) ((shl .u64 a2 (IntKind.u64.wrap (t101))) / 4294967296) (Go.bits .and .u64 (shl .u64 a2 (IntKind.u64.wrap (t101))) 4294967295) (Go.bits .or .u64 (shl .u64 a0 (IntKind.u64.wrap (t101))) (shr .u64 a1 (IntKind.u64.wrap (64 - (IntKind.u64.wrap (t101)))))) ((shl .u64 a1 (IntKind.u64.wrap (t101))) / 4294967296) (Go.bits .and .u64 (shl .u64 a1 (IntKind.u64.wrap (t101))) 4294967295) (IntKind.u64.wrap (Int.tdiv (Go.bits .or .u64 (shl .u64 a0 (IntKind.u64.wrap (t101))) (shr .u64 a1 (IntKind.u64.wrap (64 - (IntKind.u64.wrap (t101)))))) ((shl .u64 a2 (IntKind.u64.wrap (t101))) / 4294967296))) (IntKind.u64.wrap ((Go.bits .or .u64 (shl .u64 a0 (IntKind.u64.wrap (t101))) (shr .u64 a1 (IntKind.u64.wrap (64 - (IntKind.u64.wrap (t101)))))) - (IntKind.u64.wrap ((IntKind.u64.wrap (Int.tdiv (Go.bits .or .u64 (shl .u64 a0 (IntKind.u64.wrap (t101))) (shr .u64 a1 (IntKind.u64.wrap (64 - (IntKind.u64.wrap (t101)))))) ((shl .u64 a2 (IntKind.u64.wrap (t101))) / 4294967296))) * ((shl .u64 a2 (IntKind.u64.wrap (t101))) / 4294967296))))))) else (none)) else (none)))))
theorem bits_Div64.mono_l : ∀ k, (∀ y0 y1 y2 y3 y4 y5 y6 y7, LeO (bits_Div64.j2 k y0 y1 y2 y3 y4 y5 y6 y7) (bits_Div64.j2 (k + 1) y0 y1 y2 y3 y4 y5 y6 y7)) ∧ (∀ y0 y1 y2 y3 y4 y5 y6 y7 y8, LeO (bits_Div64.l1 k y0 y1 y2 y3 y4 y5 y6 y7 y8) (bits_Div64.l1 (k + 1) y0 y1 y2 y3 y4 y5 y6 y7 y8)) ∧ (∀ y0 y1 y2 y3 y4 y5 y6 y7 y8 y9, LeO (bits_Div64.j4 k y0 y1 y2 y3 y4 y5 y6 y7 y8 y9) (bits_Div64.j4 (k + 1) y0 y1 y2 y3 y4 y5 y6 y7 y8 y9)) ∧ (∀ y0 y1 y2 y3 y4 y5 y6 y7 y8, LeO (bits_Div64.l0 k y0 y1 y2 y3 y4 y5 y6 y7 y8) (bits_Div64.l0 (k + 1) y0 y1 y2 y3 y4 y5 y6 y7 y8)) ∧ (∀ y0 y1 y2 y3 y4 y5 y6 y7 y8 y9, LeO (bits_Div64.j1 k y0 y1 y2 y3 y4 y5 y6 y7 y8 y9) (bits_Div64.j1 (k + 1) y0 y1 y2 y3 y4 y5 y6 y7 y8 y9))
  | 0 => ⟨fun _ _ _ _ _ _ _ _ r h => by simp [bits_Div64.j2] at h, fun _ _ _ _ _ _ _ _ _ r h => by simp [bits_Div64.l1] at h, fun _ _ _ _ _ _ _ _ _ _ r h => by simp [bits_Div64.j4] at h, fun _ _ _ _ _ _ _ _ _ r h => by simp [bits_Div64.l0] at h, fun _ _ _ _ _ _ _ _ _ _ r h => by simp [bits_Div64.j1] at h⟩
  | k + 1 => by
    obtain ⟨ih0, ih1, ih2, ih3, ih4⟩ := bits_Div64.mono_l k
    refine ⟨?_, ?_, ?_, ?_, ?_⟩
    · intro y0 y1 y2 y3 y4 y5 y6 y7
      unfold bits_Div64.j2
      repeat' first
      | (with_reducible exact ih0 _ _ _ _ _ _ _ _)
      | (with_reducible exact ih1 _ _ _ _ _ _ _ _ _)
      | (with_reducible exact ih2 _ _ _ _ _ _ _ _ _ _)
      | (with_reducible exact ih3 _ _ _ _ _ _ _ _ _)
      | (with_reducible exact ih4 _ _ _ _ _ _ _ _ _ _)
      | (with_reducible exact LeO.refl _)
      | (with_reducible exact LeO.none _)
      | (with_reducible refine LeO.ite ?_ ?_)
      | (with_reducible refine LeO.bind ?_ (fun _ => ?_))
      | exact ih0 _ _ _ _ _ _ _ _
      | exact ih1 _ _ _ _ _ _ _ _ _
      | exact ih2 _ _ _ _ _ _ _ _ _ _
      | exact ih3 _ _ _ _ _ _ _ _ _
      | exact ih4 _ _ _ _ _ _ _ _ _ _
      | exact LeO.none _
      | refine LeO.ite ?_ ?_
      | refine LeO.bind ?_ (fun _ => ?_)
    · intro y0 y1 y2 y3 y4 y5 y6 y7 y8
      unfold bits_Div64.l1
      repeat' first
      | (with_reducible exact ih0 _ _ _ _ _ _ _ _)
      | (with_reducible exact ih1 _ _ _ _ _ _ _ _ _)
      | (with_reducible exact ih2 _ _ _ _ _ _ _ _ _ _)
      | (with_reducible exact ih3 _ _ _ _ _ _ _ _ _)
      | (with_reducible exact ih4 _ _ _ _ _ _ _ _ _ _)
      | (with_reducible exact LeO.refl _)
      | (with_reducible exact LeO.none _)
      | (with_reducible refine LeO.ite ?_ ?_)
      | (with_reducible refine LeO.bind ?_ (fun _ => ?_))
      | exact ih0 _ _ _ _ _ _ _ _
      | exact ih1 _ _ _ _ _ _ _ _ _
      | exact ih2 _ _ _ _ _ _ _ _ _ _
      | exact ih3 _ _ _ _ _ _ _ _ _
      | exact ih4 _ _ _ _ _ _ _ _ _ _
      | exact LeO.none _
      | refine LeO.ite ?_ ?_
      | refine LeO.bind ?_ (fun _ => ?_)
    · intro y0 y1 y2 y3 y4 y5 y6 y7 y8 y9
      unfold bits_Div64.j4
      repeat' first
      | (with_reducible exact ih0 _ _ _ _ _ _ _ _)
      | (with_reducible exact ih1 _ _ _ _ _ _ _ _ _)
      | (with_reducible exact ih2 _ _ _ _ _ _ _ _ _ _)
      | (with_reducible exact ih3 _ _ _ _ _ _ _ _ _)
      | (with_reducible exact ih4 _ _ _ _ _ _ _ _ _ _)
      | (with_reducible exact LeO.refl _)
      | (with_reducible exact LeO.none _)
      | (with_reducible refine LeO.ite ?_ ?_)
      | (with_reducible refine LeO.bind ?_ (fun _ => ?_))
      | exact ih0 _ _ _ _ _ _ _ _
      | exact ih1 _ _ _ _ _ _ _ _ _
      | exact ih2 _ _ _ _ _ _ _ _ _ _
      | exact ih3 _ _ _ _ _ _ _ _ _
      | exact ih4 _ _ _ _ _ _ _ _ _ _
      | exact LeO.none _
      | refine LeO.ite ?_ ?_
      | refine LeO.bind ?_ (fun _ => ?_)
    · intro y0 y1 y2 y3 y4 y5 y6 y7 y8
      unfold bits_Div64.l0
      repeat' first
      | (with_reducible exact ih0 _ _ _ _ _ _ _ _)
      | (with_reducible exact ih1 _ _ _ _ _ _ _ _ _)
      | (with_reducible exact ih2 _ _ _ _ _ _ _ _ _ _)
      | (with_reducible exact ih3 _ _ _ _ _ _ _ _ _)
      | (with_reducible exact ih4 _ _ _ _ _ _ _ _ _ _)
      | (with_reducible exact LeO.refl _)
      | (with_reducible exact LeO.none _)
      | (with_reducible refine LeO.ite ?_ ?_)
      | (with_reducible refine LeO.bind ?_ (fun _ => ?_))
      | exact ih0 _ _ _ _ _ _ _ _
      | exact ih1 _ _ _ _ _ _ _ _ _
      | exact ih2 _ _ _ _ _ _ _ _ _ _
      | exact ih3 _ _ _ _ _ _ _ _ _
      | exact ih4 _ _ _ _ _ _ _ _ _ _
      | exact LeO.none _
      | refine LeO.ite ?_ ?_
      | refine LeO.bind ?_ (fun _ => ?_)
    · intro y0 y1 y2 y3 y4 y5 y6 y7 y8 y9
      unfold bits_Div64.j1
      repeat' first
      | (with_reducible exact ih0 _ _ _ _ _ _ _ _)
      | (with_reducible exact ih1 _ _ _ _ _ _ _ _ _)
      | (with_reducible exact ih2 _ _ _ _ _ _ _ _ _ _)
      | (with_reducible exact ih3 _ _ _ _ _ _ _ _ _)
      | (with_reducible exact ih4 _ _ _ _ _ _ _ _ _ _)
      | (with_reducible exact LeO.refl _)
      | (with_reducible exact LeO.none _)
      | (with_reducible refine LeO.ite ?_ ?_)
      | (with_reducible refine LeO.bind ?_ (fun _ => ?_))
      | exact ih0 _ _ _ _ _ _ _ _
      | exact ih1 _ _ _ _ _ _ _ _ _
      | exact ih2 _ _ _ _ _ _ _ _ _ _
      | exact ih3 _ _ _ _ _ _ _ _ _
      | exact ih4 _ _ _ _ _ _ _ _ _ _
      | exact LeO.none _
      | refine LeO.ite ?_ ?_
      | refine LeO.bind ?_ (fun _ => ?_)
theorem bits_Div64.mono : ∀ a0 a1 a2 k, LeO (bits_Div64.f k a0 a1 a2) (bits_Div64.f (k + 1) a0 a1 a2) := by
  intro a0 a1 a2 k
  obtain ⟨ih0, ih1, ih2, ih3, ih4⟩ := bits_Div64.mono_l k
  unfold bits_Div64.f
  repeat' first
      | (with_reducible exact ih0 _ _ _ _ _ _ _ _)
      | (with_reducible exact ih1 _ _ _ _ _ _ _ _ _)
      | (with_reducible exact ih2 _ _ _ _ _ _ _ _ _ _)
      | (with_reducible exact ih3 _ _ _ _ _ _ _ _ _)
      | (with_reducible exact ih4 _ _ _ _ _ _ _ _ _ _)
      | (with_reducible exact LeO.refl _)
      | (with_reducible exact LeO.none _)
      | (with_reducible refine LeO.ite ?_ ?_)
      | (with_reducible refine LeO.bind ?_ (fun _ => ?_))
      | exact ih0 _ _ _ _ _ _ _ _
      | exact ih1 _ _ _ _ _ _ _ _ _
      | exact ih2 _ _ _ _ _ _ _ _ _ _
      | exact ih3 _ _ _ _ _ _ _ _ _
      | exact ih4 _ _ _ _ _ _ _ _ _ _
      | exact LeO.none _
      | refine LeO.ite ?_ ?_
      | refine LeO.bind ?_ (fun _ => ?_)
set_option maxHeartbeats 8000000 in
set_option maxRecDepth 100000 in
theorem bits_Div64.calls (k : Nat) (a0 : Int) (a1 : Int) (a2 : Int) (r1 : Int) (r2 : Int) (w : World) (h : bits_Div64.f k a0 a1 a2 = some (r1, r2)) :
    Calls Tryd.prog 62 #[.int .u64 a0, .int .u64 a1, .int .u64 a2] w fun e w' => e = .returned (.tuple #[.int .u64 r1, .int .u64 r2]) ∧ Drawn0 w w' := by
  have H : (if a2 = 0 then (none) else (if a2 ≤ a0 then (none) else (if a0 = 0 then (some (IntKind.u64.wrap (Int.tdiv a1 a2), Int.tmod a1 a2)) else ((bits_LeadingZeros64.f a2).bind fun t101 => (if 0 ≤ (IntKind.u64.wrap (t101)) then (if 0 ≤ (IntKind.u64.wrap (64 - (IntKind.u64.wrap (t101)))) then (if ((shl .u64 a2 (IntKind.u64.wrap (t101))) / 4294967296) = 0 then (none) else (bits_Div64.l0 k (shl .u64 a2 (IntKind.u64.wrap (t101))) (IntKind.u64.wrap (t101)) ((shl .u64 a2 (IntKind.u64.wrap (t101))) / 4294967296) (Go.bits .and .u64 (shl .u64 a2 (IntKind.u64.wrap (t101))) 4294967295) (Go.bits .or .u64 (shl .u64 a0 (IntKind.u64.wrap (t101))) (shr .u64 a1 (IntKind.u64.wrap (64 - (IntKind.u64.wrap (t101)))))) ((shl .u64 a1 (IntKind.u64.wrap (t101))) / 4294967296) (Go.bits .and .u64 (shl .u64 a1 (IntKind.u64.wrap (t101))) 4294967295) (IntKind.u64.wrap (Int.tdiv (Go.bits .or .u64 (shl .u64 a0 (IntKind.u64.wrap (t101))) (shr .u64 a1 (IntKind.u64.wrap (64 - (IntKind.u64.wrap (t101)))))) ((shl .u64 a2 (IntKind.u64.wrap (t101))) / 4294967296))) (IntKind.u64.wrap ((Go.bits .or .u64 (shl .u64 a0 (IntKind.u64.wrap (t101))) (shr .u64 a1 (IntKind.u64.wrap (64 - (IntKind.u64.wrap (t101)))))) - (IntKind.u64.wrap ((IntKind.u64.wrap (Int.tdiv (Go.bits .or .u64 (shl .u64 a0 (IntKind.u64.wrap (t101))) (shr .u64 a1 (IntKind.u64.wrap (64 - (IntKind.u64.wrap (t101)))))) ((shl .u64 a2 (IntKind.u64.wrap (t101))) / 4294967296))) * ((shl .u64 a2 (IntKind.u64.wrap (t101))) / 4294967296))))))) else (none)) else (none)))))) = some (r1, r2) := h
  clear h
  by_cases c4 : a2 = 0
  · rw [if_pos c4] at H
    exact absurd H (by simp)
  · rw [if_neg c4] at H
    have c4b0 : (a2 == 0) = false := beq_eq_false_iff_ne.mpr c4
    have c4b1 : (a2 != 0) = true := bne_iff_ne.mpr c4
    by_cases c5 : a2 ≤ a0
    · rw [if_pos c5] at H
      exact absurd H (by simp)
    · rw [if_neg c5] at H
      have c5b0 : decide (a2 ≤ a0) = false := decide_eq_false c5
      clear c5
      by_cases c6 : a0 = 0
      · rw [if_pos c6] at H
        have c6b0 : (a0 == 0) = true := beq_iff_eq.mpr c6
        have c6b1 : (a0 != 0) = false := bne_eq_false_iff_eq.mpr c6
        clear c6
        simp only [Option.some.injEq, Prod.mk.injEq] at H
        obtain ⟨rfl, rfl⟩ := H
        go_enter Tryd.func62, Tryd.ntmps62
        go_wp2
        repeat (go_quiet (fail); try go_wp2)
        go_ret2
        exact ⟨by first | rfl | (simp; done) | (simp [*]; done), by repeat (first | exact Drawn0.refl _ | apply Drawn0.step)⟩
      · rw [if_neg c6] at H
        have c6b0 : (a0 == 0) = false := beq_eq_false_iff_ne.mpr c6
        have c6b1 : (a0 != 0) = true := bne_iff_ne.mpr c6
        replace H := Option.bind_eq_some_iff.mp H
        obtain ⟨t101, A70, H⟩ := H
        replace H : (if 0 ≤ (IntKind.u64.wrap (t101)) then (if 0 ≤ (IntKind.u64.wrap (64 - (IntKind.u64.wrap (t101)))) then (if ((shl .u64 a2 (IntKind.u64.wrap (t101))) / 4294967296) = 0 then (none) else (bits_Div64.l0 k (shl .u64 a2 (IntKind.u64.wrap (t101))) (IntKind.u64.wrap (t101)) ((shl .u64 a2 (IntKind.u64.wrap (t101))) / 4294967296) (Go.bits .and .u64 (shl .u64 a2 (IntKind.u64.wrap (t101))) 4294967295) (Go.bits .or .u64 (shl .u64 a0 (IntKind.u64.wrap (t101))) (shr .u64 a1 (IntKind.u64.wrap (64 - (IntKind.u64.wrap (t101)))))) ((shl .u64 a1 (IntKind.u64.wrap (t101))) / 4294967296) (Go.bits .and .u64 (shl .u64 a1 (IntKind.u64.wrap (t101))) 4294967295) (IntKind.u64.wrap (Int.tdiv (Go.bits .or .u64 (shl .u64 a0 (IntKind.u64.wrap (t101))) (shr .u64 a1 (IntKind.u64.wrap (64 - (IntKind.u64.wrap (t101)))))) ((shl .u64 a2 (IntKind.u64.wrap (t101))) / 4294967296))) (IntKind.u64.wrap ((Go.bits .or .u64 (shl .u64 a0 (IntKind.u64.wrap (t101))) (shr .u64 a1 (IntKind.u64.wrap (64 - (IntKind.u64.wrap (t101)))))) - (IntKind.u64.wrap ((IntKind.u64.wrap (Int.tdiv (Go.bits .or .u64 (shl .u64 a0 (IntKind.u64.wrap (t101))) (shr .u64 a1 (IntKind.u64.wrap (64 - (IntKind.u64.wrap (t101)))))) ((shl .u64 a2 (IntKind.u64.wrap (t101))) / 4294967296))) * ((shl .u64 a2 (IntKind.u64.wrap (t101))) / 4294967296))))))) else (none)) else (none)) = some (r1, r2) := H
        have A7 := Aside0.mk A70
        clear A70
        obtain ⟨ji8, hji8⟩ : ∃ j_ : Int, (IntKind.u64.wrap (t101)) = j_ := ⟨_, rfl⟩
        replace H : (if 0 ≤ (ji8) then (if 0 ≤ (IntKind.u64.wrap (64 - (ji8))) then (if ((shl .u64 a2 (ji8)) / 4294967296) = 0 then (none) else (bits_Div64.l0 k (shl .u64 a2 (ji8)) ji8 ((shl .u64 a2 (ji8)) / 4294967296) (Go.bits .and .u64 (shl .u64 a2 (ji8)) 4294967295) (Go.bits .or .u64 (shl .u64 a0 (ji8)) (shr .u64 a1 (IntKind.u64.wrap (64 - (ji8))))) ((shl .u64 a1 (ji8)) / 4294967296) (Go.bits .and .u64 (shl .u64 a1 (ji8)) 4294967295) (IntKind.u64.wrap (Int.tdiv (Go.bits .or .u64 (shl .u64 a0 (ji8)) (shr .u64 a1 (IntKind.u64.wrap (64 - (ji8))))) ((shl .u64 a2 (ji8)) / 4294967296))) (IntKind.u64.wrap ((Go.bits .or .u64 (shl .u64 a0 (ji8)) (shr .u64 a1 (IntKind.u64.wrap (64 - (ji8))))) - (IntKind.u64.wrap ((IntKind.u64.wrap (Int.tdiv (Go.bits .or .u64 (shl .u64 a0 (ji8)) (shr .u64 a1 (IntKind.u64.wrap (64 - (ji8))))) ((shl .u64 a2 (ji8)) / 4294967296))) * ((shl .u64 a2 (ji8)) / 4294967296))))))) else (none)) else (none)) = some (r1, r2) := by first | (rw [hji8] at H; exact H) | (simp only [hji8] at H ⊢; exact H)
        (try rw [hji8] at A7)
        by_cases c9 : 0 ≤ (ji8)
        · rw [if_pos c9] at H
          have c9b0 := eq_true c9
          have c9b1 : decide (0 ≤ (ji8)) = true := decide_eq_true c9
          clear c9
          obtain ⟨ji10, hji10⟩ : ∃ j_ : Int, (shl .u64 a2 (ji8)) = j_ := ⟨_, rfl⟩
          replace H : (if 0 ≤ (IntKind.u64.wrap (64 - (ji8))) then (if ((ji10) / 4294967296) = 0 then (none) else (bits_Div64.l0 k ji10 ji8 ((ji10) / 4294967296) (Go.bits .and .u64 (ji10) 4294967295) (Go.bits .or .u64 (shl .u64 a0 (ji8)) (shr .u64 a1 (IntKind.u64.wrap (64 - (ji8))))) ((shl .u64 a1 (ji8)) / 4294967296) (Go.bits .and .u64 (shl .u64 a1 (ji8)) 4294967295) (IntKind.u64.wrap (Int.tdiv (Go.bits .or .u64 (shl .u64 a0 (ji8)) (shr .u64 a1 (IntKind.u64.wrap (64 - (ji8))))) ((ji10) / 4294967296))) (IntKind.u64.wrap ((Go.bits .or .u64 (shl .u64 a0 (ji8)) (shr .u64 a1 (IntKind.u64.wrap (64 - (ji8))))) - (IntKind.u64.wrap ((IntKind.u64.wrap (Int.tdiv (Go.bits .or .u64 (shl .u64 a0 (ji8)) (shr .u64 a1 (IntKind.u64.wrap (64 - (ji8))))) ((ji10) / 4294967296))) * ((ji10) / 4294967296))))))) else (none)) = some (r1, r2) := by first | (rw [hji10] at H; exact H) | (simp only [hji10] at H ⊢; exact H)
          (try rw [hji10] at A7)
          have hji10_ : (IntKind.u64.wrap (a2 * 2 ^ min (ji8).toNat 64)) = ji10 := hji10
          have hji10z : (ji8) ≤ 64 → (IntKind.u64.wrap (a2 * 2 ^ (ji8).toNat)) = ji10 := shl_small hji10
          have c11b0 := eq_true (of_decide_eq_true (by first | (with_reducible assumption) | assumption) : 0 ≤ (ji8))
          obtain ⟨ji12, hji12⟩ : ∃ j_ : Int, (shl .u64 a0 (ji8)) = j_ := ⟨_, rfl⟩
          replace H : (if 0 ≤ (IntKind.u64.wrap (64 - (ji8))) then (if ((ji10) / 4294967296) = 0 then (none) else (bits_Div64.l0 k ji10 ji8 ((ji10) / 4294967296) (Go.bits .and .u64 (ji10) 4294967295) (Go.bits .or .u64 (ji12) (shr .u64 a1 (IntKind.u64.wrap (64 - (ji8))))) ((shl .u64 a1 (ji8)) / 4294967296) (Go.bits .and .u64 (shl .u64 a1 (ji8)) 4294967295) (IntKind.u64.wrap (Int.tdiv (Go.bits .or .u64 (ji12) (shr .u64 a1 (IntKind.u64.wrap (64 - (ji8))))) ((ji10) / 4294967296))) (IntKind.u64.wrap ((Go.bits .or .u64 (ji12) (shr .u64 a1 (IntKind.u64.wrap (64 - (ji8))))) - (IntKind.u64.wrap ((IntKind.u64.wrap (Int.tdiv (Go.bits .or .u64 (ji12) (shr .u64 a1 (IntKind.u64.wrap (64 - (ji8))))) ((ji10) / 4294967296))) * ((ji10) / 4294967296))))))) else (none)) = some (r1, r2) := by first | (rw [hji12] at H; exact H) | (simp only [hji12] at H ⊢; exact H)
          (try rw [hji12] at A7)
          have hji12_ : (IntKind.u64.wrap (a0 * 2 ^ min (ji8).toNat 64)) = ji12 := hji12
          have hji12z : (ji8) ≤ 64 → (IntKind.u64.wrap (a0 * 2 ^ (ji8).toNat)) = ji12 := shl_small hji12
          obtain ⟨ji13, hji13⟩ : ∃ j_ : Int, (IntKind.u64.wrap (64 - (ji8))) = j_ := ⟨_, rfl⟩
          replace H : (if 0 ≤ (ji13) then (if ((ji10) / 4294967296) = 0 then (none) else (bits_Div64.l0 k ji10 ji8 ((ji10) / 4294967296) (Go.bits .and .u64 (ji10) 4294967295) (Go.bits .or .u64 (ji12) (shr .u64 a1 (ji13))) ((shl .u64 a1 (ji8)) / 4294967296) (Go.bits .and .u64 (shl .u64 a1 (ji8)) 4294967295) (IntKind.u64.wrap (Int.tdiv (Go.bits .or .u64 (ji12) (shr .u64 a1 (ji13))) ((ji10) / 4294967296))) (IntKind.u64.wrap ((Go.bits .or .u64 (ji12) (shr .u64 a1 (ji13))) - (IntKind.u64.wrap ((IntKind.u64.wrap (Int.tdiv (Go.bits .or .u64 (ji12) (shr .u64 a1 (ji13))) ((ji10) / 4294967296))) * ((ji10) / 4294967296))))))) else (none)) = some (r1, r2) := by first | (rw [hji13] at H; exact H) | (simp only [hji13] at H ⊢; exact H)
          (try rw [hji13] at A7)
          by_cases c14 : 0 ≤ (ji13)
          · rw [if_pos c14] at H
            have c14b0 := eq_true c14
            have c14b1 : decide (0 ≤ (ji13)) = true := decide_eq_true c14
            clear c14
            obtain ⟨ji15, hji15⟩ : ∃ j_ : Int, (shr .u64 a1 (ji13)) = j_ := ⟨_, rfl⟩
            replace H : (if ((ji10) / 4294967296) = 0 then (none) else (bits_Div64.l0 k ji10 ji8 ((ji10) / 4294967296) (Go.bits .and .u64 (ji10) 4294967295) (Go.bits .or .u64 (ji12) (ji15)) ((shl .u64 a1 (ji8)) / 4294967296) (Go.bits .and .u64 (shl .u64 a1 (ji8)) 4294967295) (IntKind.u64.wrap (Int.tdiv (Go.bits .or .u64 (ji12) (ji15)) ((ji10) / 4294967296))) (IntKind.u64.wrap ((Go.bits .or .u64 (ji12) (ji15)) - (IntKind.u64.wrap ((IntKind.u64.wrap (Int.tdiv (Go.bits .or .u64 (ji12) (ji15)) ((ji10) / 4294967296))) * ((ji10) / 4294967296))))))) = some (r1, r2) := by first | (rw [hji15] at H; exact H) | (simp only [hji15] at H ⊢; exact H)
            (try rw [hji15] at A7)
            have hji15_ : (a1 / 2 ^ min (ji13).toNat 64) = ji15 := hji15
            have hji15z : (ji13) ≤ 64 → (a1 / 2 ^ (ji13).toNat) = ji15 := shr_small hji15
            have c16b0 := eq_true (of_decide_eq_true (by first | (with_reducible assumption) | assumption) : 0 ≤ (ji8))
            obtain ⟨ji17, hji17⟩ : ∃ j_ : Int, (shl .u64 a1 (ji8)) = j_ := ⟨_, rfl⟩
            replace H : (if ((ji10) / 4294967296) = 0 then (none) else (bits_Div64.l0 k ji10 ji8 ((ji10) / 4294967296) (Go.bits .and .u64 (ji10) 4294967295) (Go.bits .or .u64 (ji12) (ji15)) ((ji17) / 4294967296) (Go.bits .and .u64 (ji17) 4294967295) (IntKind.u64.wrap (Int.tdiv (Go.bits .or .u64 (ji12) (ji15)) ((ji10) / 4294967296))) (IntKind.u64.wrap ((Go.bits .or .u64 (ji12) (ji15)) - (IntKind.u64.wrap ((IntKind.u64.wrap (Int.tdiv (Go.bits .or .u64 (ji12) (ji15)) ((ji10) / 4294967296))) * ((ji10) / 4294967296))))))) = some (r1, r2) := by first | (rw [hji17] at H; exact H) | (simp only [hji17] at H ⊢; exact H)
            (try rw [hji17] at A7)
            have hji17_ : (IntKind.u64.wrap (a1 * 2 ^ min (ji8).toNat 64)) = ji17 := hji17
            have hji17z : (ji8) ≤ 64 → (IntKind.u64.wrap (a1 * 2 ^ (ji8).toNat)) = ji17 := shl_small hji17
            by_cases c18 : ((ji10) / 4294967296) = 0
            · rw [if_pos c18] at H
              exact absurd H (by simp)
            · rw [if_neg c18] at H
              have c18b0 : (((ji10) / 4294967296) == 0) = false := beq_eq_false_iff_ne.mpr c18
              have c18b1 : (((ji10) / 4294967296) != 0) = true := bne_iff_ne.mpr c18
              have HC19 := Aside0.mk H
              clear H
              go_enter Tryd.func62, Tryd.ntmps62
              go_upto_block 0 with (first | (go_at_call 68; (with_reducible refine (bits_LeadingZeros64.calls a2 t101 _ A7.out).mono ?_); rintro e w' ⟨rfl, ⟨nd, rfl⟩⟩; (try first | exact ⟨rfl, _, World.drewN_drewN _ _ _⟩ | exact ⟨rfl, _, Eq.trans (World.drewN_drewN _ _ _) (congrArg (World.drewN _) (Nat.add_assoc _ _ _))⟩)))
              repeat (go_quiet (first | (go_at_call 68; (with_reducible refine (bits_LeadingZeros64.calls a2 t101 _ A7.out).mono ?_); rintro e w' ⟨rfl, ⟨nd, rfl⟩⟩; (try first | exact ⟨rfl, _, World.drewN_drewN _ _ _⟩ | exact ⟨rfl, _, Eq.trans (World.drewN_drewN _ _ _) (congrArg (World.drewN _) (Nat.add_assoc _ _ _))⟩))); go_upto_block 0 with (first | (go_at_call 68; (with_reducible refine (bits_LeadingZeros64.calls a2 t101 _ A7.out).mono ?_); rintro e w' ⟨rfl, ⟨nd, rfl⟩⟩; (try first | exact ⟨rfl, _, World.drewN_drewN _ _ _⟩ | exact ⟨rfl, _, Eq.trans (World.drewN_drewN _ _ _) (congrArg (World.drewN _) (Nat.add_assoc _ _ _))⟩))))
              (try simp only [Act.put, List.setIfInBounds_toArray, List.set_cons_zero, List.set_cons_succ])
              go_cut [15] (fun v15 wc => ∃ (kq : Nat) (x15_18 : Int), v15 = .int .u64 x15_18 ∧ Aside0 (bits_Div64.j2 kq ji10 ji8 ((ji10) / 4294967296) (Go.bits .and .u64 (ji10) 4294967295) (Go.bits .or .u64 (ji12) (ji15)) ((ji17) / 4294967296) (Go.bits .and .u64 (ji17) 4294967295) x15_18 = some (r1, r2)) ∧ Aside0 (kq ≤ k) ∧ Drawn0 w wc)
              case first =>
                have H := HC19.out
                clear HC19
                have H' := Aside0.mk H
                clear H
                go_wp2
                repeat (go_quiet (fail); try go_wp2)
                go_loopg [15, 16] k (fun kq v15 v16 w' => ∃ (x15_1 : Int) (x16_1 : Int), v15 = .int .u64 x15_1 ∧ v16 = .int .u64 x16_1 ∧ Aside0 (bits_Div64.l0 kq ji10 ji8 ((ji10) / 4294967296) (Go.bits .and .u64 (ji10) 4294967295) (Go.bits .or .u64 (ji12) (ji15)) ((ji17) / 4294967296) (Go.bits .and .u64 (ji17) 4294967295) x15_1 x16_1 = some (r1, r2)) ∧ Aside0 (kq ≤ k) ∧ Drawn0 w w')
                case atStart => exact ⟨(IntKind.u64.wrap (Int.tdiv (Go.bits .or .u64 (ji12) (ji15)) ((ji10) / 4294967296))), (IntKind.u64.wrap ((Go.bits .or .u64 (ji12) (ji15)) - (IntKind.u64.wrap ((IntKind.u64.wrap (Int.tdiv (Go.bits .or .u64 (ji12) (ji15)) ((ji10) / 4294967296))) * ((ji10) / 4294967296))))), (by first | rfl | (simp; done) | (simp only [← hji10, ← hji12, ← hji15] <;> (first | rfl | simp)) | (simp [*]; done)), (by first | rfl | (simp; done) | (simp only [← hji10, ← hji12, ← hji15] <;> (first | rfl | simp)) | (simp [*]; done)), H', ⟨Nat.le_refl _⟩, by repeat (first | exact Drawn0.refl _ | apply Drawn0.step)⟩
                case round =>
                  clear H'
                  try clear c1
                  try clear p2
                  try clear c4
                  try clear c4b0
                  try clear c4b1
                  try clear c5
                  try clear c5b0
                  try clear c6
                  try clear c6b0
                  try clear c6b1
                  try clear c9
                  try clear c9b0
                  try clear c9b1
                  try clear c11
                  try clear c11b0
                  try clear c14
                  try clear c14b0
                  try clear c14b1
                  try clear c16
                  try clear c16b0
                  try clear c18
                  try clear c18b0
                  try clear c18b1
                  obtain ⟨x15_1, x16_1, rfl, rfl, HA, HK1, ⟨m1, rfl⟩⟩ := hrel
                  cases gk with
                  | zero => exact absurd HA.out (by simp [bits_Div64.l0])
                  | succ k1 =>
                    have H := HA.out
                    clear HA
                    simp only [bits_Div64.l0] at H
                    have HC20 := Aside0.mk H
                    clear H
                    go_upto_region 17 with (fail)
                    repeat (go_quiet (fail); go_upto_region 17 with (fail))
                    go_cut [78] (fun v78 wc => ∃ (kq : Nat) (x78_19 : Bool), v78 = .bool x78_19 ∧ Aside0 (bits_Div64.j1 kq ji10 ji8 ((ji10) / 4294967296) (Go.bits .and .u64 (ji10) 4294967295) (Go.bits .or .u64 (ji12) (ji15)) ((ji17) / 4294967296) (Go.bits .and .u64 (ji17) 4294967295) x15_1 x16_1 x78_19 = some (r1, r2)) ∧ Aside0 (kq ≤ k1) ∧ Drawn0 w wc)
                    case first =>
                      have H := HC20.out
                      clear HC20
                      by_cases c21 : x15_1 ≥ 4294967296
                      · rw [if_pos c21] at H
                        have c21b0 : decide (4294967296 ≤ x15_1) = true := decide_eq_true c21
                        clear c21
                        (first | rw [c21b0] | (simp only [i64_w, i32_w]; rw [c21b0]) | skip)
                        have H' := Aside0.mk H
                        clear H
                        go_wp2
                        repeat (go_quiet (fail); try go_wp2)
                        go_meet
                        case rel => exact ⟨_, (true), (by first | rfl | (simp; done) | (simp [*]; done)), H', ⟨by have := HK1.out; first | omega | exact Nat.le_refl _⟩, by repeat (first | exact Drawn0.refl _ | apply Drawn0.step)⟩
                      · rw [if_neg c21] at H
                        have c21b0 : decide (4294967296 ≤ x15_1) = false := decide_eq_false c21
                        clear c21
                        (first | rw [c21b0] | (simp only [i64_w, i32_w]; rw [c21b0]) | skip)
                        have H' := Aside0.mk H
                        clear H
                        go_wp2
                        repeat (go_quiet (fail); try go_wp2)
                        go_meet
                        case rel => exact ⟨_, (decide ((IntKind.u64.wrap (x15_1 * (Go.bits .and .u64 (ji10) 4294967295))) > (IntKind.u64.wrap ((IntKind.u64.wrap (4294967296 * x16_1)) + ((ji17) / 4294967296))))), (by first | rfl | (simp; done) | (simp only [← hji10, ← hji17] <;> (first | rfl | simp)) | (simp [*]; done)), H', ⟨by have := HK1.out; first | omega | exact Nat.le_refl _⟩, by repeat (first | exact Drawn0.refl _ | apply Drawn0.step)⟩
                    case rest =>
                      clear HC20
                      try clear c1
                      try clear c2
                      try clear p2
                      try clear c4
                      try clear c4b0
                      try clear c4b1
                      try clear c5
                      try clear c5b0
                      try clear c6
                      try clear c6b0
                      try clear c6b1
                      try clear c9
                      try clear c9b0
                      try clear c9b1
                      try clear c11
                      try clear c11b0
                      try clear c14
                      try clear c14b0
                      try clear c14b1
                      try clear c16
                      try clear c16b0
                      try clear c18
                      try clear c18b0
                      try clear c18b1
                      try clear c21
                      try clear c21b0
                      try clear p2
                      obtain ⟨kq, x78_19, rfl, HA, HJ19, ⟨mc19, rfl⟩⟩ := hcut
                      cases kq with
                      | zero => exact absurd HA.out (by simp [bits_Div64.j1])
                      | succ kj19 =>
                        have H := HA.out
                        clear HA
                        simp only [bits_Div64.j1] at H
                        by_cases c22 : x78_19 = true
                        · subst c22
                          have H1 : (if (IntKind.u64.wrap (x16_1 + ((ji10) / 4294967296))) ≥ 4294967296 then (bits_Div64.j2 kj19 ji10 ji8 ((ji10) / 4294967296) (Go.bits .and .u64 (ji10) 4294967295) (Go.bits .or .u64 (ji12) (ji15)) ((ji17) / 4294967296) (Go.bits .and .u64 (ji17) 4294967295) (IntKind.u64.wrap (x15_1 - 1))) else (bits_Div64.l0 kj19 ji10 ji8 ((ji10) / 4294967296) (Go.bits .and .u64 (ji10) 4294967295) (Go.bits .or .u64 (ji12) (ji15)) ((ji17) / 4294967296) (Go.bits .and .u64 (ji17) 4294967295) (IntKind.u64.wrap (x15_1 - 1)) (IntKind.u64.wrap (x16_1 + ((ji10) / 4294967296))))) = some (r1, r2) := by rw [if_pos rfl] at H; exact H
                          clear H
                          have H := H1
                          clear H1
                          by_cases c23 : (IntKind.u64.wrap (x16_1 + ((ji10) / 4294967296))) ≥ 4294967296
                          · rw [if_pos c23] at H
                            have c23b0 : decide (4294967296 ≤ (IntKind.u64.wrap (x16_1 + ((ji10) / 4294967296)))) = true := decide_eq_true c23
                            clear c23
                            have H' := Aside0.mk H
                            clear H
                            go_wp2
                            repeat (go_quiet (fail); try go_wp2)
                            go_meet
                            case rel => exact ⟨_, (IntKind.u64.wrap (x15_1 - 1)), (by first | rfl | (simp; done) | (simp [*]; done)), H', ⟨by have := HK1.out; have := HJ19.out; first | omega | exact Nat.le_refl _⟩, by repeat (first | exact Drawn0.refl _ | apply Drawn0.step)⟩
                          · rw [if_neg c23] at H
                            have c23b0 : decide (4294967296 ≤ (IntKind.u64.wrap (x16_1 + ((ji10) / 4294967296)))) = false := decide_eq_false c23
                            clear c23
                            have H' := Aside0.mk H
                            clear H
                            go_wp2
                            repeat (go_quiet (fail); try go_wp2)
                            go_roundg kj19
                            case measure => have := HK1.out; have := HJ19.out; omega
                            case rel => exact ⟨(IntKind.u64.wrap (x15_1 - 1)), (IntKind.u64.wrap (x16_1 + ((ji10) / 4294967296))), (by first | rfl | (simp; done) | (simp [*]; done)), (by first | rfl | (simp; done) | (simp only [← hji10] <;> (first | rfl | simp)) | (simp [*]; done)), H', ⟨by have := HK1.out; have := HJ19.out; omega⟩, by repeat (first | exact Drawn0.refl _ | apply Drawn0.step)⟩
                        · replace c22 := Bool.eq_false_iff.mpr c22
                          subst c22
                          have H1 : (bits_Div64.j2 kj19 ji10 ji8 ((ji10) / 4294967296) (Go.bits .and .u64 (ji10) 4294967295) (Go.bits .or .u64 (ji12) (ji15)) ((ji17) / 4294967296) (Go.bits .and .u64 (ji17) 4294967295) x15_1) = some (r1, r2) := by rw [if_neg (show ¬ (false = true) by decide)] at H; exact H
                          clear H
                          have H := H1
                          clear H1
                          have H' := Aside0.mk H
                          clear H
                          go_wp2
                          repeat (go_quiet (fail); try go_wp2)
                          go_meet
                          case rel => exact ⟨_, (x15_1), (by first | rfl | (simp; done) | (simp [*]; done)), H', ⟨by have := HK1.out; have := HJ19.out; first | omega | exact Nat.le_refl _⟩, by repeat (first | exact Drawn0.refl _ | apply Drawn0.step)⟩
              case rest =>
                clear HC19
                try clear c1
                try clear c2
                try clear p2
                try clear c4
                try clear c4b0
                try clear c4b1
                try clear c5
                try clear c5b0
                try clear c6
                try clear c6b0
                try clear c6b1
                try clear c9
                try clear c9b0
                try clear c9b1
                try clear c11
                try clear c11b0
                try clear c14
                try clear c14b0
                try clear c14b1
                try clear c16
                try clear c16b0
                try clear c18
                try clear c18b0
                try clear c18b1
                try clear c19
                try clear c21
                try clear c21b0
                try clear c22
                try clear c23
                try clear c23b0
                try clear p2
                obtain ⟨kq, x15_18, rfl, HA, HJ18, ⟨mc18, rfl⟩⟩ := hcut
                cases kq with
                | zero => exact absurd HA.out (by simp [bits_Div64.j2])
                | succ kj18 =>
                  have H := HA.out
                  clear HA
                  simp only [bits_Div64.j2] at H
                  by_cases c24 : ((ji10) / 4294967296) = 0
                  · rw [if_pos c24] at H
                    exact absurd H (by simp)
                  · rw [if_neg c24] at H
                    have c24b0 : (((ji10) / 4294967296) == 0) = false := beq_eq_false_iff_ne.mpr c24
                    have c24b1 : (((ji10) / 4294967296) != 0) = true := bne_iff_ne.mpr c24
                    have H' := Aside0.mk H
                    clear H
                    go_wp2
                    repeat (go_quiet (fail); try go_wp2)
                    go_loopg [16, 18] kj18 (fun kq v16 v18 w' => ∃ (x16_2 : Int) (x18_2 : Int), v16 = .int .u64 x16_2 ∧ v18 = .int .u64 x18_2 ∧ Aside0 (bits_Div64.l1 kq ji10 ji8 ((ji10) / 4294967296) (Go.bits .and .u64 (ji10) 4294967295) (Go.bits .and .u64 (ji17) 4294967295) x15_18 x16_2 (IntKind.u64.wrap ((IntKind.u64.wrap ((IntKind.u64.wrap ((Go.bits .or .u64 (ji12) (ji15)) * 4294967296)) + ((ji17) / 4294967296))) - (IntKind.u64.wrap (x15_18 * ji10)))) x18_2 = some (r1, r2)) ∧ Aside0 (kq ≤ kj18) ∧ Drawn0 w w')
                    case atStart => exact ⟨(IntKind.u64.wrap ((IntKind.u64.wrap ((IntKind.u64.wrap ((IntKind.u64.wrap ((Go.bits .or .u64 (ji12) (ji15)) * 4294967296)) + ((ji17) / 4294967296))) - (IntKind.u64.wrap (x15_18 * ji10)))) - (IntKind.u64.wrap ((IntKind.u64.wrap (Int.tdiv (IntKind.u64.wrap ((IntKind.u64.wrap ((IntKind.u64.wrap ((Go.bits .or .u64 (ji12) (ji15)) * 4294967296)) + ((ji17) / 4294967296))) - (IntKind.u64.wrap (x15_18 * ji10)))) ((ji10) / 4294967296))) * ((ji10) / 4294967296))))), (IntKind.u64.wrap (Int.tdiv (IntKind.u64.wrap ((IntKind.u64.wrap ((IntKind.u64.wrap ((Go.bits .or .u64 (ji12) (ji15)) * 4294967296)) + ((ji17) / 4294967296))) - (IntKind.u64.wrap (x15_18 * ji10)))) ((ji10) / 4294967296))), (by first | rfl | (simp; done) | (simp only [← hji10, ← hji12, ← hji15, ← hji17] <;> (first | rfl | simp)) | (simp [*]; done)), (by first | rfl | (simp; done) | (simp only [← hji10, ← hji12, ← hji15, ← hji17] <;> (first | rfl | simp)) | (simp [*]; done)), H', ⟨Nat.le_refl _⟩, by repeat (first | exact Drawn0.refl _ | apply Drawn0.step)⟩
                    case round =>
                      clear H'
                      try clear c1
                      try clear c2
                      try clear p2
                      try clear c4
                      try clear c4b0
                      try clear c4b1
                      try clear c5
                      try clear c5b0
                      try clear c6
                      try clear c6b0
                      try clear c6b1
                      try clear c9
                      try clear c9b0
                      try clear c9b1
                      try clear c11
                      try clear c11b0
                      try clear c14
                      try clear c14b0
                      try clear c14b1
                      try clear c16
                      try clear c16b0
                      try clear c18
                      try clear c18b0
                      try clear c18b1
                      try clear c19
                      try clear c21
                      try clear c21b0
                      try clear c22
                      try clear c23
                      try clear c23b0
                      try clear c24
                      try clear c24b0
                      try clear c24b1
                      try clear p2
                      obtain ⟨x16_2, x18_2, rfl, rfl, HA, HK2, ⟨m2, rfl⟩⟩ := hrel
                      cases gk with
                      | zero => exact absurd HA.out (by simp [bits_Div64.l1])
                      | succ k2 =>
                        have H := HA.out
                        clear HA
                        simp only [bits_Div64.l1] at H
                        have HC25 := Aside0.mk H
                        clear H
                        go_upto_region 24 with (fail)
                        repeat (go_quiet (fail); go_upto_region 24 with (fail))
                        go_cut [113] (fun v113 wc => ∃ (kq : Nat) (x113_24 : Bool), v113 = .bool x113_24 ∧ Aside0 (bits_Div64.j4 kq ji10 ji8 ((ji10) / 4294967296) (Go.bits .and .u64 (ji10) 4294967295) (Go.bits .and .u64 (ji17) 4294967295) x15_18 x16_2 (IntKind.u64.wrap ((IntKind.u64.wrap ((IntKind.u64.wrap ((Go.bits .or .u64 (ji12) (ji15)) * 4294967296)) + ((ji17) / 4294967296))) - (IntKind.u64.wrap (x15_18 * ji10)))) x18_2 x113_24 = some (r1, r2)) ∧ Aside0 (kq ≤ k2) ∧ Drawn0 w wc)
                        case first =>
                          have H := HC25.out
                          clear HC25
                          by_cases c26 : x18_2 ≥ 4294967296
                          · rw [if_pos c26] at H
                            have c26b0 : decide (4294967296 ≤ x18_2) = true := decide_eq_true c26
                            clear c26
                            (first | rw [c26b0] | (simp only [i64_w, i32_w]; rw [c26b0]) | skip)
                            have H' := Aside0.mk H
                            clear H
                            go_wp2
                            repeat (go_quiet (fail); try go_wp2)
                            go_meet
                            case rel => exact ⟨_, (true), (by first | rfl | (simp; done) | (simp [*]; done)), H', ⟨by have := HJ18.out; have := HK2.out; first | omega | exact Nat.le_refl _⟩, by repeat (first | exact Drawn0.refl _ | apply Drawn0.step)⟩
                          · rw [if_neg c26] at H
                            have c26b0 : decide (4294967296 ≤ x18_2) = false := decide_eq_false c26
                            clear c26
                            (first | rw [c26b0] | (simp only [i64_w, i32_w]; rw [c26b0]) | skip)
                            have H' := Aside0.mk H
                            clear H
                            go_wp2
                            repeat (go_quiet (fail); try go_wp2)
                            go_meet
                            case rel => exact ⟨_, (decide ((IntKind.u64.wrap (x18_2 * (Go.bits .and .u64 (ji10) 4294967295))) > (IntKind.u64.wrap ((IntKind.u64.wrap (4294967296 * x16_2)) + (Go.bits .and .u64 (ji17) 4294967295))))), (by first | rfl | (simp; done) | (simp only [← hji10, ← hji17] <;> (first | rfl | simp)) | (simp [*]; done)), H', ⟨by have := HJ18.out; have := HK2.out; first | omega | exact Nat.le_refl _⟩, by repeat (first | exact Drawn0.refl _ | apply Drawn0.step)⟩
                        case rest =>
                          clear HC25
                          try clear c1
                          try clear c2
                          try clear p2
                          try clear c4
                          try clear c4b0
                          try clear c4b1
                          try clear c5
                          try clear c5b0
                          try clear c6
                          try clear c6b0
                          try clear c6b1
                          try clear c9
                          try clear c9b0
                          try clear c9b1
                          try clear c11
                          try clear c11b0
                          try clear c14
                          try clear c14b0
                          try clear c14b1
                          try clear c16
                          try clear c16b0
                          try clear c18
                          try clear c18b0
                          try clear c18b1
                          try clear c19
                          try clear c21
                          try clear c21b0
                          try clear c22
                          try clear c23
                          try clear c23b0
                          try clear c24
                          try clear c24b0
                          try clear c24b1
                          try clear c26
                          try clear c26b0
                          try clear p2
                          obtain ⟨kq, x113_24, rfl, HA, HJ24, ⟨mc24, rfl⟩⟩ := hcut
                          cases kq with
                          | zero => exact absurd HA.out (by simp [bits_Div64.j4])
                          | succ kj24 =>
                            have H := HA.out
                            clear HA
                            simp only [bits_Div64.j4] at H
                            by_cases c27 : x113_24 = true
                            · subst c27
                              have H1 : (if (IntKind.u64.wrap (x16_2 + ((ji10) / 4294967296))) ≥ 4294967296 then (if 0 ≤ ji8 then (some (IntKind.u64.wrap ((IntKind.u64.wrap (x15_18 * 4294967296)) + (IntKind.u64.wrap (x18_2 - 1))), shr .u64 (IntKind.u64.wrap ((IntKind.u64.wrap ((IntKind.u64.wrap ((IntKind.u64.wrap ((IntKind.u64.wrap ((IntKind.u64.wrap ((Go.bits .or .u64 (ji12) (ji15)) * 4294967296)) + ((ji17) / 4294967296))) - (IntKind.u64.wrap (x15_18 * ji10)))) * 4294967296)) + (Go.bits .and .u64 (ji17) 4294967295))) - (IntKind.u64.wrap ((IntKind.u64.wrap (x18_2 - 1)) * ji10)))) ji8)) else (none)) else (bits_Div64.l1 kj24 ji10 ji8 ((ji10) / 4294967296) (Go.bits .and .u64 (ji10) 4294967295) (Go.bits .and .u64 (ji17) 4294967295) x15_18 (IntKind.u64.wrap (x16_2 + ((ji10) / 4294967296))) (IntKind.u64.wrap ((IntKind.u64.wrap ((IntKind.u64.wrap ((Go.bits .or .u64 (ji12) (ji15)) * 4294967296)) + ((ji17) / 4294967296))) - (IntKind.u64.wrap (x15_18 * ji10)))) (IntKind.u64.wrap (x18_2 - 1)))) = some (r1, r2) := by rw [if_pos rfl] at H; exact H
                              clear H
                              have H := H1
                              clear H1
                              by_cases c28 : (IntKind.u64.wrap (x16_2 + ((ji10) / 4294967296))) ≥ 4294967296
                              · rw [if_pos c28] at H
                                have c28b0 : decide (4294967296 ≤ (IntKind.u64.wrap (x16_2 + ((ji10) / 4294967296)))) = true := decide_eq_true c28
                                clear c28
                                by_cases c29 : 0 ≤ ji8
                                · rw [if_pos c29] at H
                                  have c29b0 := eq_true c29
                                  have c29b1 : decide (0 ≤ ji8) = true := decide_eq_true c29
                                  clear c29
                                  obtain ⟨ji30, hji30⟩ : ∃ j_ : Int, (shr .u64 (IntKind.u64.wrap ((IntKind.u64.wrap ((IntKind.u64.wrap ((IntKind.u64.wrap ((IntKind.u64.wrap ((IntKind.u64.wrap ((Go.bits .or .u64 (ji12) (ji15)) * 4294967296)) + ((ji17) / 4294967296))) - (IntKind.u64.wrap (x15_18 * ji10)))) * 4294967296)) + (Go.bits .and .u64 (ji17) 4294967295))) - (IntKind.u64.wrap ((IntKind.u64.wrap (x18_2 - 1)) * ji10)))) ji8) = j_ := ⟨_, rfl⟩
                                  replace H : (some (IntKind.u64.wrap ((IntKind.u64.wrap (x15_18 * 4294967296)) + (IntKind.u64.wrap (x18_2 - 1))), ji30)) = some (r1, r2) := by first | (rw [hji30] at H; exact H) | (simp only [hji30] at H ⊢; exact H)
                                  have hji30_ : ((IntKind.u64.wrap ((IntKind.u64.wrap ((IntKind.u64.wrap ((IntKind.u64.wrap ((IntKind.u64.wrap ((IntKind.u64.wrap ((Go.bits .or .u64 (ji12) (ji15)) * 4294967296)) + ((ji17) / 4294967296))) - (IntKind.u64.wrap (x15_18 * ji10)))) * 4294967296)) + (Go.bits .and .u64 (ji17) 4294967295))) - (IntKind.u64.wrap ((IntKind.u64.wrap (x18_2 - 1)) * ji10)))) / 2 ^ min ji8.toNat 64) = ji30 := hji30
                                  have hji30z : ji8 ≤ 64 → ((IntKind.u64.wrap ((IntKind.u64.wrap ((IntKind.u64.wrap ((IntKind.u64.wrap ((IntKind.u64.wrap ((IntKind.u64.wrap ((Go.bits .or .u64 (ji12) (ji15)) * 4294967296)) + ((ji17) / 4294967296))) - (IntKind.u64.wrap (x15_18 * ji10)))) * 4294967296)) + (Go.bits .and .u64 (ji17) 4294967295))) - (IntKind.u64.wrap ((IntKind.u64.wrap (x18_2 - 1)) * ji10)))) / 2 ^ ji8.toNat) = ji30 := shr_small hji30
                                  simp only [Option.some.injEq, Prod.mk.injEq] at H
                                  obtain ⟨rfl, rfl⟩ := H
                                  go_wp2
                                  repeat (go_quiet (fail); try go_wp2)
                                  go_ret2
                                  exact ⟨by first | rfl | (simp; done) | (simp only [← hji8, ← hji10, ← hji12, ← hji13, ← hji15, ← hji17, ← hji30] <;> (first | rfl | simp)) | (simp [*]; done), by repeat (first | exact Drawn0.refl _ | apply Drawn0.step)⟩
                                · rw [if_neg c29] at H
                                  exact absurd H (by simp)
                              · rw [if_neg c28] at H
                                have c28b0 : decide (4294967296 ≤ (IntKind.u64.wrap (x16_2 + ((ji10) / 4294967296)))) = false := decide_eq_false c28
                                clear c28
                                have H' := Aside0.mk H
                                clear H
                                go_wp2
                                repeat (go_quiet (fail); try go_wp2)
                                go_roundg kj24
                                case measure => have := HJ18.out; have := HK2.out; have := HJ24.out; omega
                                case rel => exact ⟨(IntKind.u64.wrap (x16_2 + ((ji10) / 4294967296))), (IntKind.u64.wrap (x18_2 - 1)), (by first | rfl | (simp; done) | (simp only [← hji10] <;> (first | rfl | simp)) | (simp [*]; done)), (by first | rfl | (simp; done) | (simp [*]; done)), H', ⟨by have := HJ18.out; have := HK2.out; have := HJ24.out; omega⟩, by repeat (first | exact Drawn0.refl _ | apply Drawn0.step)⟩
                            · replace c27 := Bool.eq_false_iff.mpr c27
                              subst c27
                              have H1 : (if 0 ≤ ji8 then (some (IntKind.u64.wrap ((IntKind.u64.wrap (x15_18 * 4294967296)) + x18_2), shr .u64 (IntKind.u64.wrap ((IntKind.u64.wrap ((IntKind.u64.wrap ((IntKind.u64.wrap ((IntKind.u64.wrap ((IntKind.u64.wrap ((Go.bits .or .u64 (ji12) (ji15)) * 4294967296)) + ((ji17) / 4294967296))) - (IntKind.u64.wrap (x15_18 * ji10)))) * 4294967296)) + (Go.bits .and .u64 (ji17) 4294967295))) - (IntKind.u64.wrap (x18_2 * ji10)))) ji8)) else (none)) = some (r1, r2) := by rw [if_neg (show ¬ (false = true) by decide)] at H; exact H
                              clear H
                              have H := H1
                              clear H1
                              by_cases c31 : 0 ≤ ji8
                              · rw [if_pos c31] at H
                                have c31b0 := eq_true c31
                                have c31b1 : decide (0 ≤ ji8) = true := decide_eq_true c31
                                clear c31
                                obtain ⟨ji32, hji32⟩ : ∃ j_ : Int, (shr .u64 (IntKind.u64.wrap ((IntKind.u64.wrap ((IntKind.u64.wrap ((IntKind.u64.wrap ((IntKind.u64.wrap ((IntKind.u64.wrap ((Go.bits .or .u64 (ji12) (ji15)) * 4294967296)) + ((ji17) / 4294967296))) - (IntKind.u64.wrap (x15_18 * ji10)))) * 4294967296)) + (Go.bits .and .u64 (ji17) 4294967295))) - (IntKind.u64.wrap (x18_2 * ji10)))) ji8) = j_ := ⟨_, rfl⟩
                                replace H : (some (IntKind.u64.wrap ((IntKind.u64.wrap (x15_18 * 4294967296)) + x18_2), ji32)) = some (r1, r2) := by first | (rw [hji32] at H; exact H) | (simp only [hji32] at H ⊢; exact H)
                                have hji32_ : ((IntKind.u64.wrap ((IntKind.u64.wrap ((IntKind.u64.wrap ((IntKind.u64.wrap ((IntKind.u64.wrap ((IntKind.u64.wrap ((Go.bits .or .u64 (ji12) (ji15)) * 4294967296)) + ((ji17) / 4294967296))) - (IntKind.u64.wrap (x15_18 * ji10)))) * 4294967296)) + (Go.bits .and .u64 (ji17) 4294967295))) - (IntKind.u64.wrap (x18_2 * ji10)))) / 2 ^ min ji8.toNat 64) = ji32 := hji32
                                have hji32z : ji8 ≤ 64 → ((IntKind.u64.wrap ((IntKind.u64.wrap ((IntKind.u64.wrap ((IntKind.u64.wrap ((IntKind.u64.wrap ((IntKind.u64.wrap ((Go.bits .or .u64 (ji12) (ji15)) * 4294967296)) + ((ji17) / 4294967296))) - (IntKind.u64.wrap (x15_18 * ji10)))) * 4294967296)) + (Go.bits .and .u64 (ji17) 4294967295))) - (IntKind.u64.wrap (x18_2 * ji10)))) / 2 ^ ji8.toNat) = ji32 := shr_small hji32
                                simp only [Option.some.injEq, Prod.mk.injEq] at H
                                obtain ⟨rfl, rfl⟩ := H
                                go_wp2
                                repeat (go_quiet (fail); try go_wp2)
                                go_ret2
                                exact ⟨by first | rfl | (simp; done) | (simp only [← hji8, ← hji10, ← hji12, ← hji13, ← hji15, ← hji17, ← hji32] <;> (first | rfl | simp)) | (simp [*]; done), by repeat (first | exact Drawn0.refl _ | apply Drawn0.step)⟩
                              · rw [if_neg c31] at H
                                exact absurd H (by simp)
          · rw [if_neg c14] at H
            exact absurd H (by simp)
        · rw [if_neg c9] at H
          exact absurd H (by simp)

end Go.Proofs.YtgodmbcebpbdiaaDoor.Q0
end

/- The Go functions of this part as Lean functions, each with a proof that a call of it comes to just what the Lean function does. Written by a program of the session's. Conditions: none but those in each theorem. -/
section
namespace Go.Proofs.YtgodmbcebpbdiaaDoor.Q0
open Go.Proofs.YtgodmbcebpbdiaaDoor.G
open Go.RowKit Go.Proofs.YtgodmbcebpbdiaaDoorW.PrintWords Go.Proofs.YtgodmbcebpbdiaaDoorW.PrintLast Go.Proofs.YtgodmbcebpbdiaaDoorW.PrintMore
attribute [local go_sem] max2_int min2_int max_two min_two max_three min_three max_four min_four   -- for this text's walks alone
set_option linter.unusedVariables false
set_option linter.unusedSimpArgs false

end Go.Proofs.YtgodmbcebpbdiaaDoor.Q0
end

/- math/bits.Div64: the plain law's steps on whole numbers. -/
section
set_option linter.unusedVariables false
set_option linter.unusedSimpArgs false
namespace Go.Proofs.YtgodmbcebpbdiaaDoor.G
open Go.RowKit Go.Proofs.YtgodmbcebpbdiaaDoorW.PrintWords Go.Proofs.YtgodmbcebpbdiaaDoorW.PrintLast Go.Proofs.YtgodmbcebpbdiaaDoorW.PrintMore Go.Proofs.YtgodmbcebpbdiaaDoor.Q0
theorem mul_le_r {a b y : Int} (h : a ≤ b) (hy : 0 ≤ y) : a * y ≤ b * y := Int.mul_le_mul_of_nonneg_right h hy
/-- One figure of a quotient, guessed too high by at most 2: what the test says. -/
theorem guess (u d y n1 n0 q r Q : Int) (hy : y = n1 * 4294967296 + n0) (h1 : 2147483648 ≤ n1) (h2 : n1 < 4294967296) (h3 : 0 ≤ n0) (h4 : n0 < 4294967296)
    (hr : 0 ≤ r) (hr' : r < 4294967296) (hd : 0 ≤ d) (hd' : d < 4294967296) (hu : q * n1 + r = u) (hQ0 : 0 ≤ Q) (hQ1 : Q < 4294967296)
    (hQ2 : Q * y ≤ u * 4294967296 + d) (hQ3 : u * 4294967296 + d < Q * y + y) (hq' : q ≤ 4294967297) :
    (q = Q → q < 4294967296 ∧ q * n0 ≤ 4294967296 * r + d) ∧ (Q < q → q ≥ 4294967296 ∨ 4294967296 * r + d < q * n0) ∧ (Q < q → 4294967296 ≤ r + n1 → q - 1 = Q) := by
  have hZ : q * y = (u - r) * 4294967296 + q * n0 := by
    rw [hy, Int.mul_add, ← Int.mul_assoc]
    have : q * n1 = u - r := by omega
    rw [this]
  have hy0 : 0 ≤ y := by omega
  refine ⟨?_, ?_, ?_⟩
  · rintro rfl
    exact ⟨hQ1, by omega⟩
  · intro h
    right
    have := mul_le_r (show Q + 1 ≤ q by omega) hy0
    rw [Int.add_mul, Int.one_mul] at this
    omega
  · intro h hb
    refine Classical.byContradiction fun hn => ?_
    have hm := mul_le_r (show Q + 1 ≤ q - 1 by omega) hy0
    rw [Int.add_mul, Int.one_mul, Int.sub_mul, Int.one_mul] at hm
    have hp := mul_le_r (show q - 1 ≤ 4294967296 by omega) h3
    rw [Int.sub_mul, Int.one_mul] at hp
    omega
theorem w64 {x : Int} (h0 : 0 ≤ x) (h1 : x < 18446744073709551616) : IntKind.u64.wrap x = x := by
  have e : IntKind.u64.wrap x = x % 18446744073709551616 := by simp [IntKind.wrap, IntKind.bits, IntKind.signed]
  rw [e]; omega
/-- The first loop's round, the guess right. -/
theorem l0_eq (k : Nat) (y s n1 n0 u d e q r : Int) (ht : q < 4294967296 ∧ q * n0 ≤ 4294967296 * r + d) (hq : 0 ≤ q) (h3 : 0 ≤ n0) (h4 : n0 < 4294967296)
    (hr : 0 ≤ r) (hr' : r < 4294967296) (hd : 0 ≤ d) (hd' : d < 4294967296) :
    bits_Div64.l0 (k + 2) y s n1 n0 u d e q r = bits_Div64.j2 k y s n1 n0 u d e q := by
  have hp := mul_le_r (show q ≤ 4294967295 by omega) h3
  have hp0 := Int.mul_nonneg hq h3
  rw [bits_Div64.l0, if_neg (by omega), bits_Div64.j1, w64 (x := q * n0) hp0 (by omega), w64 (x := 4294967296 * r) (by omega) (by omega), w64 (by omega) (by omega)]
  rw [if_neg]
  intro h
  have := of_decide_eq_true h
  omega
theorem l0_gt (k : Nat) (y s n1 n0 u d e q r : Int) (ht : q ≥ 4294967296 ∨ 4294967296 * r + d < q * n0) (hq : 0 < q) (hq' : q ≤ 4294967297) (h2 : n1 < 4294967296) (h1 : 0 ≤ n1) (h3 : 0 ≤ n0) (h4 : n0 < 4294967296)
    (hr : 0 ≤ r) (hr' : r < 4294967296) (hd : 0 ≤ d) (hd' : d < 4294967296) :
    bits_Div64.l0 (k + 2) y s n1 n0 u d e q r = if r + n1 ≥ 4294967296 then bits_Div64.j2 k y s n1 n0 u d e (q - 1) else bits_Div64.l0 k y s n1 n0 u d e (q - 1) (r + n1) := by
  rw [bits_Div64.l0]
  by_cases hb : q ≥ 4294967296
  · rw [if_pos hb, bits_Div64.j1, if_pos rfl, w64 (x := r + n1) (by omega) (by omega), w64 (x := q - 1) (by omega) (by omega)]
  · have hp := mul_le_r (show q ≤ 4294967295 by omega) h3
    have hp0 := Int.mul_nonneg (Int.le_of_lt hq) h3
    rw [if_neg hb, bits_Div64.j1, w64 (x := q * n0) hp0 (by omega), w64 (x := 4294967296 * r) (by omega) (by omega), w64 (x := 4294967296 * r + d) (by omega) (by omega)]
    rw [if_pos (by apply decide_eq_true; omega), w64 (x := r + n1) (by omega) (by omega), w64 (x := q - 1) (by omega) (by omega)]
/-- The first loop comes to the figure. -/
theorem l0_ends (y n1 n0 u d Q s e : Int) (hy : y = n1 * 4294967296 + n0) (h1 : 2147483648 ≤ n1) (h2 : n1 < 4294967296) (h3 : 0 ≤ n0) (h4 : n0 < 4294967296)
    (hd : 0 ≤ d) (hd' : d < 4294967296) (hQ0 : 0 ≤ Q) (hQ1 : Q < 4294967296)
    (hQ2 : Q * y ≤ u * 4294967296 + d) (hQ3 : u * 4294967296 + d < Q * y + y) :
    ∀ (n : Nat) (k : Nat) (q r : Int), 0 ≤ r → r < 4294967296 → q * n1 + r = u → Q ≤ q → q ≤ 4294967297 → 4294967296 ≤ r + n * n1 → 
    ∃ m, k ≤ m ∧ bits_Div64.l0 (k + 2 * n + 2) y s n1 n0 u d e q r = bits_Div64.j2 m y s n1 n0 u d e Q
  | 0, k, q, r, hr, hr', hu, hq, hq', hn => by simp at hn; omega
  | n + 1, k, q, r, hr, hr', hu, hq, hq', hn => by
    have G := guess u d y n1 n0 q r Q hy h1 h2 h3 h4 hr hr' hd hd' hu hQ0 hQ1 hQ2 hQ3 hq'
    by_cases he : q = Q
    · refine ⟨k + 2 * (n + 1), by omega, ?_⟩
      rw [l0_eq _ y s n1 n0 u d e q r (G.1 he) (by omega) h3 h4 hr hr' hd hd', he]
    · rw [l0_gt _ y s n1 n0 u d e q r (G.2.1 (by omega)) (by omega) hq' h2 (by omega) h3 h4 hr hr' hd hd']
      by_cases hb : r + n1 ≥ 4294967296
      · rw [if_pos hb, G.2.2 (by omega) hb]
        exact ⟨_, by omega, rfl⟩
      · rw [if_neg hb]
        refine l0_ends y n1 n0 u d Q s e hy h1 h2 h3 h4 hd hd' hQ0 hQ1 hQ2 hQ3 n k (q - 1) (r + n1) (by omega) (by omega) ?_ (by omega) (by omega) ?_
        · rw [Int.sub_mul]; omega
        · have : ((n + 1 : Nat) : Int) * n1 = n * n1 + n1 := by rw [Int.natCast_add, Int.add_mul]; simp
          omega
/-- The second loop's round, the guess right. -/
theorem l1_eq (k : Nat) (y s n1 n0 d e r v q : Int) (ht : q < 4294967296 ∧ q * n0 ≤ 4294967296 * r + d) (hs : 0 ≤ s) (hq : 0 ≤ q) (h3 : 0 ≤ n0) (h4 : n0 < 4294967296)
    (hr : 0 ≤ r) (hr' : r < 4294967296) (hd : 0 ≤ d) (hd' : d < 4294967296) :
    ∃ z, bits_Div64.l1 (k + 2) y s n1 n0 d e r v q = some (IntKind.u64.wrap ((IntKind.u64.wrap (e * 4294967296)) + q), z) := by
  have hp := mul_le_r (show q ≤ 4294967295 by omega) h3
  have hp0 := Int.mul_nonneg hq h3
  rw [bits_Div64.l1, if_neg (by omega), bits_Div64.j4, w64 (x := q * n0) hp0 (by omega), w64 (x := 4294967296 * r) (by omega) (by omega), w64 (by omega) (by omega)]
  rw [if_neg, if_pos hs]
  · exact ⟨_, rfl⟩
  intro h
  have := of_decide_eq_true h
  omega
theorem l1_gt (k : Nat) (y s n1 n0 d e r v q : Int) (ht : q ≥ 4294967296 ∨ 4294967296 * r + d < q * n0) (hs : 0 ≤ s) (hq : 0 < q) (hq' : q ≤ 4294967297) (h2 : n1 < 4294967296) (h1 : 0 ≤ n1) (h3 : 0 ≤ n0) (h4 : n0 < 4294967296)
    (hr : 0 ≤ r) (hr' : r < 4294967296) (hd : 0 ≤ d) (hd' : d < 4294967296) :
    ∃ z, bits_Div64.l1 (k + 2) y s n1 n0 d e r v q = if r + n1 ≥ 4294967296 then some (IntKind.u64.wrap ((IntKind.u64.wrap (e * 4294967296)) + (q - 1)), z) else bits_Div64.l1 k y s n1 n0 d e (r + n1) v (q - 1) := by
  rw [bits_Div64.l1]
  by_cases hb : q ≥ 4294967296
  · rw [if_pos hb, bits_Div64.j4, if_pos rfl, w64 (x := r + n1) (by omega) (by omega), w64 (x := q - 1) (by omega) (by omega), if_pos hs]
    exact ⟨_, rfl⟩
  · have hp := mul_le_r (show q ≤ 4294967295 by omega) h3
    have hp0 := Int.mul_nonneg (Int.le_of_lt hq) h3
    rw [if_neg hb, bits_Div64.j4, w64 (x := q * n0) hp0 (by omega), w64 (x := 4294967296 * r) (by omega) (by omega), w64 (x := 4294967296 * r + d) (by omega) (by omega)]
    rw [if_pos (by apply decide_eq_true; omega), w64 (x := r + n1) (by omega) (by omega), w64 (x := q - 1) (by omega) (by omega), if_pos hs]
    exact ⟨_, rfl⟩
/-- The second loop comes to the figure. -/
theorem l1_ends (y n1 n0 u d Q s e v : Int) (hy : y = n1 * 4294967296 + n0) (h1 : 2147483648 ≤ n1) (h2 : n1 < 4294967296) (h3 : 0 ≤ n0) (h4 : n0 < 4294967296)
    (hs : 0 ≤ s) (hd : 0 ≤ d) (hd' : d < 4294967296) (hQ0 : 0 ≤ Q) (hQ1 : Q < 4294967296)
    (hQ2 : Q * y ≤ u * 4294967296 + d) (hQ3 : u * 4294967296 + d < Q * y + y) :
    ∀ (n : Nat) (k : Nat) (q r : Int), 0 ≤ r → r < 4294967296 → q * n1 + r = u → Q ≤ q → q ≤ 4294967297 → 4294967296 ≤ r + n * n1 → 
    ∃ z, bits_Div64.l1 (k + 2 * n + 2) y s n1 n0 d e r v q = some (IntKind.u64.wrap ((IntKind.u64.wrap (e * 4294967296)) + Q), z)
  | 0, k, q, r, hr, hr', hu, hq, hq', hn => by simp at hn; omega
  | n + 1, k, q, r, hr, hr', hu, hq, hq', hn => by
    have G := guess u d y n1 n0 q r Q hy h1 h2 h3 h4 hr hr' hd hd' hu hQ0 hQ1 hQ2 hQ3 hq'
    by_cases he : q = Q
    · obtain ⟨z, hz⟩ := l1_eq (k + 2 * (n + 1)) y s n1 n0 d e r v q (G.1 he) hs (by omega) h3 h4 hr hr' hd hd'
      rw [hz, he]; exact ⟨_, rfl⟩
    · obtain ⟨z, hz⟩ := l1_gt (k + 2 * (n + 1)) y s n1 n0 d e r v q (G.2.1 (by omega)) hs (by omega) hq' h2 (by omega) h3 h4 hr hr' hd hd'
      rw [hz]
      by_cases hb : r + n1 ≥ 4294967296
      · rw [if_pos hb, G.2.2 (by omega) hb]
        exact ⟨_, rfl⟩
      · rw [if_neg hb]
        refine l1_ends y n1 n0 u d Q s e v hy h1 h2 h3 h4 hs hd hd' hQ0 hQ1 hQ2 hQ3 n k (q - 1) (r + n1) (by omega) (by omega) ?_ (by omega) (by omega) ?_
        · rw [Int.sub_mul]; omega
        · have : ((n + 1 : Nat) : Int) * n1 = n * n1 + n1 := by rw [Int.natCast_add, Int.add_mul]; simp
          omega
/-- The first guess is no less than the figure, and too high by at most 2. -/
theorem guess0 (u d y n1 n0 Q : Int) (hy : y = n1 * 4294967296 + n0) (h1 : 2147483648 ≤ n1) (h2 : n1 < 4294967296) (h3 : 0 ≤ n0) (h4 : n0 < 4294967296)
    (hu0 : 0 ≤ u) (huy : u < y) (hd : 0 ≤ d) (hd' : d < 4294967296) (hQ0 : 0 ≤ Q) (hQ2 : Q * y ≤ u * 4294967296 + d) :
    0 ≤ u / n1 ∧ u / n1 ≤ 4294967297 ∧ Q ≤ u / n1 ∧ 0 ≤ u % n1 ∧ u % n1 < n1 ∧ u / n1 * n1 + u % n1 = u := by
  have ha := Int.emod_nonneg u (show n1 ≠ 0 by omega)
  have hb := Int.emod_lt_of_pos u (show 0 < n1 by omega)
  have hc := Int.mul_ediv_add_emod u n1
  rw [Int.mul_comm] at hc
  have hd0 := Int.ediv_nonneg hu0 (show 0 ≤ n1 by omega)
  refine ⟨hd0, ?_, ?_, ha, hb, hc⟩
  · refine Classical.byContradiction fun hn => ?_
    have := mul_le_r (show 4294967298 ≤ u / n1 by omega) (show 0 ≤ n1 by omega)
    omega
  · refine Classical.byContradiction fun hn => ?_
    have hm := mul_le_r (show u / n1 + 1 ≤ Q by omega) (show 0 ≤ n1 by omega)
    rw [Int.add_mul, Int.one_mul] at hm
    have he : Q * y = Q * n1 * 4294967296 + Q * n0 := by rw [hy, Int.mul_add, ← Int.mul_assoc]
    have hf := Int.mul_nonneg hQ0 h3
    omega
end Go.Proofs.YtgodmbcebpbdiaaDoor.G
end

/- math/bits.Div64: the quotient. -/
section
set_option linter.unusedVariables false
set_option linter.unusedSimpArgs false
namespace Go.Proofs.YtgodmbcebpbdiaaDoor.G
open Go.RowKit Go.Proofs.YtgodmbcebpbdiaaDoorW.PrintWords Go.Proofs.YtgodmbcebpbdiaaDoorW.PrintLast Go.Proofs.YtgodmbcebpbdiaaDoorW.PrintMore Go.Proofs.YtgodmbcebpbdiaaDoor.Q0
theorem wmod (x : Int) : IntKind.u64.wrap x = x % 18446744073709551616 := by simp [IntKind.wrap, IntKind.bits, IntKind.signed]
/-- Behind the first figure: the second one, and the quotient. -/
theorem j2_ends (k : Nat) (y n1 n0 u d c s Q R P : Int) (hy : y = n1 * 4294967296 + n0) (h1 : 2147483648 ≤ n1) (h2 : n1 < 4294967296) (h3 : 0 ≤ n0) (h4 : n0 < 4294967296)
    (hs : 0 ≤ s) (hu : 0 ≤ u) (hd : 0 ≤ d) (hd' : d < 4294967296) (hc : 0 ≤ c) (hc' : c < 4294967296) (hQ0 : 0 ≤ Q) (hQ1 : Q < 4294967296)
    (hR : u * 4294967296 + d = Q * y + R) (hR0 : 0 ≤ R) (hRy : R < y)
    (hP0 : 0 ≤ P) (hP1 : P < 4294967296) (hP2 : P * y ≤ R * 4294967296 + c) (hP3 : R * 4294967296 + c < P * y + y) :
    ∃ z, bits_Div64.j2 (k + 9) y s n1 n0 u d c Q = some (Q * 4294967296 + P, z) := by
  rw [bits_Div64.j2, if_neg (by omega)]
  have e1 : IntKind.u64.wrap (IntKind.u64.wrap (IntKind.u64.wrap (u * 4294967296) + d) - IntKind.u64.wrap (Q * y)) = R := by
    rw [wmod, wmod, wmod, wmod]; omega
  rw [e1]
  have G := guess0 R c y n1 n0 P hy h1 h2 h3 h4 hR0 hRy hc hc' hP0 hP2
  have e2 : IntKind.u64.wrap (Int.tdiv R n1) = R / n1 := by
    rw [Int.tdiv_eq_ediv_of_nonneg hR0, w64 (by omega) (by omega)]
  rw [e2]
  have e3 : IntKind.u64.wrap (R - IntKind.u64.wrap (R / n1 * n1)) = R % n1 := by
    rw [wmod, wmod]; omega
  rw [e3]
  obtain ⟨z, hz⟩ := l1_ends y n1 n0 R c P s Q R hy h1 h2 h3 h4 hs hc hc' hP0 hP1 hP2 hP3 3 k (R / n1) (R % n1) G.2.2.2.1 (by omega) G.2.2.2.2.2 G.2.2.1 G.2.1 (by omega)
  rw [show k + 8 = k + 2 * 3 + 2 from by omega, hz, w64 (x := Q * 4294967296) (by omega) (by omega), w64 (by omega) (by omega)]
  exact ⟨_, rfl⟩
/-- From the first guess on. -/
theorem l0_all (y n1 n0 u d c s : Int) (hy : y = n1 * 4294967296 + n0) (h1 : 2147483648 ≤ n1) (h2 : n1 < 4294967296) (h3 : 0 ≤ n0) (h4 : n0 < 4294967296)
    (hs : 0 ≤ s) (hu : 0 ≤ u) (huy : u < y) (hd : 0 ≤ d) (hd' : d < 4294967296) (hc : 0 ≤ c) (hc' : c < 4294967296) :
    ∃ z, bits_Div64.l0 20 y s n1 n0 u d c (IntKind.u64.wrap (Int.tdiv u n1)) (IntKind.u64.wrap (u - IntKind.u64.wrap (IntKind.u64.wrap (Int.tdiv u n1) * n1))) = some ((u * 18446744073709551616 + d * 4294967296 + c) / y, z) := by
  have hy0 : 0 < y := by omega
  have hN : 0 ≤ u * 4294967296 + d := by omega
  have q1 := Int.ediv_nonneg hN (show 0 ≤ y by omega)
  have q2 := Int.mul_ediv_add_emod (u * 4294967296 + d) y
  rw [Int.mul_comm] at q2
  have q3 := Int.emod_nonneg (u * 4294967296 + d) (show y ≠ 0 by omega)
  have q4 := Int.emod_lt_of_pos (u * 4294967296 + d) hy0
  generalize (u * 4294967296 + d) / y = Q at q1 q2
  generalize (u * 4294967296 + d) % y = R at q2 q3 q4
  have q5 : Q < 4294967296 := by
    refine Classical.byContradiction fun hn => ?_
    have := mul_le_r (show 4294967296 ≤ Q by omega) (show 0 ≤ y by omega)
    omega
  have hM : 0 ≤ R * 4294967296 + c := by omega
  have p1 := Int.ediv_nonneg hM (show 0 ≤ y by omega)
  have p2 := Int.mul_ediv_add_emod (R * 4294967296 + c) y
  rw [Int.mul_comm] at p2
  have p3 := Int.emod_nonneg (R * 4294967296 + c) (show y ≠ 0 by omega)
  have p4 := Int.emod_lt_of_pos (R * 4294967296 + c) hy0
  generalize (R * 4294967296 + c) / y = P at p1 p2
  generalize (R * 4294967296 + c) % y = S at p2 p3 p4
  have p5 : P < 4294967296 := by
    refine Classical.byContradiction fun hn => ?_
    have := mul_le_r (show 4294967296 ≤ P by omega) (show 0 ≤ y by omega)
    omega
  have e : (u * 18446744073709551616 + d * 4294967296 + c) / y = Q * 4294967296 + P := by
    have : u * 18446744073709551616 + d * 4294967296 + c = S + (Q * 4294967296 + P) * y := by
      rw [Int.add_mul, Int.mul_assoc, Int.mul_comm 4294967296 y, ← Int.mul_assoc]; omega
    rw [this, Int.add_mul_ediv_right _ _ (by omega), Int.ediv_eq_zero_of_lt p3 p4]; omega
  rw [e]
  have G := guess0 u d y n1 n0 Q hy h1 h2 h3 h4 hu huy hd hd' q1 (by omega)
  have e2 : IntKind.u64.wrap (Int.tdiv u n1) = u / n1 := by
    rw [Int.tdiv_eq_ediv_of_nonneg hu, w64 (by omega) (by omega)]
  rw [e2]
  have e3 : IntKind.u64.wrap (u - IntKind.u64.wrap (u / n1 * n1)) = u % n1 := by
    rw [wmod, wmod]; omega
  rw [e3]
  obtain ⟨m, hm, hl⟩ := l0_ends y n1 n0 u d Q s c hy h1 h2 h3 h4 hd hd' q1 q5 (by omega) (by omega) 3 12 (u / n1) (u % n1) G.2.2.2.1 (by omega) G.2.2.2.2.2 G.2.2.1 G.2.1 (by omega)
  rw [show (20 : Nat) = 12 + 2 * 3 + 2 from rfl, hl]
  obtain ⟨k, rfl⟩ : ∃ k, m = k + 9 := ⟨m - 9, by omega⟩
  exact j2_ends k y n1 n0 u d c s Q R P hy h1 h2 h3 h4 hs hu hd hd' hc hc' q1 q5 (by omega) q3 q4 p1 p5 (by omega) (by omega)
end Go.Proofs.YtgodmbcebpbdiaaDoor.G
end

/- math/bits.Div64 computes the quotient. -/
section
set_option linter.unusedVariables false
set_option linter.unusedSimpArgs false
namespace Go.Proofs.YtgodmbcebpbdiaaDoor.G
open Go.RowKit Go.Proofs.YtgodmbcebpbdiaaDoorW.PrintWords Go.Proofs.YtgodmbcebpbdiaaDoorW.PrintLast Go.Proofs.YtgodmbcebpbdiaaDoorW.PrintMore Go.Proofs.YtgodmbcebpbdiaaDoor.Q0
theorem shlN (a t : Nat) (ht : t ≤ 64) : shl .u64 (a : Int) (t : Int) = ((a * 2 ^ t % 18446744073709551616 : Nat) : Int) := by
  unfold shl
  rw [Int.toNat_natCast, Nat.min_eq_left (by simpa [IntKind.bits] using ht), wmod, Int.natCast_emod, Int.natCast_mul, Int.natCast_pow]
  rfl
theorem shrN (a t : Nat) (ht : t ≤ 64) : shr .u64 (a : Int) (t : Int) = ((a / 2 ^ t : Nat) : Int) := by
  unfold shr
  rw [Int.toNat_natCast, Nat.min_eq_left (by simpa [IntKind.bits] using ht), Int.natCast_ediv, Int.natCast_pow]
  rfl
theorem maskN (a : Nat) (h : a < 18446744073709551616) : Go.bits .and .u64 (a : Int) 4294967295 = ((a % 4294967296 : Nat) : Int) := by
  have := bits_and_u64_nat a 4294967295 h (by omega)
  rw [show (4294967295 : Int) = ((4294967295 : Nat) : Int) from rfl, this, show (4294967295 : Nat) = 2 ^ 32 - 1 from rfl, Nat.and_two_pow_sub_one_eq_mod]
theorem divN (a b : Nat) : (a : Int) / (b : Int) = ((a / b : Nat) : Int) := (Int.natCast_ediv a b).symm
set_option maxRecDepth 4000 in
theorem div64 (hi lo y : Nat) (h : hi < y) (hlo : lo < 18446744073709551616) (hy : y < 18446744073709551616) :
    ∃ z, bits_Div64.f 20 hi lo y = some ((((hi * 18446744073709551616 + lo) / y : Nat) : Int), z) := by
  unfold bits_Div64.f
  rw [if_neg (by omega), if_neg (by omega)]
  by_cases h0 : hi = 0
  · subst h0
    rw [if_pos (by rfl), Int.tdiv_eq_ediv_of_nonneg (by omega), divN, Nat.zero_mul, Nat.zero_add]
    have hd := Nat.div_le_self lo y
    generalize lo / y = D at hd ⊢
    rw [w64 (by omega) (by omega)]
    exact ⟨_, rfl⟩
  rw [if_neg (by omega)]
  obtain ⟨L1, L2, L3⟩ := Lib.bitLenAux_bounds 64 y hy (by omega)
  have L4 : Lib.bitLenAux 64 y ≤ 64 := Lib.bitLen_le y 64 (Nat.le_refl _) hy
  have hlz : bits_LeadingZeros64.f (y : Int) = some (64 - (Lib.bitLenAux 64 y : Int)) := by
    unfold bits_LeadingZeros64.f
    rw [if_pos ⟨by omega, by omega⟩, Int.toNat_natCast]; rfl
  rw [hlz]
  generalize Lib.bitLenAux 64 y = L at L1 L2 L3 L4 hlz
  obtain ⟨t, rfl⟩ : ∃ t, L = 64 - t := ⟨64 - L, by omega⟩
  have ht : t ≤ 63 := by omega
  clear L4 hlz L1
  have m1 : 2 ^ (64 - t - 1) * 2 ^ t = 9223372036854775808 := by rw [← Nat.pow_add, show 64 - t - 1 + t = 63 by omega]
  have m2 : 2 ^ (64 - t) * 2 ^ t = 18446744073709551616 := by rw [← Nat.pow_add, show 64 - t + t = 64 by omega]
  have hp : 0 < 2 ^ t := Nat.two_pow_pos t
  have y1 : 9223372036854775808 ≤ y * 2 ^ t := by rw [← m1]; exact Nat.mul_le_mul_right _ L2
  have y2 : y * 2 ^ t < 18446744073709551616 := by rw [← m2]; exact Nat.mul_lt_mul_of_pos_right L3 hp
  have y3 : hi * 2 ^ t + 2 ^ t ≤ y * 2 ^ t := by rw [← Nat.succ_mul]; exact Nat.mul_le_mul_right _ h
  have y4 : lo / 2 ^ (64 - t) < 2 ^ t := Nat.div_lt_of_lt_mul (by rw [m2]; exact hlo)
  have y5 : lo * 2 ^ t / 18446744073709551616 = lo / 2 ^ (64 - t) := by rw [← m2, Nat.mul_div_mul_right _ _ hp]
  have e1 : IntKind.u64.wrap (64 - ((64 - t : Nat) : Int)) = (t : Int) := by rw [w64 (by omega) (by omega)]; omega
  have e2 : IntKind.u64.wrap (64 - (t : Int)) = ((64 - t : Nat) : Int) := by rw [w64 (by omega) (by omega)]; omega
  rw [Option.bind_some, e1, e2, if_pos (by omega), if_pos (by omega), shlN y t (by omega), shlN hi t (by omega), shlN lo t (by omega), shrN lo (64 - t) (by omega)]
  rw [Nat.mod_eq_of_lt y2, Nat.mod_eq_of_lt (show hi * 2 ^ t < 18446744073709551616 by omega), maskN _ y2, maskN _ (Nat.mod_lt _ (by decide))]
  rw [bits_or_u64_nat _ _ (by omega) (by omega), ← Nat.shiftLeft_eq hi t, ← Nat.shiftLeft_add_eq_or_of_lt y4, Nat.shiftLeft_eq hi t]
  have hfin : (hi * 18446744073709551616 + lo) / y = ((hi * 2 ^ t + lo / 2 ^ (64 - t)) * 18446744073709551616 + lo * 2 ^ t % 18446744073709551616) / (y * 2 ^ t) := by
    rw [← Nat.mul_div_mul_right _ y hp]
    congr 1
    rw [Nat.add_mul, Nat.mul_right_comm]
    omega
  rw [hfin]
  clear y5 hfin e1 e2 m1 m2 L2 L3
  generalize y * 2 ^ t = Y at y1 y2 y3 ⊢
  have hV : lo * 2 ^ t % 18446744073709551616 < 18446744073709551616 := Nat.mod_lt _ (by decide)
  generalize lo * 2 ^ t % 18446744073709551616 = V at hV ⊢
  generalize lo / 2 ^ (64 - t) = W at y4 ⊢
  rw [show ((Y : Nat) : Int) / 4294967296 = ((Y / 4294967296 : Nat) : Int) by omega, show ((V : Nat) : Int) / 4294967296 = ((V / 4294967296 : Nat) : Int) by omega, if_neg (by omega)]
  have hU : hi * 2 ^ t + W < Y := by omega
  generalize hi * 2 ^ t + W = U at hU ⊢
  obtain ⟨z, hz⟩ := l0_all (Y : Int) ((Y / 4294967296 : Nat) : Int) ((Y % 4294967296 : Nat) : Int) (U : Int) ((V / 4294967296 : Nat) : Int) ((V % 4294967296 : Nat) : Int) (t : Int) (by omega) (by omega) (by omega) (by omega) (by omega) (by omega) (by omega) (by omega) (by omega) (by omega) (by omega) (by omega)
  rw [hz, show (U : Int) * 18446744073709551616 + ((V / 4294967296 : Nat) : Int) * 4294967296 + ((V % 4294967296 : Nat) : Int) = ((U * 18446744073709551616 + V : Nat) : Int) by omega, divN]
  exact ⟨_, rfl⟩
end Go.Proofs.YtgodmbcebpbdiaaDoor.G
end

/- dec.scaled, walked. -/
section
set_option linter.unusedVariables false
set_option linter.unusedSimpArgs false
namespace Go.Proofs.YtgodmbcebpbdiaaDoor.G
open Go.RowKit Go.Proofs.YtgodmbcebpbdiaaDoorW.PrintWords Go.Proofs.YtgodmbcebpbdiaaDoorW.PrintLast Go.Proofs.YtgodmbcebpbdiaaDoorW.PrintMore Go.Proofs.YtgodmbcebpbdiaaDoor.Q0
theorem ret_tup2 {a b a' b' : Value} (h : a = a') (h' : b = b') : Ending.returned (.tuple #[a, b]) = .returned (.tuple #[a', b']) := by rw [h, h']
theorem split_calls (n : Int) (w : World) (h0 : -9223372036854775808 ≤ n) (h1 : n ≤ 9223372036854775807) :
    Calls Tryd.prog 43 #[.int .i64 n] w fun x w' => x = .returned (.tuple #[.int .u64 (n.natAbs : Nat), .bool (decide (n < 0))]) ∧ w' = w := by
  by_cases h : n < 0
  · refine (split_neg n w (decide_eq_true h)).mono ?_
    rintro e w' ⟨rfl, rfl⟩
    refine ⟨?_, rfl⟩
    rw [show IntKind.u64.wrap (-IntKind.u64.wrap n) = ((n.natAbs : Nat) : Int) by rw [wmod, wmod]; omega, decide_eq_true h]
  · refine (split_pos n w (decide_eq_false h)).mono ?_
    rintro e w' ⟨rfl, rfl⟩
    refine ⟨?_, rfl⟩
    rw [show IntKind.u64.wrap n = ((n.natAbs : Nat) : Int) by rw [wmod]; omega, decide_eq_false h]
set_option maxHeartbeats 4000000 in
set_option maxRecDepth 100000 in
theorem scaled_walk (a b c x y z hi lo qq rr v : Int) (p q r : Bool) (w : World)
    (sa : ∀ w, Calls Tryd.prog 43 #[.int .i64 a] w fun e w' => e = .returned (.tuple #[.int .u64 x, .bool p]) ∧ w' = w)
    (sb : ∀ w, Calls Tryd.prog 43 #[.int .i64 b] w fun e w' => e = .returned (.tuple #[.int .u64 y, .bool q]) ∧ w' = w)
    (sc : ∀ w, Calls Tryd.prog 43 #[.int .i64 c] w fun e w' => e = .returned (.tuple #[.int .u64 z, .bool r]) ∧ w' = w)
    (sm : ∀ w, Calls Tryd.prog 37 #[.int .u64 x, .int .u64 y] w fun e w' => e = .returned (.tuple #[.int .u64 hi, .int .u64 lo]) ∧ w' = w)
    (ht : decide (hi ≥ z) = false)
    (sd : ∀ w, Calls Tryd.prog 62 #[.int .u64 hi, .int .u64 lo, .int .u64 z] w fun e w' => e = .returned (.tuple #[.int .u64 qq, .int .u64 rr]) ∧ Drawn0 w w')
    (sj : ∀ w, Calls Tryd.prog 39 #[.int .u64 0, .int .u64 qq, .bool ((p != q) != r)] w fun e w' => e = .returned (.int .i64 v) ∧ w = w') :
    Calls Tryd.prog 47 #[.int .i64 a, .int .i64 b, .int .i64 c] w fun x w' => x = .returned (.int .i64 v) ∧ Drawn0 w w' := by
  go_enter Tryd.func47, Tryd.ntmps47
  go_wp2_with fail
  refine (sa _).mono ?_
  rintro e w' ⟨rfl, rfl⟩
  go_wp2_with fail
  refine (sb _).mono ?_
  rintro e w' ⟨rfl, rfl⟩
  go_wp2_with fail
  refine (sc _).mono ?_
  rintro e w' ⟨rfl, rfl⟩
  go_wp2_with fail
  refine (sm _).mono ?_
  rintro e w' ⟨rfl, rfl⟩
  go_wp2_with fail
  refine (wrong_no _ _).mono ?_
  rintro e w' ⟨rfl, rfl⟩
  go_wp2_with fail
  refine (sd _).mono ?_
  rintro e w' ⟨rfl, hD⟩
  go_wp2_with fail
  refine (sj _).mono ?_
  rintro e w' ⟨rfl, rfl⟩
  go_wp2
  go_ret
  exact ⟨rfl, hD⟩
set_option maxHeartbeats 4000000 in
set_option maxRecDepth 100000 in
theorem scaled_walk_over (a b c x y z hi lo : Int) (p q r : Bool) (w : World)
    (sa : ∀ w, Calls Tryd.prog 43 #[.int .i64 a] w fun e w' => e = .returned (.tuple #[.int .u64 x, .bool p]) ∧ w' = w)
    (sb : ∀ w, Calls Tryd.prog 43 #[.int .i64 b] w fun e w' => e = .returned (.tuple #[.int .u64 y, .bool q]) ∧ w' = w)
    (sc : ∀ w, Calls Tryd.prog 43 #[.int .i64 c] w fun e w' => e = .returned (.tuple #[.int .u64 z, .bool r]) ∧ w' = w)
    (sm : ∀ w, Calls Tryd.prog 37 #[.int .u64 x, .int .u64 y] w fun e w' => e = .returned (.tuple #[.int .u64 hi, .int .u64 lo]) ∧ w' = w)
    (ht : decide (hi ≥ z) = true) :
    Calls Tryd.prog 47 #[.int .i64 a, .int .i64 b, .int .i64 c] w fun x w' => x = .panicked [fault 3] ∧ Drawn0 w w' := by
  go_enter Tryd.func47, Tryd.ntmps47
  go_wp2_with fail
  refine (sa _).mono ?_
  rintro e w' ⟨rfl, rfl⟩
  go_wp2_with fail
  refine (sb _).mono ?_
  rintro e w' ⟨rfl, rfl⟩
  go_wp2_with fail
  refine (sc _).mono ?_
  rintro e w' ⟨rfl, rfl⟩
  go_wp2_with fail
  refine (sm _).mono ?_
  rintro e w' ⟨rfl, rfl⟩
  go_wp2_with fail
  refine (wrong_yes _ _).mono ?_
  rintro e w' ⟨rfl, rfl⟩
  exact ⟨rfl, rfl, Drawn0.refl _⟩
set_option maxHeartbeats 4000000 in
set_option maxRecDepth 100000 in
theorem scaled_walk_far (a b c x y z hi lo qq rr : Int) (p q r : Bool) (w : World)
    (sa : ∀ w, Calls Tryd.prog 43 #[.int .i64 a] w fun e w' => e = .returned (.tuple #[.int .u64 x, .bool p]) ∧ w' = w)
    (sb : ∀ w, Calls Tryd.prog 43 #[.int .i64 b] w fun e w' => e = .returned (.tuple #[.int .u64 y, .bool q]) ∧ w' = w)
    (sc : ∀ w, Calls Tryd.prog 43 #[.int .i64 c] w fun e w' => e = .returned (.tuple #[.int .u64 z, .bool r]) ∧ w' = w)
    (sm : ∀ w, Calls Tryd.prog 37 #[.int .u64 x, .int .u64 y] w fun e w' => e = .returned (.tuple #[.int .u64 hi, .int .u64 lo]) ∧ w' = w)
    (ht : decide (hi ≥ z) = false)
    (sd : ∀ w, Calls Tryd.prog 62 #[.int .u64 hi, .int .u64 lo, .int .u64 z] w fun e w' => e = .returned (.tuple #[.int .u64 qq, .int .u64 rr]) ∧ Drawn0 w w')
    (sj : ∀ w, Calls Tryd.prog 39 #[.int .u64 0, .int .u64 qq, .bool ((p != q) != r)] w fun e w' => e = .panicked [fault 3] ∧ w = w') :
    Calls Tryd.prog 47 #[.int .i64 a, .int .i64 b, .int .i64 c] w fun x w' => x = .panicked [fault 3] ∧ Drawn0 w w' := by
  go_enter Tryd.func47, Tryd.ntmps47
  go_wp2_with fail
  refine (sa _).mono ?_
  rintro e w' ⟨rfl, rfl⟩
  go_wp2_with fail
  refine (sb _).mono ?_
  rintro e w' ⟨rfl, rfl⟩
  go_wp2_with fail
  refine (sc _).mono ?_
  rintro e w' ⟨rfl, rfl⟩
  go_wp2_with fail
  refine (sm _).mono ?_
  rintro e w' ⟨rfl, rfl⟩
  go_wp2_with fail
  refine (wrong_no _ _).mono ?_
  rintro e w' ⟨rfl, rfl⟩
  go_wp2_with fail
  refine (sd _).mono ?_
  rintro e w' ⟨rfl, hD⟩
  go_wp2_with fail
  refine (sj _).mono ?_
  rintro e w' ⟨rfl, rfl⟩
  exact ⟨rfl, rfl, hD⟩
/-- a times b, divided by c; none: it gives up. -/
def scaledV (a b c : Int) : Option Int :=
  if c.natAbs ≤ a.natAbs * b.natAbs / 18446744073709551616 then none else joinV (a.natAbs * b.natAbs / c.natAbs) ((decide (a < 0) != decide (b < 0)) != decide (c < 0))
theorem abs64 {n : Int} (h0 : -9223372036854775808 ≤ n) (h1 : n ≤ 9223372036854775807) : n.natAbs < 18446744073709551616 := by omega
theorem quo64 (m z : Nat) (h : ¬ z ≤ m / 18446744073709551616) : m / z < 18446744073709551616 := by
  have hz : 0 < z := by omega
  rw [Nat.div_lt_iff_lt_mul hz, Nat.mul_comm]
  have := Nat.mul_le_mul_right 18446744073709551616 (show m / 18446744073709551616 + 1 ≤ z by omega)
  omega
section
variable (a b c : Int) (w : World) (a0 : -9223372036854775808 ≤ a) (a1 : a ≤ 9223372036854775807) (b0 : -9223372036854775808 ≤ b) (b1 : b ≤ 9223372036854775807) (c0 : -9223372036854775808 ≤ c) (c1 : c ≤ 9223372036854775807)
include a0 a1 b0 b1 c0 c1
theorem scaled_some (v : Int) (h : scaledV a b c = some v) :
    Calls Tryd.prog 47 #[.int .i64 a, .int .i64 b, .int .i64 c] w fun x w' => x = .returned (.int .i64 v) ∧ Drawn0 w w' := by
  unfold scaledV at h
  by_cases hz : c.natAbs ≤ a.natAbs * b.natAbs / 18446744073709551616
  · rw [if_pos hz] at h; cases h
  · rw [if_neg hz] at h
    obtain ⟨rr, hq⟩ := div64 _ _ _ (Nat.lt_of_not_le hz) (Nat.mod_lt (a.natAbs * b.natAbs) (by decide)) (abs64 c0 c1)
    rw [Nat.mul_comm (a.natAbs * b.natAbs / 18446744073709551616), Nat.div_add_mod] at hq
    exact scaled_walk a b c _ _ _ _ _ _ rr v _ _ _ w (fun w => split_calls a w a0 a1) (fun w => split_calls b w b0 b1) (fun w => split_calls c w c0 c1)
      (fun w => Tryd.bits_Mul64 _ _ (abs64 a0 a1) (abs64 b0 b1) w) (decide_eq_false (by omega)) (fun w => bits_Div64.calls 20 _ _ _ _ _ w hq) (fun w => joined_some _ _ v w (quo64 _ _ hz) h)
theorem scaled_none (h : scaledV a b c = none) :
    Calls Tryd.prog 47 #[.int .i64 a, .int .i64 b, .int .i64 c] w fun x w' => x = .panicked [fault 3] ∧ Drawn0 w w' := by
  unfold scaledV at h
  by_cases hz : c.natAbs ≤ a.natAbs * b.natAbs / 18446744073709551616
  · exact scaled_walk_over a b c _ _ _ _ _ _ _ _ w (fun w => split_calls a w a0 a1) (fun w => split_calls b w b0 b1) (fun w => split_calls c w c0 c1)
      (fun w => Tryd.bits_Mul64 _ _ (abs64 a0 a1) (abs64 b0 b1) w) (decide_eq_true (by omega))
  · rw [if_neg hz] at h
    obtain ⟨rr, hq⟩ := div64 _ _ _ (Nat.lt_of_not_le hz) (Nat.mod_lt (a.natAbs * b.natAbs) (by decide)) (abs64 c0 c1)
    rw [Nat.mul_comm (a.natAbs * b.natAbs / 18446744073709551616), Nat.div_add_mod] at hq
    exact scaled_walk_far a b c _ _ _ _ _ _ rr _ _ _ w (fun w => split_calls a w a0 a1) (fun w => split_calls b w b0 b1) (fun w => split_calls c w c0 c1)
      (fun w => Tryd.bits_Mul64 _ _ (abs64 a0 a1) (abs64 b0 b1) w) (decide_eq_false (by omega)) (fun w => bits_Div64.calls 20 _ _ _ _ _ w hq) (fun w => joined_none _ _ w h)
end
end Go.Proofs.YtgodmbcebpbdiaaDoor.G
end

/- dec.Mul, dec.Div, dec.Whole, walked: at every two numbers. -/
section
set_option linter.unusedVariables false
set_option linter.unusedSimpArgs false
namespace Go.Proofs.YtgodmbcebpbdiaaDoor.G
open Go.RowKit Go.Proofs.YtgodmbcebpbdiaaDoorW.PrintWords Go.Proofs.YtgodmbcebpbdiaaDoorW.PrintLast
theorem belowN {B : Nat} {a w : World} (h : Below B a w) (n : Nat) : Below B a (w.drewN n) := h.trans ⟨rfl, rfl, rfl, Nat.le_refl _, fun _ _ => rfl⟩
set_option maxHeartbeats 4000000 in
set_option maxRecDepth 100000 in
theorem mul_some (a b v : Int) (w : World) 
    (hc : ∀ w, Calls Tryd.prog 47 #[.int .i64 a, .int .i64 b, .int .i64 1000000] w fun x w' => x = .returned (.int .i64 v) ∧ Drawn0 w w') :
    Calls Tryd.prog 17 #[.int .i64 a, .int .i64 b] w fun x w' => x = .returned (.tuple #[.int .i64 v, .int .i64 0]) ∧ Below w.heap.size w w' := by
    go_enter_defers Tryd.func17, Tryd.ntmps17
    go_wp2_with fail
    refine (hc _).mono ?_
    rintro e w' ⟨rfl, nd, rfl⟩
    go_wp2
    refine leaves_cons (f := 34) (args := #[.pointer (some ⟨w.heap.size, 0, none⟩), .pointer (some ⟨w.heap.size + 1, 0, none⟩)]) (by simp) (by simp [go_sem]) ?_
    refine (caught_no w.heap.size (w.heap.size + 1) _).mono ?_
    rintro e u' w'' ⟨rfl, rfl, rfl⟩
    simp [Leaves, settle, fault, results, Tryd.results17, go_sem]
    exact ((belowN (((Below.refl _ _).alloc (Nat.le_refl _) _).alloc (by simp) _) nd).setCell (by simp) _).setCell (by simp) _
set_option maxHeartbeats 4000000 in
set_option maxRecDepth 100000 in
theorem mul_none (a b : Int) (w : World) 
    (hc : ∀ w, Calls Tryd.prog 47 #[.int .i64 a, .int .i64 b, .int .i64 1000000] w fun x w' => x = .panicked [fault 3] ∧ Drawn0 w w') :
    Calls Tryd.prog 17 #[.int .i64 a, .int .i64 b] w fun x w' => x = .returned (.tuple #[.int .i64 0, .int .i64 3]) ∧ Below w.heap.size w w' := by
    go_enter_defers Tryd.func17, Tryd.ntmps17
    go_wp2_with fail
    refine (hc _).mono ?_
    rintro e w' ⟨rfl, nd, rfl⟩
    refine leaves_cons (f := 34) (args := #[.pointer (some ⟨w.heap.size, 0, none⟩), .pointer (some ⟨w.heap.size + 1, 0, none⟩)]) (by simp) (by simp [go_sem]) ?_
    refine (caught_yes w.heap.size (w.heap.size + 1) 0 0 3 [] _ (by simp [go_sem]) (by simp [go_sem]) (by simp [go_sem]) (by simp [go_sem]) (by omega)).mono ?_
    rintro e u' w'' ⟨rfl, rfl, rfl⟩
    simp [Leaves, settle, fault, results, Tryd.results17, go_sem]
    exact below_drew (below_alloc (((belowN (((Below.refl _ _).alloc (Nat.le_refl _) _).alloc (by simp) _) nd).setCell (by simp) _).setCell (by simp) _) _)
set_option maxHeartbeats 4000000 in
set_option maxRecDepth 100000 in
theorem div_some (a b v : Int) (w : World) (h0 : (b == 0) = false) 
    (hc : ∀ w, Calls Tryd.prog 47 #[.int .i64 a, .int .i64 1000000, .int .i64 b] w fun x w' => x = .returned (.int .i64 v) ∧ Drawn0 w w') :
    Calls Tryd.prog 18 #[.int .i64 a, .int .i64 b] w fun x w' => x = .returned (.tuple #[.int .i64 v, .int .i64 0]) ∧ Below w.heap.size w w' := by
    go_enter_defers Tryd.func18, Tryd.ntmps18
    go_wp2_with fail
    refine (wrong_no _ _).mono ?_
    rintro e w' ⟨rfl, rfl⟩
    go_wp2_with fail
    refine (hc _).mono ?_
    rintro e w' ⟨rfl, nd, rfl⟩
    go_wp2
    refine leaves_cons (f := 34) (args := #[.pointer (some ⟨w.heap.size, 0, none⟩), .pointer (some ⟨w.heap.size + 1, 0, none⟩)]) (by simp) (by simp [go_sem]) ?_
    refine (caught_no w.heap.size (w.heap.size + 1) _).mono ?_
    rintro e u' w'' ⟨rfl, rfl, rfl⟩
    simp [Leaves, settle, fault, results, Tryd.results18, go_sem]
    exact ((belowN (((Below.refl _ _).alloc (Nat.le_refl _) _).alloc (by simp) _) nd).setCell (by simp) _).setCell (by simp) _
set_option maxHeartbeats 4000000 in
set_option maxRecDepth 100000 in
theorem div_none (a b : Int) (w : World) (h0 : (b == 0) = false) 
    (hc : ∀ w, Calls Tryd.prog 47 #[.int .i64 a, .int .i64 1000000, .int .i64 b] w fun x w' => x = .panicked [fault 3] ∧ Drawn0 w w') :
    Calls Tryd.prog 18 #[.int .i64 a, .int .i64 b] w fun x w' => x = .returned (.tuple #[.int .i64 0, .int .i64 3]) ∧ Below w.heap.size w w' := by
    go_enter_defers Tryd.func18, Tryd.ntmps18
    go_wp2_with fail
    refine (wrong_no _ _).mono ?_
    rintro e w' ⟨rfl, rfl⟩
    go_wp2_with fail
    refine (hc _).mono ?_
    rintro e w' ⟨rfl, nd, rfl⟩
    refine leaves_cons (f := 34) (args := #[.pointer (some ⟨w.heap.size, 0, none⟩), .pointer (some ⟨w.heap.size + 1, 0, none⟩)]) (by simp) (by simp [go_sem]) ?_
    refine (caught_yes w.heap.size (w.heap.size + 1) 0 0 3 [] _ (by simp [go_sem]) (by simp [go_sem]) (by simp [go_sem]) (by simp [go_sem]) (by omega)).mono ?_
    rintro e u' w'' ⟨rfl, rfl, rfl⟩
    simp [Leaves, settle, fault, results, Tryd.results18, go_sem]
    exact below_drew (below_alloc (((belowN (((Below.refl _ _).alloc (Nat.le_refl _) _).alloc (by simp) _) nd).setCell (by simp) _).setCell (by simp) _) _)
set_option maxHeartbeats 4000000 in
set_option maxRecDepth 100000 in
theorem div_zero (a : Int) (w : World) :
    Calls Tryd.prog 18 #[.int .i64 a, .int .i64 0] w fun x w' => x = .returned (.tuple #[.int .i64 0, .int .i64 4]) ∧ Below w.heap.size w w' := by
    go_enter_defers Tryd.func18, Tryd.ntmps18
    go_wp2_with fail
    refine (wrong_yes _ _).mono ?_
    rintro e w' ⟨rfl, rfl⟩
    refine leaves_cons (f := 34) (args := #[.pointer (some ⟨w.heap.size, 0, none⟩), .pointer (some ⟨w.heap.size + 1, 0, none⟩)]) (by simp) (by simp [go_sem]) ?_
    refine (caught_yes w.heap.size (w.heap.size + 1) 0 0 4 [] _ (by simp [go_sem]) (by simp [go_sem]) (by simp [go_sem]) (by simp [go_sem]) (by omega)).mono ?_
    rintro e u' w'' ⟨rfl, rfl, rfl⟩
    simp [Leaves, settle, fault, results, Tryd.results18, go_sem]
    exact below_drew (below_alloc (((Below.refl _ _).alloc (Nat.le_refl _) _).alloc (by simp) _) _)
set_option maxHeartbeats 4000000 in
set_option maxRecDepth 100000 in
theorem whole_some (n v : Int) (w : World) 
    (hc : ∀ w, Calls Tryd.prog 47 #[.int .i64 n, .int .i64 1000000, .int .i64 1] w fun x w' => x = .returned (.int .i64 v) ∧ Drawn0 w w') :
    Calls Tryd.prog 20 #[.int .i64 n] w fun x w' => x = .returned (.tuple #[.int .i64 v, .int .i64 0]) ∧ Below w.heap.size w w' := by
    go_enter_defers Tryd.func20, Tryd.ntmps20
    go_wp2_with fail
    refine (hc _).mono ?_
    rintro e w' ⟨rfl, nd, rfl⟩
    go_wp2
    refine leaves_cons (f := 34) (args := #[.pointer (some ⟨w.heap.size, 0, none⟩), .pointer (some ⟨w.heap.size + 1, 0, none⟩)]) (by simp) (by simp [go_sem]) ?_
    refine (caught_no w.heap.size (w.heap.size + 1) _).mono ?_
    rintro e u' w'' ⟨rfl, rfl, rfl⟩
    simp [Leaves, settle, fault, results, Tryd.results20, go_sem]
    exact ((belowN (((Below.refl _ _).alloc (Nat.le_refl _) _).alloc (by simp) _) nd).setCell (by simp) _).setCell (by simp) _
set_option maxHeartbeats 4000000 in
set_option maxRecDepth 100000 in
theorem whole_none (n : Int) (w : World) 
    (hc : ∀ w, Calls Tryd.prog 47 #[.int .i64 n, .int .i64 1000000, .int .i64 1] w fun x w' => x = .panicked [fault 3] ∧ Drawn0 w w') :
    Calls Tryd.prog 20 #[.int .i64 n] w fun x w' => x = .returned (.tuple #[.int .i64 0, .int .i64 3]) ∧ Below w.heap.size w w' := by
    go_enter_defers Tryd.func20, Tryd.ntmps20
    go_wp2_with fail
    refine (hc _).mono ?_
    rintro e w' ⟨rfl, nd, rfl⟩
    refine leaves_cons (f := 34) (args := #[.pointer (some ⟨w.heap.size, 0, none⟩), .pointer (some ⟨w.heap.size + 1, 0, none⟩)]) (by simp) (by simp [go_sem]) ?_
    refine (caught_yes w.heap.size (w.heap.size + 1) 0 0 3 [] _ (by simp [go_sem]) (by simp [go_sem]) (by simp [go_sem]) (by simp [go_sem]) (by omega)).mono ?_
    rintro e u' w'' ⟨rfl, rfl, rfl⟩
    simp [Leaves, settle, fault, results, Tryd.results20, go_sem]
    exact below_drew (below_alloc (((belowN (((Below.refl _ _).alloc (Nat.le_refl _) _).alloc (by simp) _) nd).setCell (by simp) _).setCell (by simp) _) _)
/-- What dec.Mul, dec.Div, dec.Whole come to. -/
def orOver (v : Option Int) : Int × Int := match v with | some v => (v, 0) | none => (0, 3)
def mulV (a b : Int) : Int × Int := orOver (scaledV a b 1000000)
def divV (a b : Int) : Int × Int := if b = 0 then (0, 4) else orOver (scaledV a 1000000 b)
def wholeV (n : Int) : Int × Int := orOver (scaledV n 1000000 1)
section
variable (a b : Int) (w : World) (a0 : -9223372036854775808 ≤ a) (a1 : a ≤ 9223372036854775807) (b0 : -9223372036854775808 ≤ b) (b1 : b ≤ 9223372036854775807)
include a0 a1
theorem whole_calls : Calls Tryd.prog 20 #[.int .i64 a] w fun x w' => x = .returned (.tuple #[.int .i64 (wholeV a).1, .int .i64 (wholeV a).2]) ∧ Below w.heap.size w w' := by
  unfold wholeV
  cases h : scaledV a 1000000 1 with
  | some v => exact whole_some a v w fun w => scaled_some a 1000000 1 w a0 a1 (by decide) (by decide) (by decide) (by decide) v h
  | none => exact whole_none a w fun w => scaled_none a 1000000 1 w a0 a1 (by decide) (by decide) (by decide) (by decide) h
include b0 b1
theorem mul_calls : Calls Tryd.prog 17 #[.int .i64 a, .int .i64 b] w fun x w' => x = .returned (.tuple #[.int .i64 (mulV a b).1, .int .i64 (mulV a b).2]) ∧ Below w.heap.size w w' := by
  unfold mulV
  cases h : scaledV a b 1000000 with
  | some v => exact mul_some a b v w fun w => scaled_some a b 1000000 w a0 a1 b0 b1 (by decide) (by decide) v h
  | none => exact mul_none a b w fun w => scaled_none a b 1000000 w a0 a1 b0 b1 (by decide) (by decide) h
theorem div_calls : Calls Tryd.prog 18 #[.int .i64 a, .int .i64 b] w fun x w' => x = .returned (.tuple #[.int .i64 (divV a b).1, .int .i64 (divV a b).2]) ∧ Below w.heap.size w w' := by
  unfold divV
  by_cases hb : b = 0
  · subst hb
    rw [if_pos rfl]; exact div_zero a w
  · rw [if_neg hb]
    have hb' : (b == 0) = false := by simpa using hb
    cases h : scaledV a 1000000 b with
    | some v => exact div_some a b v w hb' fun w => scaled_some a 1000000 b w a0 a1 (by decide) (by decide) b0 b1 v h
    | none => exact div_none a b w hb' fun w => scaled_none a 1000000 b w a0 a1 (by decide) (by decide) b0 b1 h
end
end Go.Proofs.YtgodmbcebpbdiaaDoor.G
end

/- The functions of package dec that give up and catch, and hex.Figures, as Lean functions for print. Conditions: the table of figures lies as it is laid (GT). -/
section
set_option linter.unusedVariables false
set_option linter.unusedSimpArgs false
namespace Go.Proofs.YtgodmbcebpbdiaaDoor.G
open Go.RowKit Go.Proofs.YtgodmbcebpbdiaaDoorW.PrintWords Go.Proofs.YtgodmbcebpbdiaaDoorW.PrintLast
theorem var_below {n : String} {cs : Array Value} {w w' : World} (h : w.var? Tryd.prog n = some cs) (hb : Below w.heap.size w w') : w'.var? Tryd.prog n = some cs := by
  unfold World.var? at h ⊢
  cases hg : Tryd.prog.globalNamed n with
  | none => simp [hg] at h
  | some g =>
    simp only [hg, Option.bind_some] at h ⊢
    have hlt : g < w.heap.size := by
      rcases Nat.lt_or_ge g w.heap.size with h' | h'
      · exact h'
      · simp [Array.getElem?_eq_none h'] at h
    rw [hb.block g hlt]
    exact h
/-- The table of the library's that a number's figures are read from lies as it is laid. -/
structure GT (w : World) : Prop where
  tab : Lib.TabIs Tryd.prog w "internal/strconv.uint64pow10" .u64 Lib.pow10Tab
theorem GT.below {w w' : World} (h : GT w) (hb : Below w.heap.size w w') : GT w' := ⟨var_below h.tab hb⟩
set_option maxHeartbeats 1000000 in
theorem figures_calls (n : Int) (h0 : -9223372036854775808 ≤ n) (h1 : n ≤ 9223372036854775807) (w : World) (hG : GT w) :
    Calls Tryd.prog 44 #[.int .i64 n] w fun e w' => e = .returned (.string ⟨(Lib.itoa n).toArray⟩) ∧ Below w.heap.size w w' := by
  have HG := Lib.hid hG.tab
  clear hG
  go_enter Tryd.func44, Tryd.ntmps44
  go_wp2_with (go_at_call 56; refine (Tryd.strconv_FormatInt_10 n h0 h1 _ HG.out).mono ?_; rintro e w' ⟨rfl, k, os, rfl⟩)
  go_ret
  exact ⟨rfl, Lib.below_grow _ _ (Nat.le_refl _) _ _⟩
/-- A number of 64 bits. -/
def in64 (n : Int) : Prop := -9223372036854775808 ≤ n ∧ n ≤ 9223372036854775807
instance (n : Int) : Decidable (in64 n) := by unfold in64; infer_instance
def hex_Figures.f (a0 : Int) : Option ByteArray := if in64 a0 then some ⟨(Lib.itoa a0).toArray⟩ else none
theorem hex_Figures.calls (a0 : Int) (r : ByteArray) (w : World) (hG : GT w) (h : hex_Figures.f a0 = some r) :
    Calls Tryd.prog 44 #[.int .i64 a0] w fun e w' => e = .returned (.string r) ∧ Below w.heap.size w w' := by
  unfold hex_Figures.f at h
  by_cases hs : in64 a0
  · rw [if_pos hs] at h
    obtain rfl := Option.some.inj h
    exact figures_calls a0 hs.1 hs.2 w hG
  · rw [if_neg hs] at h; cases h
def dec_Add.f (a b : Int) : Option (Int × Int) := some (addV a b)
theorem dec_Add.calls (a b r1 r2 : Int) (w : World) (h : dec_Add.f a b = some (r1, r2)) :
    Calls Tryd.prog 23 #[.int .i64 a, .int .i64 b] w fun e w' => e = .returned (.tuple #[.int .i64 r1, .int .i64 r2]) ∧ Below w.heap.size w w' := by
  have := add_calls a b w
  rw [Option.some.inj h] at this; exact this
def dec_Sub.f (a b : Int) : Option (Int × Int) := some (subV a b)
theorem dec_Sub.calls (a b r1 r2 : Int) (w : World) (h : dec_Sub.f a b = some (r1, r2)) :
    Calls Tryd.prog 22 #[.int .i64 a, .int .i64 b] w fun e w' => e = .returned (.tuple #[.int .i64 r1, .int .i64 r2]) ∧ Below w.heap.size w w' := by
  have := sub_calls a b w
  rw [Option.some.inj h] at this; exact this
def dec_Mul.f (a b : Int) : Option (Int × Int) := if in64 a ∧ in64 b then some (mulV a b) else none
theorem dec_Mul.calls (a b r1 r2 : Int) (w : World) (h : dec_Mul.f a b = some (r1, r2)) :
    Calls Tryd.prog 17 #[.int .i64 a, .int .i64 b] w fun e w' => e = .returned (.tuple #[.int .i64 r1, .int .i64 r2]) ∧ Below w.heap.size w w' := by
  unfold dec_Mul.f at h
  by_cases hs : in64 a ∧ in64 b
  · rw [if_pos hs] at h
    have := mul_calls a b w hs.1.1 hs.1.2 hs.2.1 hs.2.2
    rw [Option.some.inj h] at this; exact this
  · rw [if_neg hs] at h; cases h
def dec_Div.f (a b : Int) : Option (Int × Int) := if in64 a ∧ in64 b then some (divV a b) else none
theorem dec_Div.calls (a b r1 r2 : Int) (w : World) (h : dec_Div.f a b = some (r1, r2)) :
    Calls Tryd.prog 18 #[.int .i64 a, .int .i64 b] w fun e w' => e = .returned (.tuple #[.int .i64 r1, .int .i64 r2]) ∧ Below w.heap.size w w' := by
  unfold dec_Div.f at h
  by_cases hs : in64 a ∧ in64 b
  · rw [if_pos hs] at h
    have := div_calls a b w hs.1.1 hs.1.2 hs.2.1 hs.2.2
    rw [Option.some.inj h] at this; exact this
  · rw [if_neg hs] at h; cases h
def dec_Whole.f (a : Int) : Option (Int × Int) := if in64 a then some (wholeV a) else none
theorem dec_Whole.calls (a r1 r2 : Int) (w : World) (h : dec_Whole.f a = some (r1, r2)) :
    Calls Tryd.prog 20 #[.int .i64 a] w fun e w' => e = .returned (.tuple #[.int .i64 r1, .int .i64 r2]) ∧ Below w.heap.size w w' := by
  unfold dec_Whole.f at h
  by_cases hs : in64 a
  · rw [if_pos hs] at h
    have := whole_calls a w hs.1 hs.2
    rw [Option.some.inj h] at this; exact this
  · rw [if_neg hs] at h; cases h
end Go.Proofs.YtgodmbcebpbdiaaDoor.G
end
