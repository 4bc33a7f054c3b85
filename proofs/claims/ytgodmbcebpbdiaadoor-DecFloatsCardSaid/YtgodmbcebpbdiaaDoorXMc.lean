/- Texts of this seat, put together: each part tells above it what it proves and on what conditions. -/
import Derived.Test.YtgodmbcebpbdiaaDoorXMb
import Derived.Test.YtgodmbcebpbdiaaDoorXQ1x
import Derived.Shelf.Spec.BitsCarry
import Derived.Lib.AtoiErrMem
/- dec.Read, walked: no numeral. -/
section
set_option linter.unusedVariables false
set_option linter.unusedSimpArgs false
namespace Go.Proofs.YtgodmbcebpbdiaaDoor.G
open Go.RowKit Go.Proofs.YtgodmbcebpbdiaaDoorW.PrintWords Go.Proofs.YtgodmbcebpbdiaaDoorW.PrintLast Go.Proofs.YtgodmbcebpbdiaaDoorW.PrintMore
set_option maxHeartbeats 4000000 in
set_option maxRecDepth 100000 in
theorem read_form (s : ByteArray) (a b c d : Int) (w : World)
    (hs : ∀ w, Calls Tryd.prog 35 #[.string s] w fun e w' => e = .returned (.tuple #[.int .i64 a, .int .i64 b, .int .i64 c, .int .i64 d]) ∧ Drawn0 w w')
    (h1 : (c == b) = true) (h2 : decide (d ≤ wrap64 (c + 1)) = true) :
    Calls Tryd.prog 13 #[.string s] w fun x w' => x = .returned (.tuple #[.int .i64 0, .int .i64 0, .int .i64 2]) ∧ Below w.heap.size w w' := by
    go_enter_defers Tryd.func13, Tryd.ntmps13
    go_wp2_with fail
    refine (hs _).mono ?_
    rintro e w' ⟨rfl, nd, rfl⟩
    go_wp2_with fail
    refine (wrong_yes _ _).mono ?_
    rintro e w' ⟨rfl, rfl⟩
    refine leaves_cons (f := 34) (args := #[.pointer (some ⟨w.heap.size, 0, none⟩), .pointer (some ⟨w.heap.size + 2, 0, none⟩)]) (by simp) (by simp [go_sem]) ?_
    refine (caught_yes w.heap.size (w.heap.size + 2) 0 0 2 [] _ (by simp [go_sem]) (by simp [go_sem]) (by simp [go_sem]) (by simp [go_sem]) (by omega)).mono ?_
    rintro e u' w'' ⟨rfl, rfl, rfl⟩
    clear hs
    refine leaves_cons (f := 33) (args := #[.pointer (some ⟨w.heap.size + 1 + 1, 0, none⟩), .pointer (some ⟨w.heap.size + 1, 0, none⟩)]) (by simp [settle, fault]) (by simp [go_sem]) ?_
    refine (read1_no (w.heap.size + 1 + 1) (w.heap.size + 1) 2 (.int .i64 0) _ _ rfl (by simp [go_sem]) (by simp [go_sem]) (by simp [go_sem])).mono ?_
    rintro e u' w'' ⟨rfl, rfl, rfl⟩
    have k0 : ((((w.alloc (.cells #[.int .i64 0] 2)).alloc (.cells #[.int .i64 0] 3)).alloc (.cells #[.int .i64 0] 23)).drewN nd).cell? ⟨w.heap.size, 0, none⟩ = some (.int .i64 0) := by simp [go_sem]
    have c0 := World.cell?_setCell_same _ _ (v := .int .i64 0) k0
    simp [Leaves, settle, fault, results, Tryd.results13, go_sem, c0]
    exact below_drew (below_alloc ((((belowN ((((Below.refl _ _).alloc (Nat.le_refl _) _).alloc (by simp) _).alloc (by simp; omega) _) nd).setCell (by simp) _).setCell (by simp) _).setCell (by simp) _) _)
/-- Where Read gives up: its two deferred functions run. -/
theorem read_ends (tmps : Array Value) (p : Nat) (e : Int) (w W : World) (he : (e != 0) = true)
    (t2 : tmps[2]? = some (.pointer (some ⟨p, 0, none⟩))) (t3 : tmps[3]? = some (.pointer (some ⟨p + 1, 0, none⟩))) (t4 : tmps[4]? = some (.pointer (some ⟨p + 1 + 1, 0, none⟩)))
    (k0 : W.cell? ⟨p, 0, none⟩ = some (.int .i64 0)) (k1 : W.cell? ⟨p + 1, 0, none⟩ = some (.int .i64 0)) (k2 : W.cell? ⟨p + 1 + 1, 0, none⟩ = some (.int .i64 0))
    (f0 : W.frozen? ⟨p, 0, none⟩ = false) (f1 : W.frozen? ⟨p + 1, 0, none⟩ = false) (f2 : W.frozen? ⟨p + 1 + 1, 0, none⟩ = false)
    (hp : w.heap.size ≤ p) (hB : Below w.heap.size w W) :
    Leaves Tryd.prog Tryd.f13 tmps (fun x w' => x = .returned (.tuple #[.int .i64 0, .int .i64 0, .int .i64 e]) ∧ Below w.heap.size w w')
      [{ target := .fn (.func 34) #[], args := #[.pointer (some ⟨p, 0, none⟩), .pointer (some ⟨p + 1 + 1, 0, none⟩)] }, { target := .fn (.func 33) #[.pointer (some ⟨p + 1 + 1, 0, none⟩), .pointer (some ⟨p + 1, 0, none⟩)], args := #[] }]
      (.panicking [fault e]) W := by
  have n1 : p + 1 + 1 < W.heap.size := World.block_lt_of_cell? W _ k2
  refine leaves_cons (f := 34) (args := #[.pointer (some ⟨p, 0, none⟩), .pointer (some ⟨p + 1 + 1, 0, none⟩)]) (by simp) (by simp [go_sem]) ?_
  refine (caught_yes p (p + 1 + 1) 0 0 e [] _ k0 k2 f0 f2 (by omega)).mono ?_
  rintro e' u' w'' ⟨rfl, rfl, rfl⟩
  have a0 := World.cell?_setCell_same _ _ (v := .int .i64 0) k0
  have a2 : (W.setCell ⟨p, 0, none⟩ (.int .i64 0)).cell? ⟨p + 1 + 1, 0, none⟩ = some (.int .i64 0) := by rw [World.cell?_setCell_far _ _ _ _ (by simp <;> omega)]; exact k2
  have b2 := World.cell?_setCell_same _ _ (v := .int .i64 e) a2
  have b0 : ((W.setCell ⟨p, 0, none⟩ (.int .i64 0)).setCell ⟨p + 1 + 1, 0, none⟩ (.int .i64 e)).cell? ⟨p, 0, none⟩ = some (.int .i64 0) := by rw [World.cell?_setCell_far _ _ _ _ (by simp <;> omega)]; exact a0
  have b1 : ((W.setCell ⟨p, 0, none⟩ (.int .i64 0)).setCell ⟨p + 1 + 1, 0, none⟩ (.int .i64 e)).cell? ⟨p + 1, 0, none⟩ = some (.int .i64 0) := by rw [World.cell?_setCell_far _ _ _ _ (by simp), World.cell?_setCell_far _ _ _ _ (by simp <;> omega)]; exact k1
  have g1 : ((W.setCell ⟨p, 0, none⟩ (.int .i64 0)).setCell ⟨p + 1 + 1, 0, none⟩ (.int .i64 e)).frozen? ⟨p + 1, 0, none⟩ = false := by simp [go_sem, f1]
  have hB' : Below w.heap.size w ((W.setCell ⟨p, 0, none⟩ (.int .i64 0)).setCell ⟨p + 1 + 1, 0, none⟩ (.int .i64 e)) := (hB.setCell (by simpa using hp) _).setCell (by simp; omega) _
  have n2 : p + 1 + 1 < ((W.setCell ⟨p, 0, none⟩ (.int .i64 0)).setCell ⟨p + 1 + 1, 0, none⟩ (.int .i64 e)).heap.size := World.block_lt_of_cell? _ _ b2
  generalize (W.setCell ⟨p, 0, none⟩ (.int .i64 0)).setCell ⟨p + 1 + 1, 0, none⟩ (.int .i64 e) = V at b0 b1 b2 g1 hB' n2 ⊢
  have d0 : ((V.alloc (.cells #[.int .i64 e] 74)).drew).cell? ⟨p, 0, none⟩ = some (.int .i64 0) := by rw [← b0]; exact World.cell?_alloc_lt _ _ _ (by simp; omega)
  have d1 : ((V.alloc (.cells #[.int .i64 e] 74)).drew).cell? ⟨p + 1, 0, none⟩ = some (.int .i64 0) := by rw [← b1]; exact World.cell?_alloc_lt _ _ _ (by simp; omega)
  have d2 : ((V.alloc (.cells #[.int .i64 e] 74)).drew).cell? ⟨p + 1 + 1, 0, none⟩ = some (.int .i64 e) := by rw [← b2]; exact World.cell?_alloc_lt _ _ _ (by simp; omega)
  have q1 : ((V.alloc (.cells #[.int .i64 e] 74)).drew).frozen? ⟨p + 1, 0, none⟩ = false := by rw [← g1]; exact (below_drew ((Below.refl V.heap.size V).alloc (Nat.le_refl _) _)).frozen (p := ⟨p + 1, 0, none⟩) (by simp; omega)
  have hB'' := below_drew (below_alloc hB' (.cells #[.int .i64 e] 74))
  generalize (V.alloc (.cells #[.int .i64 e] 74)).drew = U at d0 d1 d2 q1 hB'' ⊢
  refine leaves_cons (f := 33) (args := #[.pointer (some ⟨p + 1 + 1, 0, none⟩), .pointer (some ⟨p + 1, 0, none⟩)]) (by simp [settle, fault]) (by simp [go_sem]) ?_
  refine (read1_no (p + 1 + 1) (p + 1) e (.int .i64 0) _ _ he d2 d1 q1).mono ?_
  rintro e' u' w'' ⟨rfl, rfl, rfl⟩
  have c1 := World.cell?_setCell_same _ _ (v := .int .i64 0) d1
  have c0 : (U.setCell ⟨p + 1, 0, none⟩ (.int .i64 0)).cell? ⟨p, 0, none⟩ = some (.int .i64 0) := by rw [World.cell?_setCell_far _ _ _ _ (by simp <;> omega)]; exact d0
  have c2 : (U.setCell ⟨p + 1, 0, none⟩ (.int .i64 0)).cell? ⟨p + 1 + 1, 0, none⟩ = some (.int .i64 e) := by rw [World.cell?_setCell_far _ _ _ _ (by simp <;> omega)]; exact d2
  have hBz := hB''.setCell (p := ⟨p + 1, 0, none⟩) (by simp; omega) (.int .i64 0)
  generalize U.setCell ⟨p + 1, 0, none⟩ (.int .i64 0) = Z at c0 c1 c2 hBz ⊢
  simp [Leaves, settle, fault, results, Tryd.results13, go_sem, t2, t3, t4, c0, c1, c2]
  exact hBz
end Go.Proofs.YtgodmbcebpbdiaaDoor.G
end

/- dec.Read, walked: where it returns. -/
section
set_option linter.unusedVariables false
set_option linter.unusedSimpArgs false
namespace Go.Proofs.YtgodmbcebpbdiaaDoor.G
open Go.RowKit Go.Proofs.YtgodmbcebpbdiaaDoorW.PrintWords Go.Proofs.YtgodmbcebpbdiaaDoorW.PrintLast Go.Proofs.YtgodmbcebpbdiaaDoorW.PrintMore
/-- Where Read returns: its two deferred functions run. -/
theorem read_leaves (tmps : Array Value) (p : Nat) (v d : Int) (w W : World)
    (t2 : tmps[2]? = some (.pointer (some ⟨p, 0, none⟩))) (t3 : tmps[3]? = some (.pointer (some ⟨p + 1, 0, none⟩))) (t4 : tmps[4]? = some (.pointer (some ⟨p + 1 + 1, 0, none⟩)))
    (k0 : W.cell? ⟨p, 0, none⟩ = some (.int .i64 v)) (k1 : W.cell? ⟨p + 1, 0, none⟩ = some (.int .i64 d)) (k2 : W.cell? ⟨p + 1 + 1, 0, none⟩ = some (.int .i64 0))
    (hB : Below w.heap.size w W) :
    Leaves Tryd.prog Tryd.f13 tmps (fun x w' => x = .returned (.tuple #[.int .i64 v, .int .i64 d, .int .i64 0]) ∧ Below w.heap.size w w')
      [{ target := .fn (.func 34) #[], args := #[.pointer (some ⟨p, 0, none⟩), .pointer (some ⟨p + 1 + 1, 0, none⟩)] }, { target := .fn (.func 33) #[.pointer (some ⟨p + 1 + 1, 0, none⟩), .pointer (some ⟨p + 1, 0, none⟩)], args := #[] }]
      .returning W := by
  refine leaves_cons (f := 34) (args := #[.pointer (some ⟨p, 0, none⟩), .pointer (some ⟨p + 1 + 1, 0, none⟩)]) (by simp) (by simp [go_sem]) ?_
  refine (caught_no p (p + 1 + 1) _).mono ?_
  rintro e' u' w'' ⟨rfl, rfl, rfl⟩
  refine leaves_cons (f := 33) (args := #[.pointer (some ⟨p + 1 + 1, 0, none⟩), .pointer (some ⟨p + 1, 0, none⟩)]) (by simp [settle]) (by simp [go_sem]) ?_
  refine (read1_ok (p + 1 + 1) (p + 1) _ _ k2).mono ?_
  rintro e' u' w'' ⟨rfl, rfl, rfl⟩
  simp [Leaves, settle, results, Tryd.results13, go_sem, t2, t3, t4, k0, k1, k2]
  exact hB
end Go.Proofs.YtgodmbcebpbdiaaDoor.G
end

/- math/bits.Add64. -/
section
set_option linter.unusedVariables false
set_option linter.unusedSimpArgs false
namespace Go.Proofs.YtgodmbcebpbdiaaDoor.G
open Go.RowKit Go.Proofs.YtgodmbcebpbdiaaDoorW.PrintWords Go.Proofs.YtgodmbcebpbdiaaDoorW.PrintLast
theorem run_add (x y c : Nat) (hc : c ≤ 1) (w : World) :
    (callFunc 38 #[.int .u64 x, .int .u64 y, .int .u64 c]).run Tryd.prog w =
      .ok (.value (.tuple #[.int .u64 (((x + y + c) % 18446744073709551616 : Nat) : Int), .int .u64 (((x + y + c) / 18446744073709551616 : Nat) : Int)])) w := by
  rw [run_callFunc_extern Tryd.func38 (by kernel_rfl) (by kernel_rfl) (by kernel_rfl) (e := add64Entry) (by kernel_rfl), run_add64 x y c (by omega) (by omega) (by omega) (by omega)]
  simp only [Result.andThen]
  congr 5 <;> omega
end Go.Proofs.YtgodmbcebpbdiaaDoor.G
end

/- dec.Read, walked: where a point with figures follows. -/
section
set_option linter.unusedVariables false
set_option linter.unusedSimpArgs false
namespace Go.Proofs.YtgodmbcebpbdiaaDoor.G
open Go.RowKit Go.Proofs.YtgodmbcebpbdiaaDoorW.PrintWords Go.Proofs.YtgodmbcebpbdiaaDoorW.PrintLast Go.Proofs.YtgodmbcebpbdiaaDoorW.PrintMore
/-- The figures of a text as a number; none: it goes too far. -/
def digV (T : ByteArray) : Nat → Nat → Nat → Option Nat
  | 0, _, low => some low
  | n + 1, i, low => if low * 10 + ((T.data.toList.getD i 0).toNat - 48) < 18446744073709551616 then digV T n (i + 1) (low * 10 + ((T.data.toList.getD i 0).toNat - 48)) else none
def resV (R : Option Nat) (sg : Bool) (d : Int) : Int × Int × Int := match R.bind fun q => joinV q sg with | some v => (v, d, 0) | none => (0, 0, 3)
set_option maxHeartbeats 4000000 in
set_option maxRecDepth 100000 in
theorem read_mid (s : ByteArray) (a b c d : Int) (w : World)
    (hs : ∀ w, Calls Tryd.prog 35 #[.string s] w fun e w' => e = .returned (.tuple #[.int .i64 a, .int .i64 b, .int .i64 c, .int .i64 d]) ∧ Drawn0 w w')
    (h1 : (c == b) = false) (h3 : decide (c < d) = true) (b0 : 0 ≤ b) (bc : b ≤ c) (cd : c + 1 ≤ d) (ds : d ≤ s.size) (hsz : s.size ≤ 281474976710656) (hc : wrap64 (c + 1) = c + 1) (T : ByteArray)
    (hdig : ∀ i, i < T.size → 48 ≤ (T.data.toList.getD i 0).toNat ∧ (T.data.toList.getD i 0).toNat ≤ 57)
    (a0 : 0 ≤ a) (a1 : a < s.size) (sg : Bool) (hsg : ∀ h : a.toNat < s.size, (((s[a.toNat]'h).toNat : Int) == 45) = sg)
    (hTz : T.size ≤ 1125899906842624)
    (r1 r2 r3 : Int) (hres : resV (digV T T.size 0 0) sg d = (r1, r2, r3))
    (hT : s.extract b.toNat c.toNat ++ (s.extract (c + 1).toNat d.toNat ++ ⟨#[48, 48, 48, 48, 48, 48]⟩).extract 0 6 = T) :
    Calls Tryd.prog 13 #[.string s] w fun x w' => x = .returned (.tuple #[.int .i64 r1, .int .i64 r2, .int .i64 r3]) ∧ Below w.heap.size w w' := by
    have HRES := Lib.hid hres; clear hres
    have HSG := Lib.hid hsg; clear hsg
    have hcv := fun W : World => Lib.run_convert_string_bytes (P := Tryd.prog) W 9 31 5 T Tryd.underlying9 Tryd.underlying31 Tryd.underlying5
    go_enter_defers Tryd.func13, Tryd.ntmps13
    go_wp2_with fail
    refine (hs _).mono ?_
    rintro e w' ⟨rfl, nd, rfl⟩
    clear hs
    go_wp2_with fail
    refine (wrong_no _ _).mono ?_
    rintro e w' ⟨rfl, rfl⟩
    go_wp2_with fail
    clear hcv
    have HDIG := Lib.hid hdig; clear hdig
    go_loopg [10, 53] T.size (fun kq v0 v1 w' => ∃ (low i : Nat), v0 = .int .u64 low ∧ v1 = .int .i64 i ∧ Aside0 (kq + i = T.size ∧ low < 18446744073709551616 ∧ digV T kq i low = digV T T.size 0 0) ∧ w' = Lib.bytesWorld ((((w.alloc (.cells #[.int .i64 0] 2)).alloc (.cells #[.int .i64 0] 3)).alloc (.cells #[.int .i64 0] 23)).drewN nd) 5 T)
    case atStart => exact ⟨0, 0, rfl, rfl, ⟨⟨by omega, by omega, rfl⟩⟩, rfl⟩
    case round =>
      obtain ⟨low, i, rfl, rfl, HA, rfl⟩ := hrel
      cases gk with
      | zero =>
        have hi2 : decide ((i : Int) < (T.size : Int)) = false := decide_eq_false (by have := HA.out; omega)
        have hi3 : decide (i < T.size) = false := decide_eq_false (by have := HA.out; omega)
        go_wp2_with fail
        rw [HSG.out]
        have hR : digV T T.size 0 0 = some low := by rw [← HA.out.2.2, digV]
        have hr := HRES.out
        rw [hR] at hr
        simp only [resV, Option.bind_some] at hr
        have B := Lib.hid (Lib.bytesWorld_below ((((w.alloc (.cells #[.int .i64 0] 2)).alloc (.cells #[.int .i64 0] 3)).alloc (.cells #[.int .i64 0] 23)).drewN nd) 5 T)
        have hz : ((((w.alloc (.cells #[.int .i64 0] 2)).alloc (.cells #[.int .i64 0] 3)).alloc (.cells #[.int .i64 0] 23)).drewN nd).heap.size = w.heap.size + 1 + 1 + 1 := by simp
        have k0 : (Lib.bytesWorld ((((w.alloc (.cells #[.int .i64 0] 2)).alloc (.cells #[.int .i64 0] 3)).alloc (.cells #[.int .i64 0] 23)).drewN nd) 5 T).cell? ⟨w.heap.size, 0, none⟩ = some (.int .i64 0) := by
          rw [B.out.cell (p := ⟨w.heap.size, 0, none⟩) (by rw [hz]; simp <;> omega)]; simp [go_sem]
        have k1 : (Lib.bytesWorld ((((w.alloc (.cells #[.int .i64 0] 2)).alloc (.cells #[.int .i64 0] 3)).alloc (.cells #[.int .i64 0] 23)).drewN nd) 5 T).cell? ⟨w.heap.size + 1, 0, none⟩ = some (.int .i64 0) := by
          rw [B.out.cell (p := ⟨w.heap.size + 1, 0, none⟩) (by rw [hz]; simp <;> omega)]; simp [go_sem]
        have k2 : (Lib.bytesWorld ((((w.alloc (.cells #[.int .i64 0] 2)).alloc (.cells #[.int .i64 0] 3)).alloc (.cells #[.int .i64 0] 23)).drewN nd) 5 T).cell? ⟨w.heap.size + 1 + 1, 0, none⟩ = some (.int .i64 0) := by
          rw [B.out.cell (p := ⟨w.heap.size + 1 + 1, 0, none⟩) (by rw [hz]; simp <;> omega)]; simp [go_sem]
        have f0 : (Lib.bytesWorld ((((w.alloc (.cells #[.int .i64 0] 2)).alloc (.cells #[.int .i64 0] 3)).alloc (.cells #[.int .i64 0] 23)).drewN nd) 5 T).frozen? ⟨w.heap.size, 0, none⟩ = false := by
          rw [B.out.frozen (p := ⟨w.heap.size, 0, none⟩) (by rw [hz]; simp <;> omega)]; simp [go_sem]
        have f1 : (Lib.bytesWorld ((((w.alloc (.cells #[.int .i64 0] 2)).alloc (.cells #[.int .i64 0] 3)).alloc (.cells #[.int .i64 0] 23)).drewN nd) 5 T).frozen? ⟨w.heap.size + 1, 0, none⟩ = false := by
          rw [B.out.frozen (p := ⟨w.heap.size + 1, 0, none⟩) (by rw [hz]; simp <;> omega)]; simp [go_sem]
        have f2 : (Lib.bytesWorld ((((w.alloc (.cells #[.int .i64 0] 2)).alloc (.cells #[.int .i64 0] 3)).alloc (.cells #[.int .i64 0] 23)).drewN nd) 5 T).frozen? ⟨w.heap.size + 1 + 1, 0, none⟩ = false := by
          rw [B.out.frozen (p := ⟨w.heap.size + 1 + 1, 0, none⟩) (by rw [hz]; simp <;> omega)]; simp [go_sem]
        have hB : Below w.heap.size w (Lib.bytesWorld ((((w.alloc (.cells #[.int .i64 0] 2)).alloc (.cells #[.int .i64 0] 3)).alloc (.cells #[.int .i64 0] 23)).drewN nd) 5 T) :=
          below_then (belowN ((((Below.refl _ _).alloc (Nat.le_refl _) _).alloc (by simp) _).alloc (by simp; omega) _) nd) (by rw [hz]; omega) B.out
        generalize Lib.bytesWorld ((((w.alloc (.cells #[.int .i64 0] 2)).alloc (.cells #[.int .i64 0] 3)).alloc (.cells #[.int .i64 0] 23)).drewN nd) 5 T = W at k0 k1 k2 f0 f1 f2 hB ⊢
        cases hj : joinV low sg with
        | none =>
          rw [hj] at hr
          obtain ⟨rfl, rfl, rfl⟩ : 0 = r1 ∧ 0 = r2 ∧ 3 = r3 := ⟨congrArg (·.1) hr, congrArg (·.2.1) hr, congrArg (·.2.2) hr⟩
          refine (joined_none low sg _ hj).mono ?_
          rintro e w' ⟨rfl, rfl⟩
          exact read_ends _ w.heap.size 3 w _ rfl rfl rfl rfl k0 k1 k2 f0 f1 f2 (Nat.le_refl _) hB
        | some v =>
          rw [hj] at hr
          obtain ⟨rfl, rfl, rfl⟩ : v = r1 ∧ d = r2 ∧ 0 = r3 := ⟨congrArg (·.1) hr, congrArg (·.2.1) hr, congrArg (·.2.2) hr⟩
          refine (joined_some low sg v _ HA.out.2.1 hj).mono ?_
          rintro e w' ⟨rfl, rfl⟩
          have HB := Lib.hid hB; clear hB
          have HJ := Lib.hid hj; clear hj hr hR
          go_wp2
          have s0 := World.cell?_setCell_same _ _ (v := .int .i64 v) k0
          have s1 : (W.setCell ⟨w.heap.size, 0, none⟩ (.int .i64 v)).cell? ⟨w.heap.size + 1, 0, none⟩ = some (.int .i64 0) := by rw [World.cell?_setCell_far _ _ _ _ (by simp)]; exact k1
          have u1 := World.cell?_setCell_same _ _ (v := .int .i64 d) s1
          have s2 : ((W.setCell ⟨w.heap.size, 0, none⟩ (.int .i64 v)).setCell ⟨w.heap.size + 1, 0, none⟩ (.int .i64 d)).cell? ⟨w.heap.size + 1 + 1, 0, none⟩ = some (.int .i64 0) := by rw [World.cell?_setCell_far _ _ _ _ (by simp <;> omega), World.cell?_setCell_far _ _ _ _ (by simp <;> omega)]; exact k2
          refine read_leaves _ w.heap.size v d w _ rfl rfl rfl ?_ ?_ ?_ ?_
          · rw [World.cell?_setCell_far _ _ _ _ (by simp <;> omega), World.cell?_setCell_far _ _ _ _ (by simp <;> omega)]; exact s0
          · rw [World.cell?_setCell_far _ _ _ _ (by simp <;> omega)]; exact u1
          · exact World.cell?_setCell_same _ _ (v := .int .i64 0) s2
          · exact ((HB.out.setCell (by simp) _).setCell (by simp) _).setCell (by simp <;> omega) _
      | succ k1 =>
        have hcell := Lib.bytesWorld_cell ((((w.alloc (.cells #[.int .i64 0] 2)).alloc (.cells #[.int .i64 0] 3)).alloc (.cells #[.int .i64 0] 23)).drewN nd) 5 T i (by have := HA.out; omega)
        have hi : decide ((i : Int) < (T.size : Int)) = true := decide_eq_true (by have := HA.out; omega)
        have hi2 : decide (i < T.size) = true := decide_eq_true (by have := HA.out; omega)
        have hz : ((((w.alloc (.cells #[.int .i64 0] 2)).alloc (.cells #[.int .i64 0] 3)).alloc (.cells #[.int .i64 0] 23)).drewN nd).heap.size = w.heap.size + 1 + 1 + 1 := by simp
        rw [hz] at hcell
        clear hz
        have HW := Lib.hid (Lib.bytesWorld_below ((((w.alloc (.cells #[.int .i64 0] 2)).alloc (.cells #[.int .i64 0] 3)).alloc (.cells #[.int .i64 0] 23)).drewN nd) 5 T)
        generalize hWg : Lib.bytesWorld ((((w.alloc (.cells #[.int .i64 0] 2)).alloc (.cells #[.int .i64 0] 3)).alloc (.cells #[.int .i64 0] 23)).drewN nd) 5 T = W at hcell HW ⊢
        have HWG := Lib.hid hWg; clear hWg
        have hdi := HDIG.out i (of_decide_eq_true hi2)
        obtain ⟨by_, hby⟩ : ∃ y, (T.data.toList.getD i 0).toNat = y := ⟨_, rfl⟩
        rw [hby] at hcell hdi
        obtain ⟨dg, rfl⟩ : ∃ dg, by_ = dg + 48 := ⟨by_ - 48, by omega⟩
        have hd9 : dg ≤ 9 := by omega
        have hd48 : (((dg + 48 : Nat) : Int) - 48) = (dg : Int) := by omega
        have hadd : ∀ (x : Nat) (W : World), (callFunc 38 #[.int .u64 x, .int .u64 dg, .int .u64 0]).run Tryd.prog W = .ok (.value (.tuple #[.int .u64 (((x + dg + 0) % 18446744073709551616 : Nat) : Int), .int .u64 (((x + dg + 0) / 18446744073709551616 : Nat) : Int)])) W := fun x W => run_add x dg 0 (by decide) W
        clear hdi
        have HDG := Lib.hid hby; clear hby
        have HV := Lib.hid (show digV T (k1 + 1) i low = if low * 10 + dg < 18446744073709551616 then digV T k1 (i + 1) (low * 10 + dg) else none by rw [digV, HDG.out]; simp)
        have hi3 : i < T.size := of_decide_eq_true hi2
        have hm : ∀ W, Calls Tryd.prog 37 #[.int .u64 low, .int .u64 10] W fun e w' => e = .returned (.tuple #[.int .u64 ((low * 10 / 18446744073709551616 : Nat) : Int), .int .u64 ((low * 10 % 18446744073709551616 : Nat) : Int)]) ∧ w' = W := fun W => Tryd.bits_Mul64 low 10 HA.out.2.1 (by decide) W
        have HM := Lib.hid hm
        clear hm
        obtain ⟨mh, hmh⟩ : ∃ y, low * 10 / 18446744073709551616 = y := ⟨_, rfl⟩
        obtain ⟨ml, hml⟩ : ∃ y, low * 10 % 18446744073709551616 = y := ⟨_, rfl⟩
        rw [hmh, hml] at HM
        have HML := Lib.hid (And.intro hmh hml); clear hmh hml
        go_wp2_with fail
        refine (HM.out _).mono ?_
        rintro e w' ⟨rfl, rfl⟩
        go_wp2_with fail
        cases ht : (IntKind.u64.wrap ((mh : Int) + ((ml : Int) + (dg : Int)) / 18446744073709551616) != 0) with
        | true =>
          refine (wrong_yes _ _).mono ?_
          rintro e w' ⟨rfl, rfl⟩
          have hnone : digV T T.size 0 0 = none := by
            rw [← HA.out.2.2, HV.out, if_neg]
            have h1 := HML.out.1
            have h2 := HML.out.2
            intro h3
            have : mh = 0 := by omega
            subst this
            have : low * 10 = ml := by omega
            have e0 : ((0 : Nat) : Int) + ((ml : Int) + (dg : Int)) / 18446744073709551616 = 0 := by omega
            rw [e0] at ht
            exact absurd ht (by decide)
          have hr := HRES.out
          rw [hnone] at hr
          simp only [resV, Option.bind_none] at hr
          obtain ⟨rfl, rfl, rfl⟩ : 0 = r1 ∧ 0 = r2 ∧ 3 = r3 := by
            refine ⟨congrArg (·.1) hr, congrArg (·.2.1) hr, congrArg (·.2.2) hr⟩
          have B := HW.out
          have hz : ((((w.alloc (.cells #[.int .i64 0] 2)).alloc (.cells #[.int .i64 0] 3)).alloc (.cells #[.int .i64 0] 23)).drewN nd).heap.size = w.heap.size + 1 + 1 + 1 := by simp
          refine read_ends _ w.heap.size 3 w w' rfl rfl rfl rfl ?_ ?_ ?_ ?_ ?_ ?_ (Nat.le_refl _) ?_
          · rw [B.cell (p := ⟨w.heap.size, 0, none⟩) (by rw [hz]; simp <;> omega)]; simp [go_sem]
          · rw [B.cell (p := ⟨w.heap.size + 1, 0, none⟩) (by rw [hz]; simp <;> omega)]; simp [go_sem]
          · rw [B.cell (p := ⟨w.heap.size + 1 + 1, 0, none⟩) (by rw [hz]; simp <;> omega)]; simp [go_sem]
          · rw [B.frozen (p := ⟨w.heap.size, 0, none⟩) (by rw [hz]; simp <;> omega)]; simp [go_sem]
          · rw [B.frozen (p := ⟨w.heap.size + 1, 0, none⟩) (by rw [hz]; simp <;> omega)]; simp [go_sem]
          · rw [B.frozen (p := ⟨w.heap.size + 1 + 1, 0, none⟩) (by rw [hz]; simp <;> omega)]; simp [go_sem]
          · exact below_then (belowN ((((Below.refl _ _).alloc (Nat.le_refl _) _).alloc (by simp) _).alloc (by simp; omega) _) nd) (by rw [hz]; omega) B
        | false =>
          refine (wrong_no _ _).mono ?_
          rintro e w' ⟨rfl, rfl⟩
          have HT := Lib.hid ht; clear ht
          go_wp2
          go_roundg k1
          case measure => omega
          case rel =>
            have hlt : low * 10 + dg < 18446744073709551616 ∧ (ml + dg) % 18446744073709551616 = low * 10 + dg := by
              have h1 := HML.out.1
              have h2 := HML.out.2
              have h3 := HT.out
              have h4 := HA.out.2.1
              rw [wmod] at h3
              simp only [bne_eq_false_iff_eq] at h3
              omega
            refine ⟨low * 10 + dg, i + 1, ?_, ?_, ⟨⟨?_, hlt.1, ?_⟩⟩, ?_⟩
            · rw [← hlt.2]; simp
            · simp
            · have := HA.out.1; omega
            · rw [← HA.out.2.2, HV.out, if_pos hlt.1]
            · exact HWG.out.symm
end Go.Proofs.YtgodmbcebpbdiaaDoor.G
end

/- dec.Read, walked: where a point with figures follows. -/
section
set_option linter.unusedVariables false
set_option linter.unusedSimpArgs false
namespace Go.Proofs.YtgodmbcebpbdiaaDoor.G
open Go.RowKit Go.Proofs.YtgodmbcebpbdiaaDoorW.PrintWords Go.Proofs.YtgodmbcebpbdiaaDoorW.PrintLast Go.Proofs.YtgodmbcebpbdiaaDoorW.PrintMore
set_option maxHeartbeats 4000000 in
set_option maxRecDepth 100000 in
theorem read_dot (s : ByteArray) (a b d : Int) (w : World)
    (hs : ∀ w, Calls Tryd.prog 35 #[.string s] w fun e w' => e = .returned (.tuple #[.int .i64 a, .int .i64 b, .int .i64 b, .int .i64 d]) ∧ Drawn0 w w')
    (h2 : decide (d ≤ b + 1) = false) (h3 : decide (b < d) = true) (b0 : 0 ≤ b) (bc : b ≤ b) (cd : b + 1 < d) (ds : d ≤ s.size) (hsz : s.size ≤ 281474976710656) (hc : wrap64 (b + 1) = b + 1) (T : ByteArray)
    (hdig : ∀ i, i < T.size → 48 ≤ (T.data.toList.getD i 0).toNat ∧ (T.data.toList.getD i 0).toNat ≤ 57)
    (a0 : 0 ≤ a) (a1 : a < s.size) (sg : Bool) (hsg : ∀ h : a.toNat < s.size, (((s[a.toNat]'h).toNat : Int) == 45) = sg)
    (hTz : T.size ≤ 1125899906842624)
    (r1 r2 r3 : Int) (hres : resV (digV T T.size 0 0) sg d = (r1, r2, r3))
    (hT : (s.extract (b + 1).toNat d.toNat ++ ⟨#[48, 48, 48, 48, 48, 48]⟩).extract 0 6 = T) :
    Calls Tryd.prog 13 #[.string s] w fun x w' => x = .returned (.tuple #[.int .i64 r1, .int .i64 r2, .int .i64 r3]) ∧ Below w.heap.size w w' := by
    have HRES := Lib.hid hres; clear hres
    have HSG := Lib.hid hsg; clear hsg
    have hcv := fun W : World => Lib.run_convert_string_bytes (P := Tryd.prog) W 9 31 5 T Tryd.underlying9 Tryd.underlying31 Tryd.underlying5
    go_enter_defers Tryd.func13, Tryd.ntmps13
    go_wp2_with fail
    refine (hs _).mono ?_
    rintro e w' ⟨rfl, nd, rfl⟩
    clear hs
    go_wp2_with fail
    refine (wrong_no _ _).mono ?_
    rintro e w' ⟨rfl, rfl⟩
    go_wp2_with fail
    clear hcv
    have HDIG := Lib.hid hdig; clear hdig
    go_loopg [10, 53] T.size (fun kq v0 v1 w' => ∃ (low i : Nat), v0 = .int .u64 low ∧ v1 = .int .i64 i ∧ Aside0 (kq + i = T.size ∧ low < 18446744073709551616 ∧ digV T kq i low = digV T T.size 0 0) ∧ w' = Lib.bytesWorld ((((w.alloc (.cells #[.int .i64 0] 2)).alloc (.cells #[.int .i64 0] 3)).alloc (.cells #[.int .i64 0] 23)).drewN nd) 5 T)
    case atStart => exact ⟨0, 0, rfl, rfl, ⟨⟨by omega, by omega, rfl⟩⟩, rfl⟩
    case round =>
      obtain ⟨low, i, rfl, rfl, HA, rfl⟩ := hrel
      cases gk with
      | zero =>
        have hi2 : decide ((i : Int) < (T.size : Int)) = false := decide_eq_false (by have := HA.out; omega)
        have hi3 : decide (i < T.size) = false := decide_eq_false (by have := HA.out; omega)
        go_wp2_with fail
        rw [HSG.out]
        have hR : digV T T.size 0 0 = some low := by rw [← HA.out.2.2, digV]
        have hr := HRES.out
        rw [hR] at hr
        simp only [resV, Option.bind_some] at hr
        have B := Lib.hid (Lib.bytesWorld_below ((((w.alloc (.cells #[.int .i64 0] 2)).alloc (.cells #[.int .i64 0] 3)).alloc (.cells #[.int .i64 0] 23)).drewN nd) 5 T)
        have hz : ((((w.alloc (.cells #[.int .i64 0] 2)).alloc (.cells #[.int .i64 0] 3)).alloc (.cells #[.int .i64 0] 23)).drewN nd).heap.size = w.heap.size + 1 + 1 + 1 := by simp
        have k0 : (Lib.bytesWorld ((((w.alloc (.cells #[.int .i64 0] 2)).alloc (.cells #[.int .i64 0] 3)).alloc (.cells #[.int .i64 0] 23)).drewN nd) 5 T).cell? ⟨w.heap.size, 0, none⟩ = some (.int .i64 0) := by
          rw [B.out.cell (p := ⟨w.heap.size, 0, none⟩) (by rw [hz]; simp <;> omega)]; simp [go_sem]
        have k1 : (Lib.bytesWorld ((((w.alloc (.cells #[.int .i64 0] 2)).alloc (.cells #[.int .i64 0] 3)).alloc (.cells #[.int .i64 0] 23)).drewN nd) 5 T).cell? ⟨w.heap.size + 1, 0, none⟩ = some (.int .i64 0) := by
          rw [B.out.cell (p := ⟨w.heap.size + 1, 0, none⟩) (by rw [hz]; simp <;> omega)]; simp [go_sem]
        have k2 : (Lib.bytesWorld ((((w.alloc (.cells #[.int .i64 0] 2)).alloc (.cells #[.int .i64 0] 3)).alloc (.cells #[.int .i64 0] 23)).drewN nd) 5 T).cell? ⟨w.heap.size + 1 + 1, 0, none⟩ = some (.int .i64 0) := by
          rw [B.out.cell (p := ⟨w.heap.size + 1 + 1, 0, none⟩) (by rw [hz]; simp <;> omega)]; simp [go_sem]
        have f0 : (Lib.bytesWorld ((((w.alloc (.cells #[.int .i64 0] 2)).alloc (.cells #[.int .i64 0] 3)).alloc (.cells #[.int .i64 0] 23)).drewN nd) 5 T).frozen? ⟨w.heap.size, 0, none⟩ = false := by
          rw [B.out.frozen (p := ⟨w.heap.size, 0, none⟩) (by rw [hz]; simp <;> omega)]; simp [go_sem]
        have f1 : (Lib.bytesWorld ((((w.alloc (.cells #[.int .i64 0] 2)).alloc (.cells #[.int .i64 0] 3)).alloc (.cells #[.int .i64 0] 23)).drewN nd) 5 T).frozen? ⟨w.heap.size + 1, 0, none⟩ = false := by
          rw [B.out.frozen (p := ⟨w.heap.size + 1, 0, none⟩) (by rw [hz]; simp <;> omega)]; simp [go_sem]
        have f2 : (Lib.bytesWorld ((((w.alloc (.cells #[.int .i64 0] 2)).alloc (.cells #[.int .i64 0] 3)).alloc (.cells #[.int .i64 0] 23)).drewN nd) 5 T).frozen? ⟨w.heap.size + 1 + 1, 0, none⟩ = false := by
          rw [B.out.frozen (p := ⟨w.heap.size + 1 + 1, 0, none⟩) (by rw [hz]; simp <;> omega)]; simp [go_sem]
        have hB : Below w.heap.size w (Lib.bytesWorld ((((w.alloc (.cells #[.int .i64 0] 2)).alloc (.cells #[.int .i64 0] 3)).alloc (.cells #[.int .i64 0] 23)).drewN nd) 5 T) :=
          below_then (belowN ((((Below.refl _ _).alloc (Nat.le_refl _) _).alloc (by simp) _).alloc (by simp; omega) _) nd) (by rw [hz]; omega) B.out
        generalize Lib.bytesWorld ((((w.alloc (.cells #[.int .i64 0] 2)).alloc (.cells #[.int .i64 0] 3)).alloc (.cells #[.int .i64 0] 23)).drewN nd) 5 T = W at k0 k1 k2 f0 f1 f2 hB ⊢
        cases hj : joinV low sg with
        | none =>
          rw [hj] at hr
          obtain ⟨rfl, rfl, rfl⟩ : 0 = r1 ∧ 0 = r2 ∧ 3 = r3 := ⟨congrArg (·.1) hr, congrArg (·.2.1) hr, congrArg (·.2.2) hr⟩
          refine (joined_none low sg _ hj).mono ?_
          rintro e w' ⟨rfl, rfl⟩
          exact read_ends _ w.heap.size 3 w _ rfl rfl rfl rfl k0 k1 k2 f0 f1 f2 (Nat.le_refl _) hB
        | some v =>
          rw [hj] at hr
          obtain ⟨rfl, rfl, rfl⟩ : v = r1 ∧ d = r2 ∧ 0 = r3 := ⟨congrArg (·.1) hr, congrArg (·.2.1) hr, congrArg (·.2.2) hr⟩
          refine (joined_some low sg v _ HA.out.2.1 hj).mono ?_
          rintro e w' ⟨rfl, rfl⟩
          have HB := Lib.hid hB; clear hB
          have HJ := Lib.hid hj; clear hj hr hR
          go_wp2
          have s0 := World.cell?_setCell_same _ _ (v := .int .i64 v) k0
          have s1 : (W.setCell ⟨w.heap.size, 0, none⟩ (.int .i64 v)).cell? ⟨w.heap.size + 1, 0, none⟩ = some (.int .i64 0) := by rw [World.cell?_setCell_far _ _ _ _ (by simp)]; exact k1
          have u1 := World.cell?_setCell_same _ _ (v := .int .i64 d) s1
          have s2 : ((W.setCell ⟨w.heap.size, 0, none⟩ (.int .i64 v)).setCell ⟨w.heap.size + 1, 0, none⟩ (.int .i64 d)).cell? ⟨w.heap.size + 1 + 1, 0, none⟩ = some (.int .i64 0) := by rw [World.cell?_setCell_far _ _ _ _ (by simp <;> omega), World.cell?_setCell_far _ _ _ _ (by simp <;> omega)]; exact k2
          refine read_leaves _ w.heap.size v d w _ rfl rfl rfl ?_ ?_ ?_ ?_
          · rw [World.cell?_setCell_far _ _ _ _ (by simp <;> omega), World.cell?_setCell_far _ _ _ _ (by simp <;> omega)]; exact s0
          · rw [World.cell?_setCell_far _ _ _ _ (by simp <;> omega)]; exact u1
          · exact World.cell?_setCell_same _ _ (v := .int .i64 0) s2
          · exact ((HB.out.setCell (by simp) _).setCell (by simp) _).setCell (by simp <;> omega) _
      | succ k1 =>
        have hcell := Lib.bytesWorld_cell ((((w.alloc (.cells #[.int .i64 0] 2)).alloc (.cells #[.int .i64 0] 3)).alloc (.cells #[.int .i64 0] 23)).drewN nd) 5 T i (by have := HA.out; omega)
        have hi : decide ((i : Int) < (T.size : Int)) = true := decide_eq_true (by have := HA.out; omega)
        have hi2 : decide (i < T.size) = true := decide_eq_true (by have := HA.out; omega)
        have hz : ((((w.alloc (.cells #[.int .i64 0] 2)).alloc (.cells #[.int .i64 0] 3)).alloc (.cells #[.int .i64 0] 23)).drewN nd).heap.size = w.heap.size + 1 + 1 + 1 := by simp
        rw [hz] at hcell
        clear hz
        have HW := Lib.hid (Lib.bytesWorld_below ((((w.alloc (.cells #[.int .i64 0] 2)).alloc (.cells #[.int .i64 0] 3)).alloc (.cells #[.int .i64 0] 23)).drewN nd) 5 T)
        generalize hWg : Lib.bytesWorld ((((w.alloc (.cells #[.int .i64 0] 2)).alloc (.cells #[.int .i64 0] 3)).alloc (.cells #[.int .i64 0] 23)).drewN nd) 5 T = W at hcell HW ⊢
        have HWG := Lib.hid hWg; clear hWg
        have hdi := HDIG.out i (of_decide_eq_true hi2)
        obtain ⟨by_, hby⟩ : ∃ y, (T.data.toList.getD i 0).toNat = y := ⟨_, rfl⟩
        rw [hby] at hcell hdi
        obtain ⟨dg, rfl⟩ : ∃ dg, by_ = dg + 48 := ⟨by_ - 48, by omega⟩
        have hd9 : dg ≤ 9 := by omega
        have hd48 : (((dg + 48 : Nat) : Int) - 48) = (dg : Int) := by omega
        have hadd : ∀ (x : Nat) (W : World), (callFunc 38 #[.int .u64 x, .int .u64 dg, .int .u64 0]).run Tryd.prog W = .ok (.value (.tuple #[.int .u64 (((x + dg + 0) % 18446744073709551616 : Nat) : Int), .int .u64 (((x + dg + 0) / 18446744073709551616 : Nat) : Int)])) W := fun x W => run_add x dg 0 (by decide) W
        clear hdi
        have HDG := Lib.hid hby; clear hby
        have HV := Lib.hid (show digV T (k1 + 1) i low = if low * 10 + dg < 18446744073709551616 then digV T k1 (i + 1) (low * 10 + dg) else none by rw [digV, HDG.out]; simp)
        have hi3 : i < T.size := of_decide_eq_true hi2
        have hm : ∀ W, Calls Tryd.prog 37 #[.int .u64 low, .int .u64 10] W fun e w' => e = .returned (.tuple #[.int .u64 ((low * 10 / 18446744073709551616 : Nat) : Int), .int .u64 ((low * 10 % 18446744073709551616 : Nat) : Int)]) ∧ w' = W := fun W => Tryd.bits_Mul64 low 10 HA.out.2.1 (by decide) W
        have HM := Lib.hid hm
        clear hm
        obtain ⟨mh, hmh⟩ : ∃ y, low * 10 / 18446744073709551616 = y := ⟨_, rfl⟩
        obtain ⟨ml, hml⟩ : ∃ y, low * 10 % 18446744073709551616 = y := ⟨_, rfl⟩
        rw [hmh, hml] at HM
        have HML := Lib.hid (And.intro hmh hml); clear hmh hml
        go_wp2_with fail
        refine (HM.out _).mono ?_
        rintro e w' ⟨rfl, rfl⟩
        go_wp2_with fail
        cases ht : (IntKind.u64.wrap ((mh : Int) + ((ml : Int) + (dg : Int)) / 18446744073709551616) != 0) with
        | true =>
          refine (wrong_yes _ _).mono ?_
          rintro e w' ⟨rfl, rfl⟩
          have hnone : digV T T.size 0 0 = none := by
            rw [← HA.out.2.2, HV.out, if_neg]
            have h1 := HML.out.1
            have h2 := HML.out.2
            intro h3
            have : mh = 0 := by omega
            subst this
            have : low * 10 = ml := by omega
            have e0 : ((0 : Nat) : Int) + ((ml : Int) + (dg : Int)) / 18446744073709551616 = 0 := by omega
            rw [e0] at ht
            exact absurd ht (by decide)
          have hr := HRES.out
          rw [hnone] at hr
          simp only [resV, Option.bind_none] at hr
          obtain ⟨rfl, rfl, rfl⟩ : 0 = r1 ∧ 0 = r2 ∧ 3 = r3 := by
            refine ⟨congrArg (·.1) hr, congrArg (·.2.1) hr, congrArg (·.2.2) hr⟩
          have B := HW.out
          have hz : ((((w.alloc (.cells #[.int .i64 0] 2)).alloc (.cells #[.int .i64 0] 3)).alloc (.cells #[.int .i64 0] 23)).drewN nd).heap.size = w.heap.size + 1 + 1 + 1 := by simp
          refine read_ends _ w.heap.size 3 w w' rfl rfl rfl rfl ?_ ?_ ?_ ?_ ?_ ?_ (Nat.le_refl _) ?_
          · rw [B.cell (p := ⟨w.heap.size, 0, none⟩) (by rw [hz]; simp <;> omega)]; simp [go_sem]
          · rw [B.cell (p := ⟨w.heap.size + 1, 0, none⟩) (by rw [hz]; simp <;> omega)]; simp [go_sem]
          · rw [B.cell (p := ⟨w.heap.size + 1 + 1, 0, none⟩) (by rw [hz]; simp <;> omega)]; simp [go_sem]
          · rw [B.frozen (p := ⟨w.heap.size, 0, none⟩) (by rw [hz]; simp <;> omega)]; simp [go_sem]
          · rw [B.frozen (p := ⟨w.heap.size + 1, 0, none⟩) (by rw [hz]; simp <;> omega)]; simp [go_sem]
          · rw [B.frozen (p := ⟨w.heap.size + 1 + 1, 0, none⟩) (by rw [hz]; simp <;> omega)]; simp [go_sem]
          · exact below_then (belowN ((((Below.refl _ _).alloc (Nat.le_refl _) _).alloc (by simp) _).alloc (by simp; omega) _) nd) (by rw [hz]; omega) B
        | false =>
          refine (wrong_no _ _).mono ?_
          rintro e w' ⟨rfl, rfl⟩
          have HT := Lib.hid ht; clear ht
          go_wp2
          go_roundg k1
          case measure => omega
          case rel =>
            have hlt : low * 10 + dg < 18446744073709551616 ∧ (ml + dg) % 18446744073709551616 = low * 10 + dg := by
              have h1 := HML.out.1
              have h2 := HML.out.2
              have h3 := HT.out
              have h4 := HA.out.2.1
              rw [wmod] at h3
              simp only [bne_eq_false_iff_eq] at h3
              omega
            refine ⟨low * 10 + dg, i + 1, ?_, ?_, ⟨⟨?_, hlt.1, ?_⟩⟩, ?_⟩
            · rw [← hlt.2]; simp
            · simp
            · have := HA.out.1; omega
            · rw [← HA.out.2.2, HV.out, if_pos hlt.1]
            · exact HWG.out.symm
end Go.Proofs.YtgodmbcebpbdiaaDoor.G
end
