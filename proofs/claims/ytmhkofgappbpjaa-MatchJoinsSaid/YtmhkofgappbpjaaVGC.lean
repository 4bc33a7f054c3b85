/- match.ends' inner function as one contract. -/
import Derived.Test.YtmhkofgappbpjaaVGB
set_option linter.unusedVariables false
set_option linter.unusedSimpArgs false
namespace Go.Proofs.Ytmhkofgappbpjaa.G
open Go.RowKit Go.Proofs.YtmhkofgappbpjaaW.PrintWords Go.Proofs.YtmhkofgappbpjaaW.PrintLast Go.Proofs.YtmhkofgappbpjaaW.PrintMore Go.Proofs.Ytmhkofgappbpjaa.QA
/-- A place that is come to: seen once, it waits. -/
def reachP (n m : Nat) (sw : List Bool × List S72) (node : Int) (ended : Bool) (at_ : Int) : Option (List Bool × List S72) :=
  if 0 ≤ node ∧ node < n ∧ 0 ≤ at_ ∧ at_ < m ∧ sw.1.length = 2 * (n * m) ∧ n * m ≤ 1000000 ∧ sw.2.length ≤ 1000000 then
    if sw.1.getD (node.toNat * m + (if ended = true then n * m else 0) + at_.toNat) false = true then some sw
    else some (sw.1.set (node.toNat * m + (if ended = true then n * m else 0) + at_.toNat) true, sw.2 ++ [⟨node, ended, at_⟩])
  else none
theorem Mov.refl (W : World) (rs bw : Nat) (own : Option Nat) : Mov W W rs bw own := ⟨rfl, rfl, rfl, Nat.le_refl _, fun _ _ _ _ _ => rfl⟩
/-- The facts that stay all along. -/
structure Apart (bt bo bs bw ro rs base : Nat) : Prop where
  hb : bt < base ∧ bo < base ∧ bs < base ∧ bw < base ∧ ro < base ∧ rs < base
  hd : bt ≠ bw ∧ bo ≠ bw ∧ bs ≠ bw ∧ bt ≠ rs ∧ bo ≠ rs ∧ bs ≠ rs ∧ bw ≠ rs ∧ ro ≠ rs ∧ ro ≠ bw
theorem idx_lt {n m j a : Nat} (h1 : j < n) (h2 : a < m) : j * m + a < n * m := by
  have : (j + 1) * m ≤ n * m := Nat.mul_le_mul_right m h1
  rw [Nat.add_mul, Nat.one_mul] at this
  omega
theorem wrap_nat (x : Nat) (h : x ≤ 100000000) : wrap64 ((x : Nat) : Int) = (x : Int) := by unfold wrap64; omega
theorem reach_calls (node at_ : Int) (ended : Bool) (n m : Nat) (bt bo bs bw ro rs base : Nat) (A0 : Option Addr) (c0 : Nat) (out seen seen' : List Bool) (vw : Value) (wait wait' : List S72) (W : World)
    (hE : EW W bt bo bs bw ro rs n m base A0 c0 out seen vw wait) (hA : Apart bt bo bs bw ro rs base) (hbase : base ≤ W.heap.size) (h : reachP n m (seen, wait) node ended at_ = some (seen', wait')) :
    Calls Try.prog 37 #[.int .i64 node, .bool ended, .int .i64 at_, .pointer (some ⟨bo, 0, none⟩), .pointer (some ⟨bt, 0, none⟩), .pointer (some ⟨bs, 0, none⟩), .pointer (some ⟨bw, 0, none⟩)] W fun e W' => e = .returned (.tuple #[]) ∧
      ∃ vw', EW W' bt bo bs bw ro rs n m base A0 c0 out seen' vw' wait' ∧ Mov W W' rs bw vw.ownBlock ∧ (vw'.ownBlock = vw.ownBlock ∨ ∃ g, vw'.ownBlock = some g ∧ W.heap.size ≤ g) := by
  unfold reachP at h
  by_cases hg : 0 ≤ node ∧ node < n ∧ 0 ≤ at_ ∧ at_ < m ∧ (seen, wait).1.length = 2 * (n * m) ∧ n * m ≤ 1000000 ∧ (seen, wait).2.length ≤ 1000000
  · rw [if_pos hg] at h
    obtain ⟨g1, g2, g3, g4, g5, g6, g7⟩ := hg
    dsimp only at g5 g7 h
    obtain ⟨j, rfl⟩ := Int.eq_ofNat_of_zero_le g1
    obtain ⟨a, rfl⟩ := Int.eq_ofNat_of_zero_le g3
    rw [Int.toNat_natCast, Int.toNat_natCast] at h
    have hlt := idx_lt (n := n) (m := m) (j := j) (a := a) (by omega) (by omega)
    have i1 : j * m + n * m + a < seen.length := Nat.lt_of_lt_of_eq (by omega) g5.symm
    have i2 : j * m + a < seen.length := Nat.lt_of_lt_of_eq (by omega) g5.symm
    have i3 : seen.length ≤ 4000000 := Nat.le_trans (Nat.le_of_eq g5) (by omega)
    have i4 : j * m ≤ 100000000 := by omega
    have i5 : n * m ≤ 100000000 := by omega
    have hp : wrap64 ((j : Int) * (m : Int)) = ((j * m : Nat) : Int) := by rw [← Int.natCast_mul]; exact wrap_nat _ i4
    have hq : wrap64 ((n : Int) * (m : Int)) = ((n * m : Nat) : Int) := by rw [← Int.natCast_mul]; exact wrap_nat _ i5
    generalize hpp : j * m = p at *
    generalize hqq : n * m = q at *
    cases ended with
    | true =>
      rw [if_pos rfl] at h
      by_cases hs : seen.getD (p + q + a) false = true
      · rw [if_pos hs] at h
        have h := Option.some.inj h
        obtain ⟨rfl, rfl⟩ : seen = seen' ∧ wait = wait' := ⟨congrArg (·.1) h, congrArg (·.2) h⟩
        refine (reach_old_t _ a p q n m bt bo bs bw ro rs base A0 c0 out seen vw wait W hE hp hq i1 i3 hs).mono ?_
        rintro e W' ⟨rfl, rfl⟩
        exact ⟨rfl, vw, hE, Mov.refl _ _ _ _, .inl rfl⟩
      · rw [if_neg hs] at h
        have h := Option.some.inj h
        obtain ⟨rfl, rfl⟩ : seen.set (p + q + a) true = seen' ∧ wait ++ [⟨(j : Int), true, (a : Int)⟩] = wait' := ⟨congrArg (·.1) h, congrArg (·.2) h⟩
        refine (reach_new_t _ a p q n m bt bo bs bw ro rs base A0 c0 out seen vw wait W hE hA.hb hA.hd hbase g7 hp hq i1 i3 (Bool.eq_false_iff.2 hs)).mono ?_
        rintro e W' ⟨rfl, g, cap, h1, h2, h3⟩
        exact ⟨rfl, _, h1, h2, h3.imp (fun z => by rw [← z]; rfl) (fun z => ⟨g, rfl, z⟩)⟩
    | false =>
      rw [show (if false = true then q else 0) = 0 from rfl, Nat.add_zero] at h
      by_cases hs : seen.getD (p + a) false = true
      · rw [if_pos hs] at h
        have h := Option.some.inj h
        obtain ⟨rfl, rfl⟩ : seen = seen' ∧ wait = wait' := ⟨congrArg (·.1) h, congrArg (·.2) h⟩
        refine (reach_old_f _ a p q n m bt bo bs bw ro rs base A0 c0 out seen vw wait W hE hp i2 i3 hs).mono ?_
        rintro e W' ⟨rfl, rfl⟩
        exact ⟨rfl, vw, hE, Mov.refl _ _ _ _, .inl rfl⟩
      · rw [if_neg hs] at h
        have h := Option.some.inj h
        obtain ⟨rfl, rfl⟩ : seen.set (p + a) true = seen' ∧ wait ++ [⟨(j : Int), false, (a : Int)⟩] = wait' := ⟨congrArg (·.1) h, congrArg (·.2) h⟩
        refine (reach_new_f _ a p q n m bt bo bs bw ro rs base A0 c0 out seen vw wait W hE hA.hb hA.hd hbase g7 hp i2 i3 (Bool.eq_false_iff.2 hs)).mono ?_
        rintro e W' ⟨rfl, g, cap, h1, h2, h3⟩
        exact ⟨rfl, _, h1, h2, h3.imp (fun z => by rw [← z]; rfl) (fun z => ⟨g, rfl, z⟩)⟩
  · rw [if_neg hg] at h; cases h
end Go.Proofs.Ytmhkofgappbpjaa.G
