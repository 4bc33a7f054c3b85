/- Short arrays: an element by a constant index, and two held against each other. -/
import Derived.Test.YthnfmpieoondaaaProg
import Derived.WalkKit
import Derived.KernelRfl
import Derived.RowKit3
import Derived.ChangeKeysEq
import Derived.Laws.StructEq
set_option linter.unusedVariables false
set_option linter.unusedSimpArgs false
namespace Go.Proofs.Ythnfmpieoondaaa.G
open Go.RowKit
section
variable {P : Program} {d : Nat} {xs ys : Array Value} {e : TypeId} {sz j : Nat} {is : List Nat} {a b : Value} {r s : Bool} {w : World}
theorem eqi_cons (ha : (part e xs (j * sz)).run P w = .ok a w) (hb : (part e ys (j * sz)).run P w = .ok b w) (he : (Op.equalIn d e a b).run P w = .ok r w) (hr : (Op.eqItems d e sz xs ys is).run P w = .ok s w) : (Op.eqItems d e sz xs ys (j :: is)).run P w = .ok (r && s) w := by
  simp only [Op.eqItems, Sem.run_bind, ha, hb, he, Result.andThen_ok]
  cases r
  · simp
  · simpa using hr
theorem eqi_last (ha : (part e xs (j * sz)).run P w = .ok a w) (hb : (part e ys (j * sz)).run P w = .ok b w) (he : (Op.equalIn d e a b).run P w = .ok r w) : (Op.eqItems d e sz xs ys [j]).run P w = .ok r w := by
  have h := eqi_cons (is := []) (s := true) ha hb he (by simp [Op.eqItems])
  rwa [Bool.and_true] at h
theorem eqA_arr {t : TypeId} {n : Nat} (hu : P.underlying t = some (.array n e)) (hi : (P.info? e).isSome = true) (hc : P.cellsOf e = 1) (h : (Op.eqItems d e 1 xs ys (List.range n)).run P w = .ok r w) : (Op.equalIn (d + 1) t (.agg xs) (.agg ys)).run P w = .ok r w := by
  obtain ⟨i, hi⟩ := Option.isSome_iff_exists.1 hi
  rw [run_equalIn_array w d xs ys hu hi, hc]
  exact h
end
theorem eqA_53 (d : Nat) (w : World) (x0 y0 : Int) (x1 y1 : Int) (x2 y2 : Int) (x3 y3 : Int) :
    (Op.equalIn (d + 2) 53 (.agg #[.int .u64 x0, .int .u64 x1, .int .u64 x2, .int .u64 x3]) (.agg #[.int .u64 y0, .int .u64 y1, .int .u64 y2, .int .u64 y3])).run Try.prog w = .ok (x0 == y0 && (x1 == y1 && (x2 == y2 && (x3 == y3)))) w := by
  refine eqA_arr Try.underlying53 (by kernel_rfl) (by kernel_rfl) ?_
  show (Op.eqItems (d + 1) 51 1 _ _ [0, 1, 2, 3]).run _ _ = _
  refine eqi_cons (a := .int .u64 x0) (b := .int .u64 y0) (by go_simp) (by go_simp) (by go_simp) ?_
  refine eqi_cons (a := .int .u64 x1) (b := .int .u64 y1) (by go_simp) (by go_simp) (by go_simp) ?_
  refine eqi_cons (a := .int .u64 x2) (b := .int .u64 y2) (by go_simp) (by go_simp) (by go_simp) ?_
  exact eqi_last (a := .int .u64 x3) (b := .int .u64 y3) (by go_simp) (by go_simp) (by go_simp)
theorem eqA_28 (d : Nat) (w : World) (x0 y0 : Int) (x1 y1 : Int) :
    (Op.equalIn (d + 2) 28 (.agg #[.int .i64 x0, .int .i64 x1]) (.agg #[.int .i64 y0, .int .i64 y1])).run Try.prog w = .ok (x0 == y0 && (x1 == y1)) w := by
  refine eqA_arr Try.underlying28 (by kernel_rfl) (by kernel_rfl) ?_
  show (Op.eqItems (d + 1) 3 1 _ _ [0, 1]).run _ _ = _
  refine eqi_cons (a := .int .i64 x0) (b := .int .i64 y0) (by go_simp) (by go_simp) (by go_simp) ?_
  exact eqi_last (a := .int .i64 x1) (b := .int .i64 y1) (by go_simp) (by go_simp) (by go_simp)
theorem ix28_0 (a b : Value) (w : World) : (Instr.index 28 (.agg #[a, b]) (.int .i64 0)).run Try.prog w = .ok a w := by kernel_rfl
theorem ix28_1 (a b : Value) (w : World) : (Instr.index 28 (.agg #[a, b]) (.int .i64 1)).run Try.prog w = .ok b w := by kernel_rfl
theorem ia28_0 (p : Addr) (w : World) : (Instr.indexAt 28 (.pointer (some p)) (.int .i64 0)).run Try.prog w = .ok (.pointer (some p)) w := by kernel_rfl
theorem ia28_1 (b o : Nat) (w : World) : (Instr.indexAt 28 (.pointer (some ⟨b, o, none⟩)) (.int .i64 1)).run Try.prog w = .ok (.pointer (some ⟨b, o + 1, none⟩)) w := by kernel_rfl
end Go.Proofs.Ythnfmpieoondaaa.G
