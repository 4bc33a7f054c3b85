/- The functions of package dec that give up and catch, and hex.Figures, as Lean functions for print. Conditions: the table of figures lies as it is laid (GT). -/
import Derived.Test.YtpdihjedcplmnaaDoorGDecC
import Derived.Test.YtpdihjedcplmnaaDoorShelf
import Derived.WalkSmall
import Derived.Lib.LaidTab
import Derived.Lib.AppendIntMem
set_option linter.unusedVariables false
set_option linter.unusedSimpArgs false
namespace Go.Proofs.YtpdihjedcplmnaaDoor.G
open Go.RowKit Go.Proofs.YtpdihjedcplmnaaDoorW.PrintWords Go.Proofs.YtpdihjedcplmnaaDoorW.PrintLast
theorem var_below {n : String} {cs : Array Value} {w w' : World} (h : w.var? Tryd.prog n = some cs) (hb : Below w.heap.size w w') : w'.var? Tryd.prog n = some cs := by
  unfold World.var? at h ⊢
  cases hg : Tryd.prog.globalNamed n with
  | none => simp [hg] at h
  | some g =>
    simp only [hg, Option.bind_some] at h ⊢
    have hlt : g < w.heap.size := by
      rcases Nat.lt_or_ge g w.heap.size with h' | h'
      · exact h'
      · simp [Array.getElem?_eq_none h'] at h
    rw [hb.block g hlt]
    exact h
/-- The table of the library's that a number's figures are read from lies as it is laid. -/
structure GT (w : World) : Prop where
  tab : Lib.TabIs Tryd.prog w "internal/strconv.uint64pow10" .u64 Lib.pow10Tab
theorem GT.below {w w' : World} (h : GT w) (hb : Below w.heap.size w w') : GT w' := ⟨var_below h.tab hb⟩
set_option maxHeartbeats 1000000 in
theorem figures_calls (n : Int) (h0 : -9223372036854775808 ≤ n) (h1 : n ≤ 9223372036854775807) (w : World) (hG : GT w) :
    Calls Tryd.prog 13 #[.int .i64 n] w fun e w' => e = .returned (.string ⟨(Lib.itoa n).toArray⟩) ∧ Below w.heap.size w w' := by
  have HG := Lib.hid hG.tab
  clear hG
  go_enter Tryd.func13, Tryd.ntmps13
  go_wp2_with (go_at_call 20; refine (Tryd.strconv_FormatInt_10 n h0 h1 _ HG.out).mono ?_; rintro e w' ⟨rfl, k, os, rfl⟩)
  go_ret
  exact ⟨rfl, Lib.below_grow _ _ (Nat.le_refl _) _ _⟩
/-- A number of 64 bits. -/
def in64 (n : Int) : Prop := -9223372036854775808 ≤ n ∧ n ≤ 9223372036854775807
instance (n : Int) : Decidable (in64 n) := by unfold in64; infer_instance
def hex_Figures.f (a0 : Int) : Option ByteArray := if in64 a0 then some ⟨(Lib.itoa a0).toArray⟩ else none
theorem hex_Figures.calls (a0 : Int) (r : ByteArray) (w : World) (hG : GT w) (h : hex_Figures.f a0 = some r) :
    Calls Tryd.prog 13 #[.int .i64 a0] w fun e w' => e = .returned (.string r) ∧ Below w.heap.size w w' := by
  unfold hex_Figures.f at h
  by_cases hs : in64 a0
  · rw [if_pos hs] at h
    obtain rfl := Option.some.inj h
    exact figures_calls a0 hs.1 hs.2 w hG
  · rw [if_neg hs] at h; cases h
end Go.Proofs.YtpdihjedcplmnaaDoor.G
