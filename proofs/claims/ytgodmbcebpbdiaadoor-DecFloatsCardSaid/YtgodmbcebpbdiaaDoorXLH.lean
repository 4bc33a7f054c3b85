/- Products of numbers of words, walked: one round's first half. -/
import Derived.Test.YtgodmbcebpbdiaaDoorXMl
import Derived.Deep.RegionHeld
import Derived.WalkSpells
set_option linter.unusedVariables false
set_option linter.unusedSimpArgs false
namespace Go.Proofs.YtgodmbcebpbdiaaDoor.R2
open Go.RowKit Go.Proofs.YtgodmbcebpbdiaaDoorW.PrintWords

/-- What holds while a product's round is reckoned: both numbers lie as they did, all else is new. -/
def HeldM (g : Nat) (b b2 : Bool) (X Z : List Int) (W w' : World) : Prop := IsI w' g b X ∧ IsI w' (g + 1) b2 Z ∧ Below W.heap.size W w'
theorem HeldM.step {g : Nat} {b b2 : Bool} {X Z : List Int} {W w1 w2 : World} (h : HeldM g b b2 X Z W w1) (hb : Below w1.heap.size w1 w2) : HeldM g b b2 X Z W w2 :=
  ⟨h.1.below hb, h.2.1.below hb, below_then h.2.2 h.2.2.size hb⟩
theorem HeldM.new {g : Nat} {b b2 : Bool} {X Z : List Int} {W w1 : World} (h : HeldM g b b2 X Z W w1) :
    IsI (w1.alloc (.cells (cellsI false (List.replicate 12 0)) 58)) w1.heap.size false (List.replicate 12 0) ∧ W.heap.size ≤ w1.heap.size ∧ HeldM g b b2 X Z W (w1.alloc (.cells (cellsI false (List.replicate 12 0)) 58)) :=
  ⟨IsI.new _ _ _, h.2.2.size, h.1.alloc _, h.2.1.alloc _, below_alloc h.2.2 _⟩
end Go.Proofs.YtgodmbcebpbdiaaDoor.R2
