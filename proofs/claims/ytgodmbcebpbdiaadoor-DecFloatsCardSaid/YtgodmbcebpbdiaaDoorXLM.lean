/- The document's rest, walked. -/
import Derived.Test.YtgodmbcebpbdiaaDoorXMm
import Derived.Deep.RegionHeld
set_option linter.unusedVariables false
set_option linter.unusedSimpArgs false
namespace Go.Proofs.YtgodmbcebpbdiaaDoor.R2
open Go.RowKit Go.Proofs.YtgodmbcebpbdiaaDoorW.PrintWords

def HeldD (g1 g2 g3 : Nat) (b : Bool) (X Y Z : List Int) (W w' : World) : Prop := IsI w' g1 b X ∧ IsI w' g2 false Y ∧ IsI w' g3 false Z ∧ Below W.heap.size W w'
theorem HeldD.step {g1 g2 g3 : Nat} {b : Bool} {X Y Z : List Int} {W w1 w2 : World} (h : HeldD g1 g2 g3 b X Y Z W w1) (hb : Below w1.heap.size w1 w2) : HeldD g1 g2 g3 b X Y Z W w2 :=
  ⟨h.1.below hb, h.2.1.below hb, h.2.2.1.below hb, below_then h.2.2.2 h.2.2.2.size hb⟩
section
end
end Go.Proofs.YtgodmbcebpbdiaaDoor.R2
