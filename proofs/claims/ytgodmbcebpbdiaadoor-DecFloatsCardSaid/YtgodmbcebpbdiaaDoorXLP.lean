/- The document's reading of a numeral, walked: a figure at a place; numbers of words that are too great. -/
import Derived.Test.YtgodmbcebpbdiaaDoorXLO
set_option linter.unusedVariables false
set_option linter.unusedSimpArgs false
namespace Go.Proofs.YtgodmbcebpbdiaaDoor.R2
open Go.RowKit Go.Proofs.YtgodmbcebpbdiaaDoorW.PrintWords

/-! ### The ninth word -/
theorem words_append {a b : List Int} (h : Words (a ++ b)) : Words a ∧ Words b := ⟨fun x hx => h x (List.mem_append_left _ hx), fun x hx => h x (List.mem_append_right _ hx)⟩
end Go.Proofs.YtgodmbcebpbdiaaDoor.R2
