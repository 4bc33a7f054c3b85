/-
  DERIVED. GIVEN WITH THE SEED: THE CARDS: each row of YtambnodgfhlpfaaDoorRows.lean that lists a variable, with what it lists TIED to the program's text (the seventh form; the later family's looks); each row that meets fmt, with fmt's text TOLD by the authors' own Lean function (tested against real Go, not proved from fmt's source: count such statements apart). THE CARD IS WHAT COUNTS. Prove the row's statement (the work); the ties are given (YtambnodgfhlpfaaDoorTie.lean); close each card by the builder's one call (the guide's Derived/Test/ToyasCard.lean, 'card_holds'). Laid BY PROGRAM, IN A SANDBOX (cutbox-door.mjs). By AI agents, Wed Nov 11 2026. No macro, syntax, notation, axiom, sorry.
-/
import Derived.Test.YtambnodgfhlpfaaDoorRows
import GoSem.ClaimSeven
namespace Go.Proofs.YtambnodgfhlpfaaDoor
namespace Rows

/-- THE TIED CARD OF 'dragomanlaw10.ArithUnset'. -/
def arithUnsetCard : Claim7 := { stood := { row := arithUnsetRow, standIns := [], harness := (true, "8b51244b3e6a359520349cc03ae67f3e650de605f75ba3cee2eccc93a36b2b2b"), looks := true }, kinds := [], alts := [], laidByText := true, laidKinds := [.data, .data, .data, .data, .sentinel, .sentinel, .pinned], laidTests := true, laidLooks := .later }
def ArithUnsetCardSaid : Prop := Claim7.holds Tryd.pinned (.plain (OpenSpec.ofChange arithUnsetSpec)) arithUnsetCard

/-- THE TIED CARD OF 'dragomanlaw10.ArithVars'. -/
def arithVarsCard : Claim7 := { stood := { row := arithVarsRow, standIns := [], harness := (true, "8b51244b3e6a359520349cc03ae67f3e650de605f75ba3cee2eccc93a36b2b2b"), looks := true }, kinds := [], alts := [], laidByText := true, laidKinds := [.data, .data, .data, .data, .sentinel, .sentinel, .pinned], laidTests := true, laidLooks := .later }
def ArithVarsCardSaid : Prop := Claim7.holds Tryd.pinned (.plain (OpenSpec.ofChange arithVarsSpec)) arithVarsCard

/-- THE TIED CARD OF 'dragomanlaw10.ArithEvals'. -/
def arithEvalsCard : Claim7 := { stood := { row := arithEvalsRow, standIns := [], harness := (true, "8b51244b3e6a359520349cc03ae67f3e650de605f75ba3cee2eccc93a36b2b2b"), looks := true }, kinds := [], alts := [], laidByText := true, laidKinds := [.data, .data, .data, .data, .sentinel, .sentinel, .pinned], laidTests := true, laidLooks := .later }
def ArithEvalsCardSaid : Prop := Claim7.holds Tryd.pinned (.plain (OpenSpec.ofChange arithEvalsSpec)) arithEvalsCard

/-- THE TIED CARD OF 'dragomanlaw10.ArithBrackets'. -/
def arithBracketsCard : Claim7 := { stood := { row := arithBracketsRow, standIns := [], harness := (true, "8b51244b3e6a359520349cc03ae67f3e650de605f75ba3cee2eccc93a36b2b2b"), looks := true }, kinds := [], alts := [], laidByText := true, laidKinds := [.data, .data, .data, .data, .sentinel, .sentinel, .pinned], laidTests := true, laidLooks := .later }
def ArithBracketsCardSaid : Prop := Claim7.holds Tryd.pinned (.plain (OpenSpec.ofChange arithBracketsSpec)) arithBracketsCard

/-- THE TIED CARD OF 'dragomanlaw10.ArithFigures'. -/
def arithFiguresCard : Claim7 := { stood := { row := arithFiguresRow, standIns := [], harness := (true, "8b51244b3e6a359520349cc03ae67f3e650de605f75ba3cee2eccc93a36b2b2b"), looks := true }, kinds := [], alts := [], laidByText := true, laidKinds := [.data, .data, .data, .data, .sentinel, .sentinel, .pinned], laidTests := true, laidLooks := .later }
def ArithFiguresCardSaid : Prop := Claim7.holds Tryd.pinned (.plain (OpenSpec.ofChange arithFiguresSpec)) arithFiguresCard

/-- THE TIED CARD OF 'dragomanlaw10.ArithOrders'. -/
def arithOrdersCard : Claim7 := { stood := { row := arithOrdersRow, standIns := [], harness := (true, "8b51244b3e6a359520349cc03ae67f3e650de605f75ba3cee2eccc93a36b2b2b"), looks := true }, kinds := [], alts := [], laidByText := true, laidKinds := [.data, .data, .data, .data, .sentinel, .sentinel, .pinned], laidTests := true, laidLooks := .later }
def ArithOrdersCardSaid : Prop := Claim7.holds Tryd.pinned (.plain (OpenSpec.ofChange arithOrdersSpec)) arithOrdersCard

/-- THE TIED CARD OF 'dragomanlaw10.ArithBools'. -/
def arithBoolsCard : Claim7 := { stood := { row := arithBoolsRow, standIns := [], harness := (true, "8b51244b3e6a359520349cc03ae67f3e650de605f75ba3cee2eccc93a36b2b2b"), looks := true }, kinds := [], alts := [], laidByText := true, laidKinds := [.data, .data, .data, .data, .sentinel, .sentinel, .pinned], laidTests := true, laidLooks := .later }
def ArithBoolsCardSaid : Prop := Claim7.holds Tryd.pinned (.plain (OpenSpec.ofChange arithBoolsSpec)) arithBoolsCard

/-- THE TIED CARD OF 'dragomanlaw10.ArithSets'. -/
def arithSetsCard : Claim7 := { stood := { row := arithSetsRow, standIns := [], harness := (true, "8b51244b3e6a359520349cc03ae67f3e650de605f75ba3cee2eccc93a36b2b2b"), looks := true }, kinds := [], alts := [], laidByText := true, laidKinds := [.data, .data, .data, .data, .sentinel, .sentinel, .pinned], laidTests := true, laidLooks := .later }
def ArithSetsCardSaid : Prop := Claim7.holds Tryd.pinned (.plain (OpenSpec.ofChange arithSetsSpec)) arithSetsCard

/-- THE SECOND FORM's CARD OF 'dragomanlaw10.ArithUnset'. -/
def arithUnsetUptoCard : Claim7 := { stood := { row := arithUnsetUptoRow, standIns := [], harness := (true, "8b51244b3e6a359520349cc03ae67f3e650de605f75ba3cee2eccc93a36b2b2b"), looks := true }, kinds := [], alts := [], laidByText := true, laidKinds := [.data, .data, .data, .data, .sentinel, .sentinel, .pinned], laidTests := true, laidLooks := .later }
def ArithUnsetUptoCardSaid : Prop := Claim7.holds Tryd.pinned (.plain (OpenSpec.upto arithUnsetSpec)) arithUnsetUptoCard

/-- THE SECOND FORM's CARD OF 'dragomanlaw10.ArithVars'. -/
def arithVarsUptoCard : Claim7 := { stood := { row := arithVarsUptoRow, standIns := [], harness := (true, "8b51244b3e6a359520349cc03ae67f3e650de605f75ba3cee2eccc93a36b2b2b"), looks := true }, kinds := [], alts := [], laidByText := true, laidKinds := [.data, .data, .data, .data, .sentinel, .sentinel, .pinned], laidTests := true, laidLooks := .later }
def ArithVarsUptoCardSaid : Prop := Claim7.holds Tryd.pinned (.plain (OpenSpec.upto arithVarsSpec)) arithVarsUptoCard

/-- THE SECOND FORM's CARD OF 'dragomanlaw10.ArithEvals'. -/
def arithEvalsUptoCard : Claim7 := { stood := { row := arithEvalsUptoRow, standIns := [], harness := (true, "8b51244b3e6a359520349cc03ae67f3e650de605f75ba3cee2eccc93a36b2b2b"), looks := true }, kinds := [], alts := [], laidByText := true, laidKinds := [.data, .data, .data, .data, .sentinel, .sentinel, .pinned], laidTests := true, laidLooks := .later }
def ArithEvalsUptoCardSaid : Prop := Claim7.holds Tryd.pinned (.plain (OpenSpec.upto arithEvalsSpec)) arithEvalsUptoCard

/-- THE SECOND FORM's CARD OF 'dragomanlaw10.ArithBrackets'. -/
def arithBracketsUptoCard : Claim7 := { stood := { row := arithBracketsUptoRow, standIns := [], harness := (true, "8b51244b3e6a359520349cc03ae67f3e650de605f75ba3cee2eccc93a36b2b2b"), looks := true }, kinds := [], alts := [], laidByText := true, laidKinds := [.data, .data, .data, .data, .sentinel, .sentinel, .pinned], laidTests := true, laidLooks := .later }
def ArithBracketsUptoCardSaid : Prop := Claim7.holds Tryd.pinned (.plain (OpenSpec.upto arithBracketsSpec)) arithBracketsUptoCard

/-- THE SECOND FORM's CARD OF 'dragomanlaw10.ArithFigures'. -/
def arithFiguresUptoCard : Claim7 := { stood := { row := arithFiguresUptoRow, standIns := [], harness := (true, "8b51244b3e6a359520349cc03ae67f3e650de605f75ba3cee2eccc93a36b2b2b"), looks := true }, kinds := [], alts := [], laidByText := true, laidKinds := [.data, .data, .data, .data, .sentinel, .sentinel, .pinned], laidTests := true, laidLooks := .later }
def ArithFiguresUptoCardSaid : Prop := Claim7.holds Tryd.pinned (.plain (OpenSpec.upto arithFiguresSpec)) arithFiguresUptoCard

/-- THE SECOND FORM's CARD OF 'dragomanlaw10.ArithOrders'. -/
def arithOrdersUptoCard : Claim7 := { stood := { row := arithOrdersUptoRow, standIns := [], harness := (true, "8b51244b3e6a359520349cc03ae67f3e650de605f75ba3cee2eccc93a36b2b2b"), looks := true }, kinds := [], alts := [], laidByText := true, laidKinds := [.data, .data, .data, .data, .sentinel, .sentinel, .pinned], laidTests := true, laidLooks := .later }
def ArithOrdersUptoCardSaid : Prop := Claim7.holds Tryd.pinned (.plain (OpenSpec.upto arithOrdersSpec)) arithOrdersUptoCard

/-- THE SECOND FORM's CARD OF 'dragomanlaw10.ArithBools'. -/
def arithBoolsUptoCard : Claim7 := { stood := { row := arithBoolsUptoRow, standIns := [], harness := (true, "8b51244b3e6a359520349cc03ae67f3e650de605f75ba3cee2eccc93a36b2b2b"), looks := true }, kinds := [], alts := [], laidByText := true, laidKinds := [.data, .data, .data, .data, .sentinel, .sentinel, .pinned], laidTests := true, laidLooks := .later }
def ArithBoolsUptoCardSaid : Prop := Claim7.holds Tryd.pinned (.plain (OpenSpec.upto arithBoolsSpec)) arithBoolsUptoCard

/-- THE SECOND FORM's CARD OF 'dragomanlaw10.ArithSets'. -/
def arithSetsUptoCard : Claim7 := { stood := { row := arithSetsUptoRow, standIns := [], harness := (true, "8b51244b3e6a359520349cc03ae67f3e650de605f75ba3cee2eccc93a36b2b2b"), looks := true }, kinds := [], alts := [], laidByText := true, laidKinds := [.data, .data, .data, .data, .sentinel, .sentinel, .pinned], laidTests := true, laidLooks := .later }
def ArithSetsUptoCardSaid : Prop := Claim7.holds Tryd.pinned (.plain (OpenSpec.upto arithSetsSpec)) arithSetsUptoCard
end Rows
end Go.Proofs.YtambnodgfhlpfaaDoor
