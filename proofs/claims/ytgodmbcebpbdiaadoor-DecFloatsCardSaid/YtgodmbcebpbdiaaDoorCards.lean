/-
  DERIVED. GIVEN WITH THE SEED: THE CARDS: each row of YtgodmbcebpbdiaaDoorRows.lean that lists a variable, with what it lists TIED to the program's text (the seventh form; the later family's looks); each row that meets fmt, with fmt's text TOLD by the authors' own Lean function (tested against real Go, not proved from fmt's source: count such statements apart). THE CARD IS WHAT COUNTS. Prove the row's statement (the work); the ties are given (YtgodmbcebpbdiaaDoorTie.lean); close each card by the builder's one call (the guide's Derived/Test/ToyasCard.lean, 'card_holds'). Laid BY PROGRAM, IN A SANDBOX (cutbox-door.mjs). By AI agents, Wed Nov 11 2026. No macro, syntax, notation, axiom, sorry.
-/
import Derived.Test.YtgodmbcebpbdiaaDoorRows
import GoSem.ClaimSeven
namespace Go.Proofs.YtgodmbcebpbdiaaDoor
namespace Rows

/-- THE TIED CARD OF 'dragomanlaw02.DecTexts'. -/
def decTextsCard : Claim7 := { stood := { row := decTextsRow, standIns := [], harness := (true, "d840f18049ba795664f2d201bdde110e8ab9fb1ba9e12891e5d25cb04198aa6e"), looks := true }, kinds := [], alts := [], laidByText := true, laidKinds := [.data, .data, .data, .data, .pinned], laidTests := true, laidLooks := .later }
def DecTextsCardSaid : Prop := Claim7.holds Tryd.pinned (.plain (OpenSpec.ofChange decTextsSpec)) decTextsCard

/-- THE TIED CARD OF 'dragomanlaw02.DecBack'. -/
def decBackCard : Claim7 := { stood := { row := decBackRow, standIns := [], harness := (true, "d840f18049ba795664f2d201bdde110e8ab9fb1ba9e12891e5d25cb04198aa6e"), looks := true }, kinds := [], alts := [], laidByText := true, laidKinds := [.data, .data, .data, .data, .pinned], laidTests := true, laidLooks := .later }
def DecBackCardSaid : Prop := Claim7.holds Tryd.pinned (.plain (OpenSpec.ofChange decBackSpec)) decBackCard

/-- THE TIED CARD OF 'dragomanlaw02.DecReads'. -/
def decReadsCard : Claim7 := { stood := { row := decReadsRow, standIns := [], harness := (true, "d840f18049ba795664f2d201bdde110e8ab9fb1ba9e12891e5d25cb04198aa6e"), looks := true }, kinds := [], alts := [], laidByText := true, laidKinds := [.data, .data, .data, .data, .pinned], laidTests := true, laidLooks := .later }
def DecReadsCardSaid : Prop := Claim7.holds Tryd.pinned (.plain (OpenSpec.ofChange decReadsSpec)) decReadsCard

/-- THE TIED CARD OF 'dragomanlaw02.DecSigns'. -/
def decSignsCard : Claim7 := { stood := { row := decSignsRow, standIns := [], harness := (true, "d840f18049ba795664f2d201bdde110e8ab9fb1ba9e12891e5d25cb04198aa6e"), looks := true }, kinds := [], alts := [], laidByText := true, laidKinds := [.data, .data, .data, .data, .pinned], laidTests := true, laidLooks := .later }
def DecSignsCardSaid : Prop := Claim7.holds Tryd.pinned (.plain (OpenSpec.ofChange decSignsSpec)) decSignsCard

/-- THE TIED CARD OF 'dragomanlaw02.DecRests'. -/
def decRestsCard : Claim7 := { stood := { row := decRestsRow, standIns := [], harness := (true, "d840f18049ba795664f2d201bdde110e8ab9fb1ba9e12891e5d25cb04198aa6e"), looks := true }, kinds := [], alts := [], laidByText := true, laidKinds := [.data, .data, .data, .data, .pinned], laidTests := true, laidLooks := .later }
def DecRestsCardSaid : Prop := Claim7.holds Tryd.pinned (.plain (OpenSpec.ofChange decRestsSpec)) decRestsCard

/-- THE TIED CARD OF 'dragomanlaw02.DecWholes'. -/
def decWholesCard : Claim7 := { stood := { row := decWholesRow, standIns := [], harness := (true, "d840f18049ba795664f2d201bdde110e8ab9fb1ba9e12891e5d25cb04198aa6e"), looks := true }, kinds := [], alts := [], laidByText := true, laidKinds := [.data, .data, .data, .data, .pinned], laidTests := true, laidLooks := .later }
def DecWholesCardSaid : Prop := Claim7.holds Tryd.pinned (.plain (OpenSpec.ofChange decWholesSpec)) decWholesCard

/-- THE TIED CARD OF 'dragomanlaw02.DecOrders'. -/
def decOrdersCard : Claim7 := { stood := { row := decOrdersRow, standIns := [], harness := (true, "d840f18049ba795664f2d201bdde110e8ab9fb1ba9e12891e5d25cb04198aa6e"), looks := true }, kinds := [], alts := [], laidByText := true, laidKinds := [.data, .data, .data, .data, .pinned], laidTests := true, laidLooks := .later }
def DecOrdersCardSaid : Prop := Claim7.holds Tryd.pinned (.plain (OpenSpec.ofChange decOrdersSpec)) decOrdersCard

/-- THE TIED CARD OF 'dragomanlaw02.DecFloats'. -/
def decFloatsCard : Claim7 := { stood := { row := decFloatsRow, standIns := [], harness := (true, "d840f18049ba795664f2d201bdde110e8ab9fb1ba9e12891e5d25cb04198aa6e"), looks := true }, kinds := [], alts := [], laidByText := true, laidKinds := [.data, .data, .data, .data, .pinned], laidTests := true, laidLooks := .later }
def DecFloatsCardSaid : Prop := Claim7.holds Tryd.pinned (.plain (OpenSpec.ofChange decFloatsSpec)) decFloatsCard

/-- THE TIED CARD OF 'dragomanlaw02.DecReckons'. -/
def decReckonsCard : Claim7 := { stood := { row := decReckonsRow, standIns := [], harness := (true, "d840f18049ba795664f2d201bdde110e8ab9fb1ba9e12891e5d25cb04198aa6e"), looks := true }, kinds := [], alts := [], laidByText := true, laidKinds := [.data, .data, .data, .data, .pinned], laidTests := true, laidLooks := .later }
def DecReckonsCardSaid : Prop := Claim7.holds Tryd.pinned (.plain (OpenSpec.ofChange decReckonsSpec)) decReckonsCard

/-- THE SECOND FORM's CARD OF 'dragomanlaw02.DecTexts'. -/
def decTextsUptoCard : Claim7 := { stood := { row := decTextsUptoRow, standIns := [], harness := (true, "d840f18049ba795664f2d201bdde110e8ab9fb1ba9e12891e5d25cb04198aa6e"), looks := true }, kinds := [], alts := [], laidByText := true, laidKinds := [.data, .data, .data, .data, .pinned], laidTests := true, laidLooks := .later }
def DecTextsUptoCardSaid : Prop := Claim7.holds Tryd.pinned (.plain (OpenSpec.upto decTextsSpec)) decTextsUptoCard

/-- THE SECOND FORM's CARD OF 'dragomanlaw02.DecBack'. -/
def decBackUptoCard : Claim7 := { stood := { row := decBackUptoRow, standIns := [], harness := (true, "d840f18049ba795664f2d201bdde110e8ab9fb1ba9e12891e5d25cb04198aa6e"), looks := true }, kinds := [], alts := [], laidByText := true, laidKinds := [.data, .data, .data, .data, .pinned], laidTests := true, laidLooks := .later }
def DecBackUptoCardSaid : Prop := Claim7.holds Tryd.pinned (.plain (OpenSpec.upto decBackSpec)) decBackUptoCard

/-- THE SECOND FORM's CARD OF 'dragomanlaw02.DecReads'. -/
def decReadsUptoCard : Claim7 := { stood := { row := decReadsUptoRow, standIns := [], harness := (true, "d840f18049ba795664f2d201bdde110e8ab9fb1ba9e12891e5d25cb04198aa6e"), looks := true }, kinds := [], alts := [], laidByText := true, laidKinds := [.data, .data, .data, .data, .pinned], laidTests := true, laidLooks := .later }
def DecReadsUptoCardSaid : Prop := Claim7.holds Tryd.pinned (.plain (OpenSpec.upto decReadsSpec)) decReadsUptoCard

/-- THE SECOND FORM's CARD OF 'dragomanlaw02.DecSigns'. -/
def decSignsUptoCard : Claim7 := { stood := { row := decSignsUptoRow, standIns := [], harness := (true, "d840f18049ba795664f2d201bdde110e8ab9fb1ba9e12891e5d25cb04198aa6e"), looks := true }, kinds := [], alts := [], laidByText := true, laidKinds := [.data, .data, .data, .data, .pinned], laidTests := true, laidLooks := .later }
def DecSignsUptoCardSaid : Prop := Claim7.holds Tryd.pinned (.plain (OpenSpec.upto decSignsSpec)) decSignsUptoCard

/-- THE SECOND FORM's CARD OF 'dragomanlaw02.DecRests'. -/
def decRestsUptoCard : Claim7 := { stood := { row := decRestsUptoRow, standIns := [], harness := (true, "d840f18049ba795664f2d201bdde110e8ab9fb1ba9e12891e5d25cb04198aa6e"), looks := true }, kinds := [], alts := [], laidByText := true, laidKinds := [.data, .data, .data, .data, .pinned], laidTests := true, laidLooks := .later }
def DecRestsUptoCardSaid : Prop := Claim7.holds Tryd.pinned (.plain (OpenSpec.upto decRestsSpec)) decRestsUptoCard

/-- THE SECOND FORM's CARD OF 'dragomanlaw02.DecWholes'. -/
def decWholesUptoCard : Claim7 := { stood := { row := decWholesUptoRow, standIns := [], harness := (true, "d840f18049ba795664f2d201bdde110e8ab9fb1ba9e12891e5d25cb04198aa6e"), looks := true }, kinds := [], alts := [], laidByText := true, laidKinds := [.data, .data, .data, .data, .pinned], laidTests := true, laidLooks := .later }
def DecWholesUptoCardSaid : Prop := Claim7.holds Tryd.pinned (.plain (OpenSpec.upto decWholesSpec)) decWholesUptoCard

/-- THE SECOND FORM's CARD OF 'dragomanlaw02.DecOrders'. -/
def decOrdersUptoCard : Claim7 := { stood := { row := decOrdersUptoRow, standIns := [], harness := (true, "d840f18049ba795664f2d201bdde110e8ab9fb1ba9e12891e5d25cb04198aa6e"), looks := true }, kinds := [], alts := [], laidByText := true, laidKinds := [.data, .data, .data, .data, .pinned], laidTests := true, laidLooks := .later }
def DecOrdersUptoCardSaid : Prop := Claim7.holds Tryd.pinned (.plain (OpenSpec.upto decOrdersSpec)) decOrdersUptoCard

/-- THE SECOND FORM's CARD OF 'dragomanlaw02.DecFloats'. -/
def decFloatsUptoCard : Claim7 := { stood := { row := decFloatsUptoRow, standIns := [], harness := (true, "d840f18049ba795664f2d201bdde110e8ab9fb1ba9e12891e5d25cb04198aa6e"), looks := true }, kinds := [], alts := [], laidByText := true, laidKinds := [.data, .data, .data, .data, .pinned], laidTests := true, laidLooks := .later }
def DecFloatsUptoCardSaid : Prop := Claim7.holds Tryd.pinned (.plain (OpenSpec.upto decFloatsSpec)) decFloatsUptoCard

/-- THE SECOND FORM's CARD OF 'dragomanlaw02.DecReckons'. -/
def decReckonsUptoCard : Claim7 := { stood := { row := decReckonsUptoRow, standIns := [], harness := (true, "d840f18049ba795664f2d201bdde110e8ab9fb1ba9e12891e5d25cb04198aa6e"), looks := true }, kinds := [], alts := [], laidByText := true, laidKinds := [.data, .data, .data, .data, .pinned], laidTests := true, laidLooks := .later }
def DecReckonsUptoCardSaid : Prop := Claim7.holds Tryd.pinned (.plain (OpenSpec.upto decReckonsSpec)) decReckonsUptoCard
end Rows
end Go.Proofs.YtgodmbcebpbdiaaDoor
