/-
  DERIVED. GIVEN WITH THE SEED: THE CARDS: each row of YtldagaiphggnnaaDoorRows.lean that lists a variable, with what it lists TIED to the program's text (the seventh form; the later family's looks); each row that meets fmt, with fmt's text TOLD by the authors' own Lean function (tested against real Go, not proved from fmt's source: count such statements apart). THE CARD IS WHAT COUNTS. Prove the row's statement (the work); the ties are given (YtldagaiphggnnaaDoorTie.lean); close each card by the builder's one call (the guide's Derived/Test/ToyasCard.lean, 'card_holds'). Laid BY PROGRAM, IN A SANDBOX (cutbox-door.mjs). By AI agents, Wed Nov 11 2026. No macro, syntax, notation, axiom, sorry.
-/
import Derived.Test.YtldagaiphggnnaaDoorRows
import GoSem.ClaimSeven
namespace Go.Proofs.YtldagaiphggnnaaDoor
namespace Rows

/-- THE TIED CARD OF 'dragomanlaw01.HexNames'. -/
def hexNamesCard : Claim7 := { stood := { row := hexNamesRow, standIns := [], harness := (true, "02809ca2974e7f986935755804ef4f83d6fdcadb9cc113a64c6a74696180e583"), looks := true }, kinds := [], alts := [], laidByText := true, laidKinds := [.data, .data, .data], laidTests := true, laidLooks := .later }
def HexNamesCardSaid : Prop := Claim7.holds Tryd.pinned (.plain (OpenSpec.ofChange hexNamesSpec)) hexNamesCard

/-- THE TIED CARD OF 'dragomanlaw01.HexDigits'. -/
def hexDigitsCard : Claim7 := { stood := { row := hexDigitsRow, standIns := [], harness := (true, "02809ca2974e7f986935755804ef4f83d6fdcadb9cc113a64c6a74696180e583"), looks := true }, kinds := [], alts := [], laidByText := true, laidKinds := [.data, .data, .data], laidTests := true, laidLooks := .later }
def HexDigitsCardSaid : Prop := Claim7.holds Tryd.pinned (.plain (OpenSpec.ofChange hexDigitsSpec)) hexDigitsCard

/-- THE TIED CARD OF 'dragomanlaw01.HexTells'. -/
def hexTellsCard : Claim7 := { stood := { row := hexTellsRow, standIns := [], harness := (true, "02809ca2974e7f986935755804ef4f83d6fdcadb9cc113a64c6a74696180e583"), looks := true }, kinds := [], alts := [], laidByText := true, laidKinds := [.data, .data, .data], laidTests := true, laidLooks := .later }
def HexTellsCardSaid : Prop := Claim7.holds Tryd.pinned (.plain (OpenSpec.ofChange hexTellsSpec)) hexTellsCard

/-- THE TIED CARD OF 'dragomanlaw01.HexBack'. -/
def hexBackCard : Claim7 := { stood := { row := hexBackRow, standIns := [], harness := (true, "02809ca2974e7f986935755804ef4f83d6fdcadb9cc113a64c6a74696180e583"), looks := true }, kinds := [], alts := [], laidByText := true, laidKinds := [.data, .data, .data], laidTests := true, laidLooks := .later }
def HexBackCardSaid : Prop := Claim7.holds Tryd.pinned (.plain (OpenSpec.ofChange hexBackSpec)) hexBackCard

/-- THE TIED CARD OF 'dragomanlaw01.HexRows'. -/
def hexRowsCard : Claim7 := { stood := { row := hexRowsRow, standIns := [], harness := (true, "02809ca2974e7f986935755804ef4f83d6fdcadb9cc113a64c6a74696180e583"), looks := true }, kinds := [], alts := [], laidByText := true, laidKinds := [.data, .data, .data], laidTests := true, laidLooks := .later }
def HexRowsCardSaid : Prop := Claim7.holds Tryd.pinned (.plain (OpenSpec.ofChange hexRowsSpec)) hexRowsCard

/-- THE TIED CARD OF 'dragomanlaw01.HexNumbers'. -/
def hexNumbersCard : Claim7 := { stood := { row := hexNumbersRow, standIns := [], harness := (true, "02809ca2974e7f986935755804ef4f83d6fdcadb9cc113a64c6a74696180e583"), looks := true }, kinds := [], alts := [], laidByText := true, laidKinds := [.data, .data, .data, .sentinel, .sentinel], laidTests := true, laidLooks := .later }
def HexNumbersCardSaid : Prop := Claim7.holds Tryd.pinned (.plain (OpenSpec.ofChange hexNumbersSpec)) hexNumbersCard

/-- THE TIED CARD OF 'dragomanlaw01.HexFigures'. -/
def hexFiguresCard : Claim7 := { stood := { row := hexFiguresRow, standIns := [], harness := (true, "02809ca2974e7f986935755804ef4f83d6fdcadb9cc113a64c6a74696180e583"), looks := true }, kinds := [], alts := [], laidByText := true, laidKinds := [.data, .data, .data, .sentinel, .sentinel], laidTests := true, laidLooks := .later }
def HexFiguresCardSaid : Prop := Claim7.holds Tryd.pinned (.plain (OpenSpec.ofChange hexFiguresSpec)) hexFiguresCard

/-- THE SECOND FORM's CARD OF 'dragomanlaw01.HexNames'. -/
def hexNamesUptoCard : Claim7 := { stood := { row := hexNamesUptoRow, standIns := [], harness := (true, "02809ca2974e7f986935755804ef4f83d6fdcadb9cc113a64c6a74696180e583"), looks := true }, kinds := [], alts := [], laidByText := true, laidKinds := [.data, .data, .data], laidTests := true, laidLooks := .later }
def HexNamesUptoCardSaid : Prop := Claim7.holds Tryd.pinned (.plain (OpenSpec.upto hexNamesSpec)) hexNamesUptoCard

/-- THE SECOND FORM's CARD OF 'dragomanlaw01.HexDigits'. -/
def hexDigitsUptoCard : Claim7 := { stood := { row := hexDigitsUptoRow, standIns := [], harness := (true, "02809ca2974e7f986935755804ef4f83d6fdcadb9cc113a64c6a74696180e583"), looks := true }, kinds := [], alts := [], laidByText := true, laidKinds := [.data, .data, .data], laidTests := true, laidLooks := .later }
def HexDigitsUptoCardSaid : Prop := Claim7.holds Tryd.pinned (.plain (OpenSpec.upto hexDigitsSpec)) hexDigitsUptoCard

/-- THE SECOND FORM's CARD OF 'dragomanlaw01.HexTells'. -/
def hexTellsUptoCard : Claim7 := { stood := { row := hexTellsUptoRow, standIns := [], harness := (true, "02809ca2974e7f986935755804ef4f83d6fdcadb9cc113a64c6a74696180e583"), looks := true }, kinds := [], alts := [], laidByText := true, laidKinds := [.data, .data, .data], laidTests := true, laidLooks := .later }
def HexTellsUptoCardSaid : Prop := Claim7.holds Tryd.pinned (.plain (OpenSpec.upto hexTellsSpec)) hexTellsUptoCard

/-- THE SECOND FORM's CARD OF 'dragomanlaw01.HexBack'. -/
def hexBackUptoCard : Claim7 := { stood := { row := hexBackUptoRow, standIns := [], harness := (true, "02809ca2974e7f986935755804ef4f83d6fdcadb9cc113a64c6a74696180e583"), looks := true }, kinds := [], alts := [], laidByText := true, laidKinds := [.data, .data, .data], laidTests := true, laidLooks := .later }
def HexBackUptoCardSaid : Prop := Claim7.holds Tryd.pinned (.plain (OpenSpec.upto hexBackSpec)) hexBackUptoCard

/-- THE SECOND FORM's CARD OF 'dragomanlaw01.HexRows'. -/
def hexRowsUptoCard : Claim7 := { stood := { row := hexRowsUptoRow, standIns := [], harness := (true, "02809ca2974e7f986935755804ef4f83d6fdcadb9cc113a64c6a74696180e583"), looks := true }, kinds := [], alts := [], laidByText := true, laidKinds := [.data, .data, .data], laidTests := true, laidLooks := .later }
def HexRowsUptoCardSaid : Prop := Claim7.holds Tryd.pinned (.plain (OpenSpec.upto hexRowsSpec)) hexRowsUptoCard

/-- THE SECOND FORM's CARD OF 'dragomanlaw01.HexNumbers'. -/
def hexNumbersUptoCard : Claim7 := { stood := { row := hexNumbersUptoRow, standIns := [], harness := (true, "02809ca2974e7f986935755804ef4f83d6fdcadb9cc113a64c6a74696180e583"), looks := true }, kinds := [], alts := [], laidByText := true, laidKinds := [.data, .data, .data, .sentinel, .sentinel], laidTests := true, laidLooks := .later }
def HexNumbersUptoCardSaid : Prop := Claim7.holds Tryd.pinned (.plain (OpenSpec.upto hexNumbersSpec)) hexNumbersUptoCard

/-- THE SECOND FORM's CARD OF 'dragomanlaw01.HexFigures'. -/
def hexFiguresUptoCard : Claim7 := { stood := { row := hexFiguresUptoRow, standIns := [], harness := (true, "02809ca2974e7f986935755804ef4f83d6fdcadb9cc113a64c6a74696180e583"), looks := true }, kinds := [], alts := [], laidByText := true, laidKinds := [.data, .data, .data, .sentinel, .sentinel], laidTests := true, laidLooks := .later }
def HexFiguresUptoCardSaid : Prop := Claim7.holds Tryd.pinned (.plain (OpenSpec.upto hexFiguresSpec)) hexFiguresUptoCard
end Rows
end Go.Proofs.YtldagaiphggnnaaDoor
