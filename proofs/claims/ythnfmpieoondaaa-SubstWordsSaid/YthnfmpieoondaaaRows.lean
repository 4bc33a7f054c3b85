/-
  No cell of these rows narrows 'for every input' (looked for: loops, veiled, ifaces, maps, wideKeys, modest, calm, conditions, laid).
  DERIVED. THE GIVEN ROWS OF THIS SEAT. 7 by the template 'for every input the law returns true; each argument reads behind the call as it read before'; 0 by the template 'total and deterministic' (their statements: YthnfmpieoondaaaTotals.lean).
  GIVEN WITH THE SEED: the statements are not yours to turn. If you find one false, say at which input.
  Laid BY PROGRAM, IN A SANDBOX (cutbox-rows.mjs): the forced cells as the released guide's own fill.sh prints them over the translation 57adaae3c6a0296b… (all of the seat's roots in one cut). By AI agents, Wed Nov 11 2026. No macro, syntax, notation, axiom, sorry.
-/
import Derived.Test.YthnfmpieoondaaaChecked
import GoSem.Claim
import GoSem.ClaimJoined
import GoSem.ClaimMapViews
import Derived.JoinedTies
import Derived.KernelRfl
namespace Go.Proofs.Ythnfmpieoondaaa
/- THE CELL 'sum', in the pinned program and in every row, IS THE sha256 OF THE DUMP (.gsa) THAT YthnfmpieoondaaaProg.lean LOADS. Nothing in Lean hashes anything: it is a label: what it is worth is what the hold of that sum in a sandbox is worth. -/
noncomputable def Try.pinned : Pinned := { name := "ythnfmpieoondaaa", sum := "57adaae3c6a0296b8da90c191357d3d85507c658ebfde0d5c0958824fa24cb07", checked := Try.checked }
namespace Rows
def none {H : Type} : Left H := { results := [], args := [] }

/-- 'dragomanlaw07.SubstLengths': WHATEVER THE INPUT: true; the input reads as it did. -/
def substLengthsSpec : ChangeSpec := { name := "substLengths", fn := fun _ => fun
  | [d1, d2, d3] => { results := [.lit (.bool true)], args := [d1, d2, d3] }
  | _ => none }
def substLengthsRow : OpenClaim := { program := "ythnfmpieoondaaa", sum := "57adaae3c6a0296b8da90c191357d3d85507c658ebfde0d5c0958824fa24cb07", func := "dragoman/dragomanlaw07.SubstLengths", spec := "substLengths", inPlace := ["internal/bytealg.IndexByteString", "internal/abi.NoEscape", "internal/bytealg.MakeNoZero"], unfollowed := true, recurses := true, apart := false }
def SubstLengthsSaid : Prop := substLengthsRow.holds Try.pinned (OpenSpec.ofChange substLengthsSpec)

/-- ITS FALSE NEIGHBOUR: 'it returns false'. Refute it at one input. -/
def substLengthsWrong : ChangeSpec := { name := "substLengths", fn := fun _ => fun
  | [d1, d2, d3] => { results := [.lit (.bool false)], args := [d1, d2, d3] }
  | _ => none }
def SubstLengthsWrongFalsely : Prop := substLengthsRow.holds Try.pinned (OpenSpec.ofChange substLengthsWrong)

/-- 'dragomanlaw07.SubstWords': WHATEVER THE INPUT: true; the input reads as it did. -/
def substWordsSpec : ChangeSpec := { name := "substWords", fn := fun _ => fun
  | [d1, d2, d3] => { results := [.lit (.bool true)], args := [d1, d2, d3] }
  | _ => none }
def substWordsRow : OpenClaim := { program := "ythnfmpieoondaaa", sum := "57adaae3c6a0296b8da90c191357d3d85507c658ebfde0d5c0958824fa24cb07", func := "dragoman/dragomanlaw07.SubstWords", spec := "substWords", inPlace := ["internal/bytealg.IndexByteString", "internal/abi.NoEscape", "internal/bytealg.MakeNoZero"], unfollowed := true, recurses := true, apart := false }
def SubstWordsSaid : Prop := substWordsRow.holds Try.pinned (OpenSpec.ofChange substWordsSpec)

/-- ITS FALSE NEIGHBOUR: 'it returns false'. Refute it at one input. -/
def substWordsWrong : ChangeSpec := { name := "substWords", fn := fun _ => fun
  | [d1, d2, d3] => { results := [.lit (.bool false)], args := [d1, d2, d3] }
  | _ => none }
def SubstWordsWrongFalsely : Prop := substWordsRow.holds Try.pinned (OpenSpec.ofChange substWordsWrong)

/-- 'dragomanlaw07.SubstPuts': WHATEVER THE INPUT: true; the input reads as it did. -/
def substPutsSpec : ChangeSpec := { name := "substPuts", fn := fun _ => fun
  | [d1, d2] => { results := [.lit (.bool true)], args := [d1, d2] }
  | _ => none }
def substPutsRow : OpenClaim := { program := "ythnfmpieoondaaa", sum := "57adaae3c6a0296b8da90c191357d3d85507c658ebfde0d5c0958824fa24cb07", func := "dragoman/dragomanlaw07.SubstPuts", spec := "substPuts", inPlace := ["internal/bytealg.IndexByteString", "internal/abi.NoEscape", "internal/bytealg.MakeNoZero"], unfollowed := true, recurses := true, apart := false }
def SubstPutsSaid : Prop := substPutsRow.holds Try.pinned (OpenSpec.ofChange substPutsSpec)

/-- ITS FALSE NEIGHBOUR: 'it returns false'. Refute it at one input. -/
def substPutsWrong : ChangeSpec := { name := "substPuts", fn := fun _ => fun
  | [d1, d2] => { results := [.lit (.bool false)], args := [d1, d2] }
  | _ => none }
def SubstPutsWrongFalsely : Prop := substPutsRow.holds Try.pinned (OpenSpec.ofChange substPutsWrong)

/-- 'dragomanlaw07.SubstTells': WHATEVER THE INPUT: true; the input reads as it did. -/
def substTellsSpec : ChangeSpec := { name := "substTells", fn := fun _ => fun
  | [d1, d2, d3] => { results := [.lit (.bool true)], args := [d1, d2, d3] }
  | _ => none }
def substTellsRow : OpenClaim := { program := "ythnfmpieoondaaa", sum := "57adaae3c6a0296b8da90c191357d3d85507c658ebfde0d5c0958824fa24cb07", func := "dragoman/dragomanlaw07.SubstTells", spec := "substTells", inPlace := ["internal/bytealg.IndexByteString", "internal/abi.NoEscape", "internal/bytealg.MakeNoZero"], unfollowed := true, recurses := true, apart := false }
def SubstTellsSaid : Prop := substTellsRow.holds Try.pinned (OpenSpec.ofChange substTellsSpec)

/-- ITS FALSE NEIGHBOUR: 'it returns false'. Refute it at one input. -/
def substTellsWrong : ChangeSpec := { name := "substTells", fn := fun _ => fun
  | [d1, d2, d3] => { results := [.lit (.bool false)], args := [d1, d2, d3] }
  | _ => none }
def SubstTellsWrongFalsely : Prop := substTellsRow.holds Try.pinned (OpenSpec.ofChange substTellsWrong)

/-- 'dragomanlaw07.SubstStays': WHATEVER THE INPUT: true; the input reads as it did. -/
def substStaysSpec : ChangeSpec := { name := "substStays", fn := fun _ => fun
  | [d1, d2, d3] => { results := [.lit (.bool true)], args := [d1, d2, d3] }
  | _ => none }
def substStaysRow : OpenClaim := { program := "ythnfmpieoondaaa", sum := "57adaae3c6a0296b8da90c191357d3d85507c658ebfde0d5c0958824fa24cb07", func := "dragoman/dragomanlaw07.SubstStays", spec := "substStays", inPlace := ["internal/bytealg.IndexByteString", "internal/abi.NoEscape", "internal/bytealg.MakeNoZero"], unfollowed := true, recurses := true, apart := false }
def SubstStaysSaid : Prop := substStaysRow.holds Try.pinned (OpenSpec.ofChange substStaysSpec)

/-- ITS FALSE NEIGHBOUR: 'it returns false'. Refute it at one input. -/
def substStaysWrong : ChangeSpec := { name := "substStays", fn := fun _ => fun
  | [d1, d2, d3] => { results := [.lit (.bool false)], args := [d1, d2, d3] }
  | _ => none }
def SubstStaysWrongFalsely : Prop := substStaysRow.holds Try.pinned (OpenSpec.ofChange substStaysWrong)

/-- 'dragomanlaw07.SubstTexts': WHATEVER THE INPUT: true; the input reads as it did. -/
def substTextsSpec : ChangeSpec := { name := "substTexts", fn := fun _ => fun
  | [d1, d2, d3] => { results := [.lit (.bool true)], args := [d1, d2, d3] }
  | _ => none }
def substTextsRow : OpenClaim := { program := "ythnfmpieoondaaa", sum := "57adaae3c6a0296b8da90c191357d3d85507c658ebfde0d5c0958824fa24cb07", func := "dragoman/dragomanlaw07.SubstTexts", spec := "substTexts", inPlace := ["internal/bytealg.IndexByteString", "internal/abi.NoEscape", "internal/bytealg.MakeNoZero"], unfollowed := true, recurses := true, apart := false }
def SubstTextsSaid : Prop := substTextsRow.holds Try.pinned (OpenSpec.ofChange substTextsSpec)

/-- ITS FALSE NEIGHBOUR: 'it returns false'. Refute it at one input. -/
def substTextsWrong : ChangeSpec := { name := "substTexts", fn := fun _ => fun
  | [d1, d2, d3] => { results := [.lit (.bool false)], args := [d1, d2, d3] }
  | _ => none }
def SubstTextsWrongFalsely : Prop := substTextsRow.holds Try.pinned (OpenSpec.ofChange substTextsWrong)

/-- 'dragomanlaw07.SubstBack': WHATEVER THE INPUT: true; the input reads as it did. -/
def substBackSpec : ChangeSpec := { name := "substBack", fn := fun _ => fun
  | [d] => { results := [.lit (.bool true)], args := [d] }
  | _ => none }
def substBackRow : OpenClaim := { program := "ythnfmpieoondaaa", sum := "57adaae3c6a0296b8da90c191357d3d85507c658ebfde0d5c0958824fa24cb07", func := "dragoman/dragomanlaw07.SubstBack", spec := "substBack", inPlace := ["internal/bytealg.IndexByteString", "internal/abi.NoEscape", "internal/bytealg.MakeNoZero"], unfollowed := true, recurses := true, apart := false }
def SubstBackSaid : Prop := substBackRow.holds Try.pinned (OpenSpec.ofChange substBackSpec)

/-- ITS FALSE NEIGHBOUR: 'it returns false'. Refute it at one input. -/
def substBackWrong : ChangeSpec := { name := "substBack", fn := fun _ => fun
  | [d] => { results := [.lit (.bool false)], args := [d] }
  | _ => none }
def SubstBackWrongFalsely : Prop := substBackRow.holds Try.pinned (OpenSpec.ofChange substBackWrong)

/- THE SECOND FORM. 'bulk': how many values and letters a reading holds, each counted each time it is reached (what is shared counts as often as it is met; a slice's spare places count too). A statement '..UptoSaid' is the law's where the arguments, and the package variables that the reading takes, are together of bulk at most 1048576: NARROWER than '..Said'. Prove '..Said' where nothing that the law and all that it calls make is longer than what came in: it says more and counts as full. Else prove '..UptoSaid'. A law counts once. -/
mutual
def uptoBulk {H : Type} : DataW H → Nat
  | .lit (.string bytes) => bytes.length + 1
  | .lit _ => 1
  | .nil => 1
  | .ptr d => uptoBulk d + 1
  | .slice elems spare => uptoBulkAll elems + uptoBulkAll spare + 1
  | .agg parts => uptoBulkAll parts + 1
  | .iface _ d => uptoBulk d + 1
  | .map entries => uptoBulkEntries entries + 1
  | .held _ => 1
def uptoBulkAll {H : Type} : List (DataW H) → Nat
  | [] => 0
  | d :: r => uptoBulk d + uptoBulkAll r
def uptoBulkEntries {H : Type} : List (Lit × DataW H) → Nat
  | [] => 0
  | x :: r => uptoBulkEntry x + uptoBulkEntries r
def uptoBulkEntry {H : Type} : Lit × DataW H → Nat
  | (.string bytes, d) => bytes.length + uptoBulk d + 1
  | (_, d) => uptoBulk d + 1
 end
def uptoSmall : (H : Type) → List (DataW H) → Bool := fun _ ds => decide (uptoBulkAll ds ≤ 1048576)
def OpenSpec.upto (s : _root_.Go.ChangeSpec) : _root_.Go.OpenSpec := { _root_.Go.OpenSpec.ofChange s with cond := some uptoSmall }

/-- 'dragomanlaw07.SubstLengths', WHERE WHAT IT READS IS OF BULK AT MOST 1048576: true; the input reads as it did. -/
def substLengthsUptoRow : OpenClaim := { program := "ythnfmpieoondaaa", sum := "57adaae3c6a0296b8da90c191357d3d85507c658ebfde0d5c0958824fa24cb07", func := "dragoman/dragomanlaw07.SubstLengths", spec := "substLengths", inPlace := ["internal/bytealg.IndexByteString", "internal/abi.NoEscape", "internal/bytealg.MakeNoZero"], unfollowed := true, recurses := true, apart := false, narrowed := true }
def SubstLengthsUptoSaid : Prop := substLengthsUptoRow.holds Try.pinned (OpenSpec.upto substLengthsSpec)

/-- 'dragomanlaw07.SubstWords', WHERE WHAT IT READS IS OF BULK AT MOST 1048576: true; the input reads as it did. -/
def substWordsUptoRow : OpenClaim := { program := "ythnfmpieoondaaa", sum := "57adaae3c6a0296b8da90c191357d3d85507c658ebfde0d5c0958824fa24cb07", func := "dragoman/dragomanlaw07.SubstWords", spec := "substWords", inPlace := ["internal/bytealg.IndexByteString", "internal/abi.NoEscape", "internal/bytealg.MakeNoZero"], unfollowed := true, recurses := true, apart := false, narrowed := true }
def SubstWordsUptoSaid : Prop := substWordsUptoRow.holds Try.pinned (OpenSpec.upto substWordsSpec)

/-- 'dragomanlaw07.SubstPuts', WHERE WHAT IT READS IS OF BULK AT MOST 1048576: true; the input reads as it did. -/
def substPutsUptoRow : OpenClaim := { program := "ythnfmpieoondaaa", sum := "57adaae3c6a0296b8da90c191357d3d85507c658ebfde0d5c0958824fa24cb07", func := "dragoman/dragomanlaw07.SubstPuts", spec := "substPuts", inPlace := ["internal/bytealg.IndexByteString", "internal/abi.NoEscape", "internal/bytealg.MakeNoZero"], unfollowed := true, recurses := true, apart := false, narrowed := true }
def SubstPutsUptoSaid : Prop := substPutsUptoRow.holds Try.pinned (OpenSpec.upto substPutsSpec)

/-- 'dragomanlaw07.SubstTells', WHERE WHAT IT READS IS OF BULK AT MOST 1048576: true; the input reads as it did. -/
def substTellsUptoRow : OpenClaim := { program := "ythnfmpieoondaaa", sum := "57adaae3c6a0296b8da90c191357d3d85507c658ebfde0d5c0958824fa24cb07", func := "dragoman/dragomanlaw07.SubstTells", spec := "substTells", inPlace := ["internal/bytealg.IndexByteString", "internal/abi.NoEscape", "internal/bytealg.MakeNoZero"], unfollowed := true, recurses := true, apart := false, narrowed := true }
def SubstTellsUptoSaid : Prop := substTellsUptoRow.holds Try.pinned (OpenSpec.upto substTellsSpec)

/-- 'dragomanlaw07.SubstStays', WHERE WHAT IT READS IS OF BULK AT MOST 1048576: true; the input reads as it did. -/
def substStaysUptoRow : OpenClaim := { program := "ythnfmpieoondaaa", sum := "57adaae3c6a0296b8da90c191357d3d85507c658ebfde0d5c0958824fa24cb07", func := "dragoman/dragomanlaw07.SubstStays", spec := "substStays", inPlace := ["internal/bytealg.IndexByteString", "internal/abi.NoEscape", "internal/bytealg.MakeNoZero"], unfollowed := true, recurses := true, apart := false, narrowed := true }
def SubstStaysUptoSaid : Prop := substStaysUptoRow.holds Try.pinned (OpenSpec.upto substStaysSpec)

/-- 'dragomanlaw07.SubstTexts', WHERE WHAT IT READS IS OF BULK AT MOST 1048576: true; the input reads as it did. -/
def substTextsUptoRow : OpenClaim := { program := "ythnfmpieoondaaa", sum := "57adaae3c6a0296b8da90c191357d3d85507c658ebfde0d5c0958824fa24cb07", func := "dragoman/dragomanlaw07.SubstTexts", spec := "substTexts", inPlace := ["internal/bytealg.IndexByteString", "internal/abi.NoEscape", "internal/bytealg.MakeNoZero"], unfollowed := true, recurses := true, apart := false, narrowed := true }
def SubstTextsUptoSaid : Prop := substTextsUptoRow.holds Try.pinned (OpenSpec.upto substTextsSpec)

/-- 'dragomanlaw07.SubstBack', WHERE WHAT IT READS IS OF BULK AT MOST 1048576: true; the input reads as it did. -/
def substBackUptoRow : OpenClaim := { program := "ythnfmpieoondaaa", sum := "57adaae3c6a0296b8da90c191357d3d85507c658ebfde0d5c0958824fa24cb07", func := "dragoman/dragomanlaw07.SubstBack", spec := "substBack", inPlace := ["internal/bytealg.IndexByteString", "internal/abi.NoEscape", "internal/bytealg.MakeNoZero"], unfollowed := true, recurses := true, apart := false, narrowed := true }
def SubstBackUptoSaid : Prop := substBackUptoRow.holds Try.pinned (OpenSpec.upto substBackSpec)

end Rows
end Go.Proofs.Ythnfmpieoondaaa
