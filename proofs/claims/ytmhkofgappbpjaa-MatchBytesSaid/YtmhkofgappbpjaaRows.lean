/-
  No cell of these rows narrows 'for every input' (looked for: loops, veiled, ifaces, maps, wideKeys, modest, calm, conditions, laid).
  DERIVED. THE GIVEN ROWS OF THIS SEAT. 6 by the template 'for every input the law returns true; each argument reads behind the call as it read before'; 0 by the template 'total and deterministic' (their statements: YtmhkofgappbpjaaTotals.lean).
  GIVEN WITH THE SEED: the statements are not yours to turn. If you find one false, say at which input.
  Laid BY PROGRAM, IN A SANDBOX (cutbox-rows.mjs): the forced cells as the released guide's own fill.sh prints them over the translation ddf860c6aa3bbf01… (all of the seat's roots in one cut). By AI agents, Wed Nov 11 2026. No macro, syntax, notation, axiom, sorry.
-/
import Derived.Test.YtmhkofgappbpjaaChecked
import GoSem.Claim
import GoSem.ClaimJoined
import GoSem.ClaimMapViews
import Derived.JoinedTies
import Derived.KernelRfl
namespace Go.Proofs.Ytmhkofgappbpjaa
/- THE CELL 'sum', in the pinned program and in every row, IS THE sha256 OF THE DUMP (.gsa) THAT YtmhkofgappbpjaaProg.lean LOADS. Nothing in Lean hashes anything: it is a label: what it is worth is what the hold of that sum in a sandbox is worth. -/
noncomputable def Try.pinned : Pinned := { name := "ytmhkofgappbpjaa", sum := "ddf860c6aa3bbf01901b365f5224d7e610bf02a99937606aecb19c5b207845e6", checked := Try.checked }
namespace Rows
def none {H : Type} : Left H := { results := [], args := [] }

/-- 'dragomanlaw06.MatchSpans': WHATEVER THE INPUT: true; the input reads as it did. -/
def matchSpansSpec : ChangeSpec := { name := "matchSpans", fn := fun _ => fun
  | [d1, d2] => { results := [.lit (.bool true)], args := [d1, d2] }
  | _ => none }
def matchSpansRow : OpenClaim := { program := "ytmhkofgappbpjaa", sum := "ddf860c6aa3bbf01901b365f5224d7e610bf02a99937606aecb19c5b207845e6", func := "dragoman/dragomanlaw06.MatchSpans", spec := "matchSpans", unfollowed := true, recurses := true, apart := false }
def MatchSpansSaid : Prop := matchSpansRow.holds Try.pinned (OpenSpec.ofChange matchSpansSpec)

/-- ITS FALSE NEIGHBOUR: 'it returns false'. Refute it at one input. -/
def matchSpansWrong : ChangeSpec := { name := "matchSpans", fn := fun _ => fun
  | [d1, d2] => { results := [.lit (.bool false)], args := [d1, d2] }
  | _ => none }
def MatchSpansWrongFalsely : Prop := matchSpansRow.holds Try.pinned (OpenSpec.ofChange matchSpansWrong)

/-- 'dragomanlaw06.MatchJoins': WHATEVER THE INPUT: true; the input reads as it did. -/
def matchJoinsSpec : ChangeSpec := { name := "matchJoins", fn := fun _ => fun
  | [d] => { results := [.lit (.bool true)], args := [d] }
  | _ => none }
def matchJoinsRow : OpenClaim := { program := "ytmhkofgappbpjaa", sum := "ddf860c6aa3bbf01901b365f5224d7e610bf02a99937606aecb19c5b207845e6", func := "dragoman/dragomanlaw06.MatchJoins", spec := "matchJoins", unfollowed := true, recurses := true, apart := false }
def MatchJoinsSaid : Prop := matchJoinsRow.holds Try.pinned (OpenSpec.ofChange matchJoinsSpec)

/-- ITS FALSE NEIGHBOUR: 'it returns false'. Refute it at one input. -/
def matchJoinsWrong : ChangeSpec := { name := "matchJoins", fn := fun _ => fun
  | [d] => { results := [.lit (.bool false)], args := [d] }
  | _ => none }
def MatchJoinsWrongFalsely : Prop := matchJoinsRow.holds Try.pinned (OpenSpec.ofChange matchJoinsWrong)

/-- 'dragomanlaw06.MatchBytes': WHATEVER THE INPUT: true; the input reads as it did. -/
def matchBytesSpec : ChangeSpec := { name := "matchBytes", fn := fun _ => fun
  | [d1, d2, d3] => { results := [.lit (.bool true)], args := [d1, d2, d3] }
  | _ => none }
def matchBytesRow : OpenClaim := { program := "ytmhkofgappbpjaa", sum := "ddf860c6aa3bbf01901b365f5224d7e610bf02a99937606aecb19c5b207845e6", func := "dragoman/dragomanlaw06.MatchBytes", spec := "matchBytes", unfollowed := true, recurses := true, apart := false }
def MatchBytesSaid : Prop := matchBytesRow.holds Try.pinned (OpenSpec.ofChange matchBytesSpec)

/-- ITS FALSE NEIGHBOUR: 'it returns false'. Refute it at one input. -/
def matchBytesWrong : ChangeSpec := { name := "matchBytes", fn := fun _ => fun
  | [d1, d2, d3] => { results := [.lit (.bool false)], args := [d1, d2, d3] }
  | _ => none }
def MatchBytesWrongFalsely : Prop := matchBytesRow.holds Try.pinned (OpenSpec.ofChange matchBytesWrong)

/-- 'dragomanlaw06.MatchLits': WHATEVER THE INPUT: true; the input reads as it did. -/
def matchLitsSpec : ChangeSpec := { name := "matchLits", fn := fun _ => fun
  | [d1, d2, d3] => { results := [.lit (.bool true)], args := [d1, d2, d3] }
  | _ => none }
def matchLitsRow : OpenClaim := { program := "ytmhkofgappbpjaa", sum := "ddf860c6aa3bbf01901b365f5224d7e610bf02a99937606aecb19c5b207845e6", func := "dragoman/dragomanlaw06.MatchLits", spec := "matchLits", unfollowed := true, recurses := true, apart := false }
def MatchLitsSaid : Prop := matchLitsRow.holds Try.pinned (OpenSpec.ofChange matchLitsSpec)

/-- ITS FALSE NEIGHBOUR: 'it returns false'. Refute it at one input. -/
def matchLitsWrong : ChangeSpec := { name := "matchLits", fn := fun _ => fun
  | [d1, d2, d3] => { results := [.lit (.bool false)], args := [d1, d2, d3] }
  | _ => none }
def MatchLitsWrongFalsely : Prop := matchLitsRow.holds Try.pinned (OpenSpec.ofChange matchLitsWrong)

/-- 'dragomanlaw06.MatchStars': WHATEVER THE INPUT: true; the input reads as it did. -/
def matchStarsSpec : ChangeSpec := { name := "matchStars", fn := fun _ => fun
  | [d1, d2, d3] => { results := [.lit (.bool true)], args := [d1, d2, d3] }
  | _ => none }
def matchStarsRow : OpenClaim := { program := "ytmhkofgappbpjaa", sum := "ddf860c6aa3bbf01901b365f5224d7e610bf02a99937606aecb19c5b207845e6", func := "dragoman/dragomanlaw06.MatchStars", spec := "matchStars", unfollowed := true, recurses := true, apart := false }
def MatchStarsSaid : Prop := matchStarsRow.holds Try.pinned (OpenSpec.ofChange matchStarsSpec)

/-- ITS FALSE NEIGHBOUR: 'it returns false'. Refute it at one input. -/
def matchStarsWrong : ChangeSpec := { name := "matchStars", fn := fun _ => fun
  | [d1, d2, d3] => { results := [.lit (.bool false)], args := [d1, d2, d3] }
  | _ => none }
def MatchStarsWrongFalsely : Prop := matchStarsRow.holds Try.pinned (OpenSpec.ofChange matchStarsWrong)

/-- 'dragomanlaw06.MatchApart': WHATEVER THE INPUT: true; the input reads as it did. -/
def matchApartSpec : ChangeSpec := { name := "matchApart", fn := fun _ => fun
  | [d1, d2] => { results := [.lit (.bool true)], args := [d1, d2] }
  | _ => none }
def matchApartRow : OpenClaim := { program := "ytmhkofgappbpjaa", sum := "ddf860c6aa3bbf01901b365f5224d7e610bf02a99937606aecb19c5b207845e6", func := "dragoman/dragomanlaw06.MatchApart", spec := "matchApart", unfollowed := true, recurses := true, apart := false }
def MatchApartSaid : Prop := matchApartRow.holds Try.pinned (OpenSpec.ofChange matchApartSpec)

/-- ITS FALSE NEIGHBOUR: 'it returns false'. Refute it at one input. -/
def matchApartWrong : ChangeSpec := { name := "matchApart", fn := fun _ => fun
  | [d1, d2] => { results := [.lit (.bool false)], args := [d1, d2] }
  | _ => none }
def MatchApartWrongFalsely : Prop := matchApartRow.holds Try.pinned (OpenSpec.ofChange matchApartWrong)

/- THE SECOND FORM. 'bulk': how many values and letters a reading holds, each counted each time it is reached (what is shared counts as often as it is met; a slice's spare places count too). A statement '..UptoSaid' is the law's where the arguments, and the package variables that the reading takes, are together of bulk at most 1048576: NARROWER than '..Said'. Prove '..Said' where nothing that the law and all that it calls make is longer than what came in: it says more and counts as full. Else prove '..UptoSaid'. A law counts once. -/
mutual
def uptoBulk {H : Type} : DataW H → Nat
  | .lit (.string bytes) => bytes.length + 1
  | .lit _ => 1
  | .nil => 1
  | .ptr d => uptoBulk d + 1
  | .slice elems spare => uptoBulkAll elems + uptoBulkAll spare + 1
  | .agg parts => uptoBulkAll parts + 1
  | .iface _ d => uptoBulk d + 1
  | .map entries => uptoBulkEntries entries + 1
  | .held _ => 1
def uptoBulkAll {H : Type} : List (DataW H) → Nat
  | [] => 0
  | d :: r => uptoBulk d + uptoBulkAll r
def uptoBulkEntries {H : Type} : List (Lit × DataW H) → Nat
  | [] => 0
  | x :: r => uptoBulkEntry x + uptoBulkEntries r
def uptoBulkEntry {H : Type} : Lit × DataW H → Nat
  | (.string bytes, d) => bytes.length + uptoBulk d + 1
  | (_, d) => uptoBulk d + 1
 end
def uptoSmall : (H : Type) → List (DataW H) → Bool := fun _ ds => decide (uptoBulkAll ds ≤ 1048576)
def OpenSpec.upto (s : _root_.Go.ChangeSpec) : _root_.Go.OpenSpec := { _root_.Go.OpenSpec.ofChange s with cond := some uptoSmall }

/-- 'dragomanlaw06.MatchSpans', WHERE WHAT IT READS IS OF BULK AT MOST 1048576: true; the input reads as it did. -/
def matchSpansUptoRow : OpenClaim := { program := "ytmhkofgappbpjaa", sum := "ddf860c6aa3bbf01901b365f5224d7e610bf02a99937606aecb19c5b207845e6", func := "dragoman/dragomanlaw06.MatchSpans", spec := "matchSpans", unfollowed := true, recurses := true, apart := false, narrowed := true }
def MatchSpansUptoSaid : Prop := matchSpansUptoRow.holds Try.pinned (OpenSpec.upto matchSpansSpec)

/-- 'dragomanlaw06.MatchJoins', WHERE WHAT IT READS IS OF BULK AT MOST 1048576: true; the input reads as it did. -/
def matchJoinsUptoRow : OpenClaim := { program := "ytmhkofgappbpjaa", sum := "ddf860c6aa3bbf01901b365f5224d7e610bf02a99937606aecb19c5b207845e6", func := "dragoman/dragomanlaw06.MatchJoins", spec := "matchJoins", unfollowed := true, recurses := true, apart := false, narrowed := true }
def MatchJoinsUptoSaid : Prop := matchJoinsUptoRow.holds Try.pinned (OpenSpec.upto matchJoinsSpec)

/-- 'dragomanlaw06.MatchBytes', WHERE WHAT IT READS IS OF BULK AT MOST 1048576: true; the input reads as it did. -/
def matchBytesUptoRow : OpenClaim := { program := "ytmhkofgappbpjaa", sum := "ddf860c6aa3bbf01901b365f5224d7e610bf02a99937606aecb19c5b207845e6", func := "dragoman/dragomanlaw06.MatchBytes", spec := "matchBytes", unfollowed := true, recurses := true, apart := false, narrowed := true }
def MatchBytesUptoSaid : Prop := matchBytesUptoRow.holds Try.pinned (OpenSpec.upto matchBytesSpec)

/-- 'dragomanlaw06.MatchLits', WHERE WHAT IT READS IS OF BULK AT MOST 1048576: true; the input reads as it did. -/
def matchLitsUptoRow : OpenClaim := { program := "ytmhkofgappbpjaa", sum := "ddf860c6aa3bbf01901b365f5224d7e610bf02a99937606aecb19c5b207845e6", func := "dragoman/dragomanlaw06.MatchLits", spec := "matchLits", unfollowed := true, recurses := true, apart := false, narrowed := true }
def MatchLitsUptoSaid : Prop := matchLitsUptoRow.holds Try.pinned (OpenSpec.upto matchLitsSpec)

/-- 'dragomanlaw06.MatchStars', WHERE WHAT IT READS IS OF BULK AT MOST 1048576: true; the input reads as it did. -/
def matchStarsUptoRow : OpenClaim := { program := "ytmhkofgappbpjaa", sum := "ddf860c6aa3bbf01901b365f5224d7e610bf02a99937606aecb19c5b207845e6", func := "dragoman/dragomanlaw06.MatchStars", spec := "matchStars", unfollowed := true, recurses := true, apart := false, narrowed := true }
def MatchStarsUptoSaid : Prop := matchStarsUptoRow.holds Try.pinned (OpenSpec.upto matchStarsSpec)

/-- 'dragomanlaw06.MatchApart', WHERE WHAT IT READS IS OF BULK AT MOST 1048576: true; the input reads as it did. -/
def matchApartUptoRow : OpenClaim := { program := "ytmhkofgappbpjaa", sum := "ddf860c6aa3bbf01901b365f5224d7e610bf02a99937606aecb19c5b207845e6", func := "dragoman/dragomanlaw06.MatchApart", spec := "matchApart", unfollowed := true, recurses := true, apart := false, narrowed := true }
def MatchApartUptoSaid : Prop := matchApartUptoRow.holds Try.pinned (OpenSpec.upto matchApartSpec)

end Rows
end Go.Proofs.Ytmhkofgappbpjaa
