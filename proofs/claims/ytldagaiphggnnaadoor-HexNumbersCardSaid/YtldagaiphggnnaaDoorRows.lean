/-
  NARROWER THAN 'FOR EVERY INPUT', by the rows' own cells (each row's printed sentence says how): HexNames: laid · HexDigits: laid · HexTells: laid · HexBack: laid · HexRows: laid · HexNumbers: laid · HexFigures: laid.
  DERIVED. THE GIVEN ROWS OF THIS SEAT. 7 by the template 'for every input the law returns true; each argument reads behind the call as it read before'; 0 by the template 'total and deterministic' (their statements: YtldagaiphggnnaaDoorTotals.lean).
  GIVEN WITH THE SEED: the statements are not yours to turn. If you find one false, say at which input.
  Laid BY PROGRAM, IN A SANDBOX (cutbox-rows.mjs): the forced cells as the released guide's own fill.sh prints them over the translation 241fc7775c15f8b1… (all of the seat's roots in one cut). By AI agents, Wed Nov 11 2026. No macro, syntax, notation, axiom, sorry.
-/
import Derived.Test.YtldagaiphggnnaaDoorChecked
import GoSem.Claim
import GoSem.ClaimJoined
import GoSem.ClaimMapViews
import Derived.JoinedTies
import Derived.KernelRfl
namespace Go.Proofs.YtldagaiphggnnaaDoor
/- THE CELL 'sum', in the pinned program and in every row, IS THE sha256 OF THE DUMP (.gsa) THAT YtldagaiphggnnaaDoorProg.lean LOADS. Nothing in Lean hashes anything: it is a label: what it is worth is what the hold of that sum in a sandbox is worth. -/
noncomputable def Tryd.pinned : Pinned := { name := "ytldagaiphggnnaadoor", sum := "241fc7775c15f8b1bb72e30b5e085b2939f38340f273e118c1fbbdf160bf5e43", checked := Tryd.checked }
namespace Rows
def none {H : Type} : Left H := { results := [], args := [] }

/- WHAT THE LISTED PACKAGE-LEVEL VARIABLES READ AS WHEN THE CALL BEGINS. Each datum BY PROGRAM (the guide's laid-datum.mjs) off the statement by which the dump's own 'gosem.cut.vars' lays the variable. In a bare row this is a premise. The card (YtldagaiphggnnaaDoorCards.lean) ties it to the program's text. -/
def laid_math_bits_deBruijn32tab {H : Type} : DataW H := .agg [.lit (.int .u8 0), .lit (.int .u8 1), .lit (.int .u8 28), .lit (.int .u8 2), .lit (.int .u8 29), .lit (.int .u8 14), .lit (.int .u8 24), .lit (.int .u8 3), .lit (.int .u8 30), .lit (.int .u8 22), .lit (.int .u8 20), .lit (.int .u8 15), .lit (.int .u8 25), .lit (.int .u8 17), .lit (.int .u8 4), .lit (.int .u8 8), .lit (.int .u8 31), .lit (.int .u8 27), .lit (.int .u8 13), .lit (.int .u8 23), .lit (.int .u8 21), .lit (.int .u8 19), .lit (.int .u8 16), .lit (.int .u8 7), .lit (.int .u8 26), .lit (.int .u8 12), .lit (.int .u8 18), .lit (.int .u8 6), .lit (.int .u8 11), .lit (.int .u8 5), .lit (.int .u8 10), .lit (.int .u8 9)]
def laid_math_bits_deBruijn64tab {H : Type} : DataW H := .agg [.lit (.int .u8 0), .lit (.int .u8 1), .lit (.int .u8 56), .lit (.int .u8 2), .lit (.int .u8 57), .lit (.int .u8 49), .lit (.int .u8 28), .lit (.int .u8 3), .lit (.int .u8 61), .lit (.int .u8 58), .lit (.int .u8 42), .lit (.int .u8 50), .lit (.int .u8 38), .lit (.int .u8 29), .lit (.int .u8 17), .lit (.int .u8 4), .lit (.int .u8 62), .lit (.int .u8 47), .lit (.int .u8 59), .lit (.int .u8 36), .lit (.int .u8 45), .lit (.int .u8 43), .lit (.int .u8 51), .lit (.int .u8 22), .lit (.int .u8 53), .lit (.int .u8 39), .lit (.int .u8 33), .lit (.int .u8 30), .lit (.int .u8 24), .lit (.int .u8 18), .lit (.int .u8 12), .lit (.int .u8 5), .lit (.int .u8 63), .lit (.int .u8 55), .lit (.int .u8 48), .lit (.int .u8 27), .lit (.int .u8 60), .lit (.int .u8 41), .lit (.int .u8 37), .lit (.int .u8 16), .lit (.int .u8 46), .lit (.int .u8 35), .lit (.int .u8 44), .lit (.int .u8 21), .lit (.int .u8 52), .lit (.int .u8 32), .lit (.int .u8 23), .lit (.int .u8 11), .lit (.int .u8 54), .lit (.int .u8 26), .lit (.int .u8 40), .lit (.int .u8 15), .lit (.int .u8 34), .lit (.int .u8 20), .lit (.int .u8 31), .lit (.int .u8 10), .lit (.int .u8 25), .lit (.int .u8 14), .lit (.int .u8 19), .lit (.int .u8 9), .lit (.int .u8 13), .lit (.int .u8 8), .lit (.int .u8 7), .lit (.int .u8 6)]
def laid_internal_strconv_uint64pow10 {H : Type} : DataW H := .agg [.lit (.int .u64 1), .lit (.int .u64 10), .lit (.int .u64 100), .lit (.int .u64 1000), .lit (.int .u64 10000), .lit (.int .u64 100000), .lit (.int .u64 1000000), .lit (.int .u64 10000000), .lit (.int .u64 100000000), .lit (.int .u64 1000000000), .lit (.int .u64 10000000000), .lit (.int .u64 100000000000), .lit (.int .u64 1000000000000), .lit (.int .u64 10000000000000), .lit (.int .u64 100000000000000), .lit (.int .u64 1000000000000000), .lit (.int .u64 10000000000000000), .lit (.int .u64 100000000000000000), .lit (.int .u64 1000000000000000000), .lit (.int .u64 10000000000000000000)]
def laid_strconv_ErrRange {H : Type} : DataW H := .iface "*errors.errorString" (.ptr (.agg [.lit (.string [118, 97, 108, 117, 101, 32, 111, 117, 116, 32, 111, 102, 32, 114, 97, 110, 103, 101])]))
def laid_strconv_ErrSyntax {H : Type} : DataW H := .iface "*errors.errorString" (.ptr (.agg [.lit (.string [105, 110, 118, 97, 108, 105, 100, 32, 115, 121, 110, 116, 97, 120])]))

/-- 'dragomanlaw01.HexNames': WHATEVER THE INPUT: true; the input reads as it did. -/
def hexNamesSpec : ChangeSpec := { name := "hexNames", fn := fun _ => fun
  | [d1, d2] => { results := [.lit (.bool true)], args := [d1, d2] }
  | _ => none }
def hexNamesRow : OpenClaim := { program := "ytldagaiphggnnaadoor", sum := "241fc7775c15f8b1bb72e30b5e085b2939f38340f273e118c1fbbdf160bf5e43", func := "dragoman/dragomanlaw01.HexNames", spec := "hexNames", unfollowed := true, recurses := true, named := ["internal/strconv.uint64pow10", "math/bits.deBruijn32tab", "math/bits.deBruijn64tab"], apart := false, laid := [("math/bits.deBruijn32tab", laid_math_bits_deBruijn32tab), ("math/bits.deBruijn64tab", laid_math_bits_deBruijn64tab), ("internal/strconv.uint64pow10", laid_internal_strconv_uint64pow10)] }
def HexNamesSaid : Prop := hexNamesRow.holds Tryd.pinned (OpenSpec.ofChange hexNamesSpec)

/-- ITS FALSE NEIGHBOUR: 'it returns false'. Refute it at one input. -/
def hexNamesWrong : ChangeSpec := { name := "hexNames", fn := fun _ => fun
  | [d1, d2] => { results := [.lit (.bool false)], args := [d1, d2] }
  | _ => none }
def HexNamesWrongFalsely : Prop := hexNamesRow.holds Tryd.pinned (OpenSpec.ofChange hexNamesWrong)

/-- 'dragomanlaw01.HexDigits': WHATEVER THE INPUT: true; the input reads as it did. -/
def hexDigitsSpec : ChangeSpec := { name := "hexDigits", fn := fun _ => fun
  | [d] => { results := [.lit (.bool true)], args := [d] }
  | _ => none }
def hexDigitsRow : OpenClaim := { program := "ytldagaiphggnnaadoor", sum := "241fc7775c15f8b1bb72e30b5e085b2939f38340f273e118c1fbbdf160bf5e43", func := "dragoman/dragomanlaw01.HexDigits", spec := "hexDigits", unfollowed := true, recurses := true, named := ["internal/strconv.uint64pow10", "math/bits.deBruijn32tab", "math/bits.deBruijn64tab"], apart := false, laid := [("math/bits.deBruijn32tab", laid_math_bits_deBruijn32tab), ("math/bits.deBruijn64tab", laid_math_bits_deBruijn64tab), ("internal/strconv.uint64pow10", laid_internal_strconv_uint64pow10)] }
def HexDigitsSaid : Prop := hexDigitsRow.holds Tryd.pinned (OpenSpec.ofChange hexDigitsSpec)

/-- ITS FALSE NEIGHBOUR: 'it returns false'. Refute it at one input. -/
def hexDigitsWrong : ChangeSpec := { name := "hexDigits", fn := fun _ => fun
  | [d] => { results := [.lit (.bool false)], args := [d] }
  | _ => none }
def HexDigitsWrongFalsely : Prop := hexDigitsRow.holds Tryd.pinned (OpenSpec.ofChange hexDigitsWrong)

/-- 'dragomanlaw01.HexTells': WHATEVER THE INPUT: true; the input reads as it did. -/
def hexTellsSpec : ChangeSpec := { name := "hexTells", fn := fun _ => fun
  | [d1, d2] => { results := [.lit (.bool true)], args := [d1, d2] }
  | _ => none }
def hexTellsRow : OpenClaim := { program := "ytldagaiphggnnaadoor", sum := "241fc7775c15f8b1bb72e30b5e085b2939f38340f273e118c1fbbdf160bf5e43", func := "dragoman/dragomanlaw01.HexTells", spec := "hexTells", unfollowed := true, recurses := true, named := ["internal/strconv.uint64pow10", "math/bits.deBruijn32tab", "math/bits.deBruijn64tab"], apart := false, laid := [("math/bits.deBruijn32tab", laid_math_bits_deBruijn32tab), ("math/bits.deBruijn64tab", laid_math_bits_deBruijn64tab), ("internal/strconv.uint64pow10", laid_internal_strconv_uint64pow10)] }
def HexTellsSaid : Prop := hexTellsRow.holds Tryd.pinned (OpenSpec.ofChange hexTellsSpec)

/-- ITS FALSE NEIGHBOUR: 'it returns false'. Refute it at one input. -/
def hexTellsWrong : ChangeSpec := { name := "hexTells", fn := fun _ => fun
  | [d1, d2] => { results := [.lit (.bool false)], args := [d1, d2] }
  | _ => none }
def HexTellsWrongFalsely : Prop := hexTellsRow.holds Tryd.pinned (OpenSpec.ofChange hexTellsWrong)

/-- 'dragomanlaw01.HexBack': WHATEVER THE INPUT: true; the input reads as it did. -/
def hexBackSpec : ChangeSpec := { name := "hexBack", fn := fun _ => fun
  | [d1, d2] => { results := [.lit (.bool true)], args := [d1, d2] }
  | _ => none }
def hexBackRow : OpenClaim := { program := "ytldagaiphggnnaadoor", sum := "241fc7775c15f8b1bb72e30b5e085b2939f38340f273e118c1fbbdf160bf5e43", func := "dragoman/dragomanlaw01.HexBack", spec := "hexBack", unfollowed := true, recurses := true, named := ["internal/strconv.uint64pow10", "math/bits.deBruijn32tab", "math/bits.deBruijn64tab"], apart := false, laid := [("math/bits.deBruijn32tab", laid_math_bits_deBruijn32tab), ("math/bits.deBruijn64tab", laid_math_bits_deBruijn64tab), ("internal/strconv.uint64pow10", laid_internal_strconv_uint64pow10)] }
def HexBackSaid : Prop := hexBackRow.holds Tryd.pinned (OpenSpec.ofChange hexBackSpec)

/-- ITS FALSE NEIGHBOUR: 'it returns false'. Refute it at one input. -/
def hexBackWrong : ChangeSpec := { name := "hexBack", fn := fun _ => fun
  | [d1, d2] => { results := [.lit (.bool false)], args := [d1, d2] }
  | _ => none }
def HexBackWrongFalsely : Prop := hexBackRow.holds Tryd.pinned (OpenSpec.ofChange hexBackWrong)

/-- 'dragomanlaw01.HexRows': WHATEVER THE INPUT: true; the input reads as it did. -/
def hexRowsSpec : ChangeSpec := { name := "hexRows", fn := fun _ => fun
  | [d1, d2] => { results := [.lit (.bool true)], args := [d1, d2] }
  | _ => none }
def hexRowsRow : OpenClaim := { program := "ytldagaiphggnnaadoor", sum := "241fc7775c15f8b1bb72e30b5e085b2939f38340f273e118c1fbbdf160bf5e43", func := "dragoman/dragomanlaw01.HexRows", spec := "hexRows", unfollowed := true, recurses := true, named := ["internal/strconv.uint64pow10", "math/bits.deBruijn32tab", "math/bits.deBruijn64tab"], apart := false, laid := [("math/bits.deBruijn32tab", laid_math_bits_deBruijn32tab), ("math/bits.deBruijn64tab", laid_math_bits_deBruijn64tab), ("internal/strconv.uint64pow10", laid_internal_strconv_uint64pow10)] }
def HexRowsSaid : Prop := hexRowsRow.holds Tryd.pinned (OpenSpec.ofChange hexRowsSpec)

/-- ITS FALSE NEIGHBOUR: 'it returns false'. Refute it at one input. -/
def hexRowsWrong : ChangeSpec := { name := "hexRows", fn := fun _ => fun
  | [d1, d2] => { results := [.lit (.bool false)], args := [d1, d2] }
  | _ => none }
def HexRowsWrongFalsely : Prop := hexRowsRow.holds Tryd.pinned (OpenSpec.ofChange hexRowsWrong)

/-- 'dragomanlaw01.HexNumbers': WHATEVER THE INPUT: true; the input reads as it did. -/
def hexNumbersSpec : ChangeSpec := { name := "hexNumbers", fn := fun _ => fun
  | [d1, d2] => { results := [.lit (.bool true)], args := [d1, d2] }
  | _ => none }
def hexNumbersRow : OpenClaim := { program := "ytldagaiphggnnaadoor", sum := "241fc7775c15f8b1bb72e30b5e085b2939f38340f273e118c1fbbdf160bf5e43", func := "dragoman/dragomanlaw01.HexNumbers", spec := "hexNumbers", unfollowed := true, recurses := true, named := ["internal/strconv.uint64pow10", "math/bits.deBruijn32tab", "math/bits.deBruijn64tab", "strconv.ErrSyntax", "strconv.ErrRange"], apart := false, laid := [("math/bits.deBruijn32tab", laid_math_bits_deBruijn32tab), ("math/bits.deBruijn64tab", laid_math_bits_deBruijn64tab), ("internal/strconv.uint64pow10", laid_internal_strconv_uint64pow10), ("strconv.ErrRange", laid_strconv_ErrRange), ("strconv.ErrSyntax", laid_strconv_ErrSyntax)] }
def HexNumbersSaid : Prop := hexNumbersRow.holds Tryd.pinned (OpenSpec.ofChange hexNumbersSpec)

/-- ITS FALSE NEIGHBOUR: 'it returns false'. Refute it at one input. -/
def hexNumbersWrong : ChangeSpec := { name := "hexNumbers", fn := fun _ => fun
  | [d1, d2] => { results := [.lit (.bool false)], args := [d1, d2] }
  | _ => none }
def HexNumbersWrongFalsely : Prop := hexNumbersRow.holds Tryd.pinned (OpenSpec.ofChange hexNumbersWrong)

/-- 'dragomanlaw01.HexFigures': WHATEVER THE INPUT: true; the input reads as it did. -/
def hexFiguresSpec : ChangeSpec := { name := "hexFigures", fn := fun _ => fun
  | [d1, d2] => { results := [.lit (.bool true)], args := [d1, d2] }
  | _ => none }
def hexFiguresRow : OpenClaim := { program := "ytldagaiphggnnaadoor", sum := "241fc7775c15f8b1bb72e30b5e085b2939f38340f273e118c1fbbdf160bf5e43", func := "dragoman/dragomanlaw01.HexFigures", spec := "hexFigures", unfollowed := true, recurses := true, named := ["internal/strconv.uint64pow10", "math/bits.deBruijn32tab", "math/bits.deBruijn64tab", "strconv.ErrSyntax", "strconv.ErrRange"], apart := false, laid := [("math/bits.deBruijn32tab", laid_math_bits_deBruijn32tab), ("math/bits.deBruijn64tab", laid_math_bits_deBruijn64tab), ("internal/strconv.uint64pow10", laid_internal_strconv_uint64pow10), ("strconv.ErrRange", laid_strconv_ErrRange), ("strconv.ErrSyntax", laid_strconv_ErrSyntax)] }
def HexFiguresSaid : Prop := hexFiguresRow.holds Tryd.pinned (OpenSpec.ofChange hexFiguresSpec)

/-- ITS FALSE NEIGHBOUR: 'it returns false'. Refute it at one input. -/
def hexFiguresWrong : ChangeSpec := { name := "hexFigures", fn := fun _ => fun
  | [d1, d2] => { results := [.lit (.bool false)], args := [d1, d2] }
  | _ => none }
def HexFiguresWrongFalsely : Prop := hexFiguresRow.holds Tryd.pinned (OpenSpec.ofChange hexFiguresWrong)

/- THE SECOND FORM. 'bulk': how many values and letters a reading holds, each counted each time it is reached (what is shared counts as often as it is met; a slice's spare places count too). A statement '..UptoSaid' is the law's where the arguments, and the package variables that the reading takes, are together of bulk at most 1048576: NARROWER than '..Said'. Prove '..Said' where nothing that the law and all that it calls make is longer than what came in: it says more and counts as full. Else prove '..UptoSaid'. A law counts once. -/
mutual
def uptoBulk {H : Type} : DataW H → Nat
  | .lit (.string bytes) => bytes.length + 1
  | .lit _ => 1
  | .nil => 1
  | .ptr d => uptoBulk d + 1
  | .slice elems spare => uptoBulkAll elems + uptoBulkAll spare + 1
  | .agg parts => uptoBulkAll parts + 1
  | .iface _ d => uptoBulk d + 1
  | .map entries => uptoBulkEntries entries + 1
  | .held _ => 1
def uptoBulkAll {H : Type} : List (DataW H) → Nat
  | [] => 0
  | d :: r => uptoBulk d + uptoBulkAll r
def uptoBulkEntries {H : Type} : List (Lit × DataW H) → Nat
  | [] => 0
  | x :: r => uptoBulkEntry x + uptoBulkEntries r
def uptoBulkEntry {H : Type} : Lit × DataW H → Nat
  | (.string bytes, d) => bytes.length + uptoBulk d + 1
  | (_, d) => uptoBulk d + 1
 end
def uptoSmall : (H : Type) → List (DataW H) → Bool := fun _ ds => decide (uptoBulkAll ds ≤ 1048576)
def OpenSpec.upto (s : _root_.Go.ChangeSpec) : _root_.Go.OpenSpec := { _root_.Go.OpenSpec.ofChange s with cond := some uptoSmall }

/-- 'dragomanlaw01.HexNames', WHERE WHAT IT READS IS OF BULK AT MOST 1048576: true; the input reads as it did. -/
def hexNamesUptoRow : OpenClaim := { program := "ytldagaiphggnnaadoor", sum := "241fc7775c15f8b1bb72e30b5e085b2939f38340f273e118c1fbbdf160bf5e43", func := "dragoman/dragomanlaw01.HexNames", spec := "hexNames", unfollowed := true, recurses := true, named := ["internal/strconv.uint64pow10", "math/bits.deBruijn32tab", "math/bits.deBruijn64tab"], apart := false, laid := [("math/bits.deBruijn32tab", laid_math_bits_deBruijn32tab), ("math/bits.deBruijn64tab", laid_math_bits_deBruijn64tab), ("internal/strconv.uint64pow10", laid_internal_strconv_uint64pow10)], narrowed := true }
def HexNamesUptoSaid : Prop := hexNamesUptoRow.holds Tryd.pinned (OpenSpec.upto hexNamesSpec)

/-- 'dragomanlaw01.HexDigits', WHERE WHAT IT READS IS OF BULK AT MOST 1048576: true; the input reads as it did. -/
def hexDigitsUptoRow : OpenClaim := { program := "ytldagaiphggnnaadoor", sum := "241fc7775c15f8b1bb72e30b5e085b2939f38340f273e118c1fbbdf160bf5e43", func := "dragoman/dragomanlaw01.HexDigits", spec := "hexDigits", unfollowed := true, recurses := true, named := ["internal/strconv.uint64pow10", "math/bits.deBruijn32tab", "math/bits.deBruijn64tab"], apart := false, laid := [("math/bits.deBruijn32tab", laid_math_bits_deBruijn32tab), ("math/bits.deBruijn64tab", laid_math_bits_deBruijn64tab), ("internal/strconv.uint64pow10", laid_internal_strconv_uint64pow10)], narrowed := true }
def HexDigitsUptoSaid : Prop := hexDigitsUptoRow.holds Tryd.pinned (OpenSpec.upto hexDigitsSpec)

/-- 'dragomanlaw01.HexTells', WHERE WHAT IT READS IS OF BULK AT MOST 1048576: true; the input reads as it did. -/
def hexTellsUptoRow : OpenClaim := { program := "ytldagaiphggnnaadoor", sum := "241fc7775c15f8b1bb72e30b5e085b2939f38340f273e118c1fbbdf160bf5e43", func := "dragoman/dragomanlaw01.HexTells", spec := "hexTells", unfollowed := true, recurses := true, named := ["internal/strconv.uint64pow10", "math/bits.deBruijn32tab", "math/bits.deBruijn64tab"], apart := false, laid := [("math/bits.deBruijn32tab", laid_math_bits_deBruijn32tab), ("math/bits.deBruijn64tab", laid_math_bits_deBruijn64tab), ("internal/strconv.uint64pow10", laid_internal_strconv_uint64pow10)], narrowed := true }
def HexTellsUptoSaid : Prop := hexTellsUptoRow.holds Tryd.pinned (OpenSpec.upto hexTellsSpec)

/-- 'dragomanlaw01.HexBack', WHERE WHAT IT READS IS OF BULK AT MOST 1048576: true; the input reads as it did. -/
def hexBackUptoRow : OpenClaim := { program := "ytldagaiphggnnaadoor", sum := "241fc7775c15f8b1bb72e30b5e085b2939f38340f273e118c1fbbdf160bf5e43", func := "dragoman/dragomanlaw01.HexBack", spec := "hexBack", unfollowed := true, recurses := true, named := ["internal/strconv.uint64pow10", "math/bits.deBruijn32tab", "math/bits.deBruijn64tab"], apart := false, laid := [("math/bits.deBruijn32tab", laid_math_bits_deBruijn32tab), ("math/bits.deBruijn64tab", laid_math_bits_deBruijn64tab), ("internal/strconv.uint64pow10", laid_internal_strconv_uint64pow10)], narrowed := true }
def HexBackUptoSaid : Prop := hexBackUptoRow.holds Tryd.pinned (OpenSpec.upto hexBackSpec)

/-- 'dragomanlaw01.HexRows', WHERE WHAT IT READS IS OF BULK AT MOST 1048576: true; the input reads as it did. -/
def hexRowsUptoRow : OpenClaim := { program := "ytldagaiphggnnaadoor", sum := "241fc7775c15f8b1bb72e30b5e085b2939f38340f273e118c1fbbdf160bf5e43", func := "dragoman/dragomanlaw01.HexRows", spec := "hexRows", unfollowed := true, recurses := true, named := ["internal/strconv.uint64pow10", "math/bits.deBruijn32tab", "math/bits.deBruijn64tab"], apart := false, laid := [("math/bits.deBruijn32tab", laid_math_bits_deBruijn32tab), ("math/bits.deBruijn64tab", laid_math_bits_deBruijn64tab), ("internal/strconv.uint64pow10", laid_internal_strconv_uint64pow10)], narrowed := true }
def HexRowsUptoSaid : Prop := hexRowsUptoRow.holds Tryd.pinned (OpenSpec.upto hexRowsSpec)

/-- 'dragomanlaw01.HexNumbers', WHERE WHAT IT READS IS OF BULK AT MOST 1048576: true; the input reads as it did. -/
def hexNumbersUptoRow : OpenClaim := { program := "ytldagaiphggnnaadoor", sum := "241fc7775c15f8b1bb72e30b5e085b2939f38340f273e118c1fbbdf160bf5e43", func := "dragoman/dragomanlaw01.HexNumbers", spec := "hexNumbers", unfollowed := true, recurses := true, named := ["internal/strconv.uint64pow10", "math/bits.deBruijn32tab", "math/bits.deBruijn64tab", "strconv.ErrSyntax", "strconv.ErrRange"], apart := false, laid := [("math/bits.deBruijn32tab", laid_math_bits_deBruijn32tab), ("math/bits.deBruijn64tab", laid_math_bits_deBruijn64tab), ("internal/strconv.uint64pow10", laid_internal_strconv_uint64pow10), ("strconv.ErrRange", laid_strconv_ErrRange), ("strconv.ErrSyntax", laid_strconv_ErrSyntax)], narrowed := true }
def HexNumbersUptoSaid : Prop := hexNumbersUptoRow.holds Tryd.pinned (OpenSpec.upto hexNumbersSpec)

/-- 'dragomanlaw01.HexFigures', WHERE WHAT IT READS IS OF BULK AT MOST 1048576: true; the input reads as it did. -/
def hexFiguresUptoRow : OpenClaim := { program := "ytldagaiphggnnaadoor", sum := "241fc7775c15f8b1bb72e30b5e085b2939f38340f273e118c1fbbdf160bf5e43", func := "dragoman/dragomanlaw01.HexFigures", spec := "hexFigures", unfollowed := true, recurses := true, named := ["internal/strconv.uint64pow10", "math/bits.deBruijn32tab", "math/bits.deBruijn64tab", "strconv.ErrSyntax", "strconv.ErrRange"], apart := false, laid := [("math/bits.deBruijn32tab", laid_math_bits_deBruijn32tab), ("math/bits.deBruijn64tab", laid_math_bits_deBruijn64tab), ("internal/strconv.uint64pow10", laid_internal_strconv_uint64pow10), ("strconv.ErrRange", laid_strconv_ErrRange), ("strconv.ErrSyntax", laid_strconv_ErrSyntax)], narrowed := true }
def HexFiguresUptoSaid : Prop := hexFiguresUptoRow.holds Tryd.pinned (OpenSpec.upto hexFiguresSpec)

end Rows
end Go.Proofs.YtldagaiphggnnaaDoor
