/- Texts of this seat, put together: each part tells above it what it proves and on what conditions. -/
import Derived.Test.YthnfmpieoondaaaKPA
import Derived.Test.YthnfmpieoondaaaKOP
import Derived.Laws.BitsLemmas
/- A right tree: each node but the root is one's kid, and of one alone; match.parents tells whose. -/
section
set_option linter.unusedVariables false
set_option linter.unusedSimpArgs false
namespace Go.Proofs.Ythnfmpieoondaaa.P
open Go.RowKit Go.Proofs.YthnfmpieoondaaaW.PrintWords Go.Proofs.Ythnfmpieoondaaa.QA Go.Proofs.Ythnfmpieoondaaa.G Go.Proofs.Ythnfmpieoondaaa.Mt
/-- The nodes from b to i are one tree. -/
inductive SubT (l : List S55) : Nat → Nat → Prop
  | leaf {i : Nat} : ((rd_T55 l i).f0 = 0 ∨ (rd_T55 l i).f0 = 1 ∨ (rd_T55 l i).f0 = 7 ∨ (rd_T55 l i).f0 = 8) → SubT l i i
  | un {b i : Nat} : 1 ≤ i → 4 ≤ (rd_T55 l i).f0 → (rd_T55 l i).f0 ≤ 6 → (rd_T55 l i).f2.f0 = (i : Int) - 1 → SubT l b (i - 1) → SubT l b i
  | bin {b c i : Nat} : 1 ≤ i → ((rd_T55 l i).f0 = 2 ∨ (rd_T55 l i).f0 = 3) → SubT l c (i - 1) → 1 ≤ c → (rd_T55 l i).f2.f0 = (c : Int) - 1 → (rd_T55 l i).f2.f1 = (i : Int) - 1 → SubT l b (c - 1) → SubT l b i
end Go.Proofs.Ythnfmpieoondaaa.P
end

/- What few says; where a right tree ends. -/
section
set_option linter.unusedVariables false
set_option linter.unusedSimpArgs false
namespace Go.Proofs.Ythnfmpieoondaaa.P
open Go.RowKit Go.Proofs.YthnfmpieoondaaaW.PrintWords Go.Proofs.Ythnfmpieoondaaa.QA Go.Proofs.Ythnfmpieoondaaa.G Go.Proofs.Ythnfmpieoondaaa.Mt
/-- A right tree: all that is wanted of it. -/
structure Rt (l : List S55) (s : ByteArray) : Prop where
  pos : 0 < l.length
  sub : SubT l 0 (l.length - 1)
  ok : ∀ x, x ∈ l → Ok55 x
  big : l.length * (s.size + 1) ≤ 10000
end Go.Proofs.Ythnfmpieoondaaa.P
end
