/- Texts of this seat, put together: each part tells above it what it proves and on what conditions. -/
import Derived.Test.YthnfmpieoondaaaKGI
import Derived.Test.YthnfmpieoondaaaKFR
/- Trees of regular expressions: where one stands, said by its parts, and by steps from node to node; both are the same. -/
section
set_option autoImplicit false
namespace Go.Proofs.Ythnfmpieoondaaa.Mt
structure Nd where
  kind : Int
  mem : Nat → Bool
  k0 : Nat
  k1 : Nat
section
variable (nd : Nat → Nd) (L : Nat) (sb : Nat → Nat)
/-- Node i stands from a to b. -/
inductive M : Nat → Nat → Nat → Prop
  | none {i a : Nat} : (nd i).kind = 0 → M i a a
  | set {i a : Nat} : (nd i).kind = 1 → a < L → (nd i).mem (sb a) = true → M i a (a + 1)
  | cat {i a c b : Nat} : (nd i).kind = 2 → M (nd i).k0 a c → M (nd i).k1 c b → M i a b
  | alt0 {i a b : Nat} : (nd i).kind = 3 → M (nd i).k0 a b → M i a b
  | alt1 {i a b : Nat} : (nd i).kind = 3 → M (nd i).k1 a b → M i a b
  | star0 {i a : Nat} : (nd i).kind = 4 → M i a a
  | star1 {i a c b : Nat} : (nd i).kind = 4 → M (nd i).k0 a c → M i c b → M i a b
  | plus0 {i a b : Nat} : (nd i).kind = 5 → M (nd i).k0 a b → M i a b
  | plus1 {i a c b : Nat} : (nd i).kind = 5 → M (nd i).k0 a c → M i c b → M i a b
  | opt0 {i a : Nat} : (nd i).kind = 6 → M i a a
  | opt1 {i a b : Nat} : (nd i).kind = 6 → M (nd i).k0 a b → M i a b
  | bgn {i : Nat} : (nd i).kind = 7 → M i 0 0
  | fin {i : Nat} : (nd i).kind = 8 → M i L L
/-- A node that begins, or has ended, at a place. -/
structure St where
  node : Nat
  ended : Bool
  at_ : Nat
variable {nd L sb}
inductive Steps (mv : St → List St) : St → St → Prop
  | refl (x : St) : Steps mv x x
  | step {x y z : St} : y ∈ mv x → Steps mv y z → Steps mv x z
theorem Steps.trans {mv : St → List St} {x y z : St} (h : Steps mv x y) (k : Steps mv y z) : Steps mv x z := by
  induction h with
  | refl => exact k
  | step h _ ih => exact .step h (ih k)
theorem Steps.one {mv : St → List St} {x y : St} (h : y ∈ mv x) : Steps mv x y := .step h (.refl y)
theorem Steps.first {mv : St → List St} {x x' z : St} (h : Steps mv x z) (hne : x ≠ z) (hs : ∀ y, y ∈ mv x → y ∈ mv x') : Steps mv x' z := by
  cases h with
  | refl => exact absurd rfl hne
  | step h k => exact .step (hs _ h) k
variable {n : Nat} {up : Nat → Int}
/-- From i, that has ended at c, the root comes to end at b. -/
inductive C (nd : Nat → Nd) (L : Nat) (sb : Nat → Nat) (up : Nat → Int) : Nat → Nat → Nat → Prop
  | root {i b : Nat} : up i < 0 → C nd L sb up i b b
  | alt {i p c b : Nat} : up i = (p : Nat) → ((nd p).kind = 3 ∨ (nd p).kind = 6) → C nd L sb up p c b → C nd L sb up i c b
  | cat0 {i p c d b : Nat} : up i = (p : Nat) → (nd p).kind = 2 → (nd p).k0 = i → M nd L sb (nd p).k1 c d → C nd L sb up p d b → C nd L sb up i c b
  | cat1 {i p c b : Nat} : up i = (p : Nat) → (nd p).kind = 2 → (nd p).k0 ≠ i → C nd L sb up p c b → C nd L sb up i c b
  | star {i p c b : Nat} : up i = (p : Nat) → ((nd p).kind = 4 ∨ (nd p).kind = 5) → C nd L sb up p c b → C nd L sb up i c b
  | again {i p c d b : Nat} : up i = (p : Nat) → ((nd p).kind = 4 ∨ (nd p).kind = 5) → M nd L sb i c d → C nd L sb up i d b → C nd L sb up i c b
end
end Go.Proofs.Ythnfmpieoondaaa.Mt
end

/- A search that goes on from what waits, each once: what it finds is what can be come to. -/
section
set_option autoImplicit false
namespace Go.Proofs.Ythnfmpieoondaaa.Mt
section
variable (mv : St → List St) (idx : St → Nat) (root : Nat)
/-- Who isn't seen yet is seen, and waits. -/
def rch : List St → List Bool × List St → List Bool × List St
  | [], sw => sw
  | y :: r, sw => rch r (if sw.1.getD (idx y) false = true then sw else (sw.1.set (idx y) true, sw.2 ++ [y]))
def run : Nat → List Bool → List Bool × List St → Option (List Bool)
  | 0, _, _ => none
  | k + 1, out, sw => match sw.2.getLast? with
    | none => some out
    | some x => if x.ended = true ∧ x.node = root then run k (out.set x.at_ true) (sw.1, sw.2.dropLast) else run k out (rch idx (mv x) (sw.1, sw.2.dropLast))
variable {mv idx root} {N : Nat} {V : St → Prop}
theorem Steps.snoc {mv : St → List St} {x y z : St} (h : Steps mv x y) (k : z ∈ mv y) : Steps mv x z := h.trans (.one k)
end
end Go.Proofs.Ythnfmpieoondaaa.Mt
end

/- What match.ends and dragomanref06.from1 compute, in plain words. -/
section
set_option linter.unusedVariables false
set_option linter.unusedSimpArgs false
namespace Go.Proofs.Ythnfmpieoondaaa.P
open Go.RowKit Go.Proofs.YthnfmpieoondaaaW.PrintWords Go.Proofs.Ythnfmpieoondaaa.QA Go.Proofs.Ythnfmpieoondaaa.G Go.Proofs.Ythnfmpieoondaaa.Mt
def sb (s : ByteArray) (i : Nat) : Nat := (bt s i).toNat
section
end
end Go.Proofs.Ythnfmpieoondaaa.P
end
