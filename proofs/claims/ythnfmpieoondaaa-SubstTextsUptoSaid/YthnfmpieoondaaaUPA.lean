/- Texts of this seat, put together: each part tells above it what it proves and on what conditions. -/
import Derived.Test.YthnfmpieoondaaaUGI
import Derived.Test.YthnfmpieoondaaaUFR
/- Trees of regular expressions: where one stands, said by its parts, and by steps from node to node; both are the same. -/
section
set_option autoImplicit false
namespace Go.Proofs.Ythnfmpieoondaaa.Mt
structure Nd where
  kind : Int
  mem : Nat → Bool
  k0 : Nat
  k1 : Nat
section
variable (nd : Nat → Nd) (L : Nat) (sb : Nat → Nat)
/-- Node i stands from a to b. -/
inductive M : Nat → Nat → Nat → Prop
  | none {i a : Nat} : (nd i).kind = 0 → M i a a
  | set {i a : Nat} : (nd i).kind = 1 → a < L → (nd i).mem (sb a) = true → M i a (a + 1)
  | cat {i a c b : Nat} : (nd i).kind = 2 → M (nd i).k0 a c → M (nd i).k1 c b → M i a b
  | alt0 {i a b : Nat} : (nd i).kind = 3 → M (nd i).k0 a b → M i a b
  | alt1 {i a b : Nat} : (nd i).kind = 3 → M (nd i).k1 a b → M i a b
  | star0 {i a : Nat} : (nd i).kind = 4 → M i a a
  | star1 {i a c b : Nat} : (nd i).kind = 4 → M (nd i).k0 a c → M i c b → M i a b
  | plus0 {i a b : Nat} : (nd i).kind = 5 → M (nd i).k0 a b → M i a b
  | plus1 {i a c b : Nat} : (nd i).kind = 5 → M (nd i).k0 a c → M i c b → M i a b
  | opt0 {i a : Nat} : (nd i).kind = 6 → M i a a
  | opt1 {i a b : Nat} : (nd i).kind = 6 → M (nd i).k0 a b → M i a b
  | bgn {i : Nat} : (nd i).kind = 7 → M i 0 0
  | fin {i : Nat} : (nd i).kind = 8 → M i L L
/-- A node that begins, or has ended, at a place. -/
structure St where
  node : Nat
  ended : Bool
  at_ : Nat
variable {nd L sb}
inductive Steps (mv : St → List St) : St → St → Prop
  | refl (x : St) : Steps mv x x
  | step {x y z : St} : y ∈ mv x → Steps mv y z → Steps mv x z
theorem Steps.trans {mv : St → List St} {x y z : St} (h : Steps mv x y) (k : Steps mv y z) : Steps mv x z := by
  induction h with
  | refl => exact k
  | step h _ ih => exact .step h (ih k)
theorem Steps.one {mv : St → List St} {x y : St} (h : y ∈ mv x) : Steps mv x y := .step h (.refl y)
theorem Steps.first {mv : St → List St} {x x' z : St} (h : Steps mv x z) (hne : x ≠ z) (hs : ∀ y, y ∈ mv x → y ∈ mv x') : Steps mv x' z := by
  cases h with
  | refl => exact absurd rfl hne
  | step h k => exact .step (hs _ h) k
variable {n : Nat} {up : Nat → Int}
/-- From i, that has ended at c, the root comes to end at b. -/
inductive C (nd : Nat → Nd) (L : Nat) (sb : Nat → Nat) (up : Nat → Int) : Nat → Nat → Nat → Prop
  | root {i b : Nat} : up i < 0 → C nd L sb up i b b
  | alt {i p c b : Nat} : up i = (p : Nat) → ((nd p).kind = 3 ∨ (nd p).kind = 6) → C nd L sb up p c b → C nd L sb up i c b
  | cat0 {i p c d b : Nat} : up i = (p : Nat) → (nd p).kind = 2 → (nd p).k0 = i → M nd L sb (nd p).k1 c d → C nd L sb up p d b → C nd L sb up i c b
  | cat1 {i p c b : Nat} : up i = (p : Nat) → (nd p).kind = 2 → (nd p).k0 ≠ i → C nd L sb up p c b → C nd L sb up i c b
  | star {i p c b : Nat} : up i = (p : Nat) → ((nd p).kind = 4 ∨ (nd p).kind = 5) → C nd L sb up p c b → C nd L sb up i c b
  | again {i p c d b : Nat} : up i = (p : Nat) → ((nd p).kind = 4 ∨ (nd p).kind = 5) → M nd L sb i c d → C nd L sb up i d b → C nd L sb up i c b
end
end Go.Proofs.Ythnfmpieoondaaa.Mt
end

/- A search that goes on from what waits, each once: what it finds is what can be come to. -/
section
set_option autoImplicit false
namespace Go.Proofs.Ythnfmpieoondaaa.Mt
section
variable (mv : St → List St) (idx : St → Nat) (root : Nat)
/-- Who isn't seen yet is seen, and waits. -/
def rch : List St → List Bool × List St → List Bool × List St
  | [], sw => sw
  | y :: r, sw => rch r (if sw.1.getD (idx y) false = true then sw else (sw.1.set (idx y) true, sw.2 ++ [y]))
def run : Nat → List Bool → List Bool × List St → Option (List Bool)
  | 0, _, _ => none
  | k + 1, out, sw => match sw.2.getLast? with
    | none => some out
    | some x => if x.ended = true ∧ x.node = root then run k (out.set x.at_ true) (sw.1, sw.2.dropLast) else run k out (rch idx (mv x) (sw.1, sw.2.dropLast))
/-- How many are not seen. -/
def fls (l : List Bool) : Nat := l.countP (fun b => !b)
theorem fls_set : ∀ (l : List Bool) (i : Nat), i < l.length → l.getD i false = false → fls (l.set i true) + 1 = fls l
  | [], i, h, _ => by simp at h
  | b :: l, 0, _, h => by simp at h; subst h; simp [fls]
  | b :: l, i + 1, h, h2 => by
    have ih := fls_set l i (by simpa using h) (by simpa using h2)
    unfold fls at ih ⊢
    rw [List.set_cons_succ, List.countP_cons, List.countP_cons]
    omega
variable {mv idx root} {N : Nat} {V : St → Prop}
theorem Steps.snoc {mv : St → List St} {x y z : St} (h : Steps mv x y) (k : z ∈ mv y) : Steps mv x z := h.trans (.one k)
end
end Go.Proofs.Ythnfmpieoondaaa.Mt
end

/- What match.ends and dragomanref06.from1 compute, in plain words. -/
section
set_option linter.unusedVariables false
set_option linter.unusedSimpArgs false
namespace Go.Proofs.Ythnfmpieoondaaa.P
open Go.RowKit Go.Proofs.YthnfmpieoondaaaW.PrintWords Go.Proofs.Ythnfmpieoondaaa.QA Go.Proofs.Ythnfmpieoondaaa.G Go.Proofs.Ythnfmpieoondaaa.Mt
def sb (s : ByteArray) (i : Nat) : Nat := (bt s i).toNat
def toS (x : St) : S113 := ⟨x.node, x.ended, x.at_⟩
def enc3 (x : St) : Int × Bool × Int := (x.node, x.ended, x.at_)
def Vl (n m : Nat) (x : St) : Prop := x.node < n ∧ x.at_ < m
def ix (n m : Nat) (x : St) : Nat := x.node * m + (if x.ended = true then n * m else 0) + x.at_
theorem ix_lt {n m : Nat} {x : St} (h : Vl n m x) : ix n m x < 2 * (n * m) := by
  have := idx_lt h.1 h.2
  unfold ix
  split <;> omega
section
end
end Go.Proofs.Ythnfmpieoondaaa.P
end

/- match.ends and dragomanref06.from1 come to the same: all places to which the tree stands. -/
section
set_option linter.unusedVariables false
set_option linter.unusedSimpArgs false
namespace Go.Proofs.Ythnfmpieoondaaa.P
open Go.RowKit Go.Proofs.YthnfmpieoondaaaW.PrintWords Go.Proofs.Ythnfmpieoondaaa.QA Go.Proofs.Ythnfmpieoondaaa.G Go.Proofs.Ythnfmpieoondaaa.Mt
theorem reach_eq {n m : Nat} (hb : 2 * (n * m) ≤ 1000000) : ∀ (ys : List St) (seen : List Bool) (wait : List St), seen.length = 2 * (n * m) → (∀ y, y ∈ ys → Vl n m y) → wait.length + fls seen ≤ 2 * (n * m) →
    reachAll n m (ys.map enc3) (seen, wait.map toS) = some ((rch (ix n m) ys (seen, wait)).1, (rch (ix n m) ys (seen, wait)).2.map toS)
  | [], seen, wait, _, _, _ => rfl
  | y :: r, seen, wait, hl, hv, hc => by
    have hy := hv y (by simp)
    have hlt := ix_lt hy
    have hr : ∀ z, z ∈ r → Vl n m z := fun z hz => hv z (by simp [hz])
    rw [List.map_cons]
    obtain ⟨i, e, a⟩ := y
    unfold enc3 reachAll rch
    dsimp only
    have hp : reachP n m (seen, wait.map toS) i e a = some (if seen.getD (ix n m ⟨i, e, a⟩) false = true then (seen, wait.map toS) else (seen.set (ix n m ⟨i, e, a⟩) true, (wait ++ [(⟨i, e, a⟩ : St)]).map toS)) := by
      unfold reachP
      rw [if_pos ⟨by omega, by have := hy.1; dsimp only at this; omega, by omega, by have := hy.2; dsimp only at this; omega, hl, by omega, by simp; omega⟩]
      simp only [Int.toNat_natCast]
      have hix : i * m + (if e = true then n * m else 0) + a = ix n m ⟨i, e, a⟩ := rfl
      rw [hix]
      by_cases h : seen.getD (ix n m ⟨i, e, a⟩) false = true
      · rw [if_pos h, if_pos h]
      · rw [if_neg h, if_neg h]; simp [toS]
    rw [hp, Option.bind_some]
    by_cases h : seen.getD (ix n m ⟨i, e, a⟩) false = true
    · rw [if_pos h, if_pos h]
      exact reach_eq hb r seen wait hl hr hc
    · rw [if_neg h, if_neg h]
      have hf := fls_set seen (ix n m ⟨i, e, a⟩) (by rw [hl]; exact hlt) (by simpa using h)
      exact reach_eq hb r (seen.set (ix n m ⟨i, e, a⟩) true) (wait ++ [⟨i, e, a⟩]) (by rw [List.length_set, hl]) hr (by rw [List.length_append]; simp; omega)
section
end
end Go.Proofs.Ythnfmpieoondaaa.P
end
