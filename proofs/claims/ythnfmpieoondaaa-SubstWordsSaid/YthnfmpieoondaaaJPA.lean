/- Texts of this seat, put together: each part tells above it what it proves and on what conditions. -/
import Derived.Test.YthnfmpieoondaaaJGI
import Derived.Test.YthnfmpieoondaaaJFS
/- Trees of regular expressions: where one stands, said by its parts, and by steps from node to node; both are the same. -/
section
set_option autoImplicit false
namespace Go.Proofs.Ythnfmpieoondaaa.Mt
structure Nd where
  kind : Int
  mem : Nat → Bool
  k0 : Nat
  k1 : Nat
section
variable (nd : Nat → Nd) (L : Nat) (sb : Nat → Nat)
/-- Node i stands from a to b. -/
inductive M : Nat → Nat → Nat → Prop
  | none {i a : Nat} : (nd i).kind = 0 → M i a a
  | set {i a : Nat} : (nd i).kind = 1 → a < L → (nd i).mem (sb a) = true → M i a (a + 1)
  | cat {i a c b : Nat} : (nd i).kind = 2 → M (nd i).k0 a c → M (nd i).k1 c b → M i a b
  | alt0 {i a b : Nat} : (nd i).kind = 3 → M (nd i).k0 a b → M i a b
  | alt1 {i a b : Nat} : (nd i).kind = 3 → M (nd i).k1 a b → M i a b
  | star0 {i a : Nat} : (nd i).kind = 4 → M i a a
  | star1 {i a c b : Nat} : (nd i).kind = 4 → M (nd i).k0 a c → M i c b → M i a b
  | plus0 {i a b : Nat} : (nd i).kind = 5 → M (nd i).k0 a b → M i a b
  | plus1 {i a c b : Nat} : (nd i).kind = 5 → M (nd i).k0 a c → M i c b → M i a b
  | opt0 {i a : Nat} : (nd i).kind = 6 → M i a a
  | opt1 {i a b : Nat} : (nd i).kind = 6 → M (nd i).k0 a b → M i a b
  | bgn {i : Nat} : (nd i).kind = 7 → M i 0 0
  | fin {i : Nat} : (nd i).kind = 8 → M i L L
theorem M.le {i a b : Nat} (h : M nd L sb i a b) : a ≤ b := by
  induction h <;> omega
theorem M.bound {i a b : Nat} (h : M nd L sb i a b) (ha : a ≤ L) : b ≤ L := by
  induction h <;> omega
/-- A node that begins, or has ended, at a place. -/
structure St where
  node : Nat
  ended : Bool
  at_ : Nat
/-- What follows. -/
def moves (up : Nat → Int) (x : St) : List St :=
  if x.ended = true then
    (if up x.node < 0 then [] else
      let p := (up x.node).toNat
      if (nd p).kind = 4 ∨ (nd p).kind = 5 then [⟨p, true, x.at_⟩, ⟨x.node, false, x.at_⟩]
      else if (nd p).kind = 2 ∧ (nd p).k0 = x.node then [⟨(nd p).k1, false, x.at_⟩]
      else [⟨p, true, x.at_⟩])
  else
    if (nd x.node).kind = 0 ∨ ((nd x.node).kind = 7 ∧ x.at_ = 0) ∨ ((nd x.node).kind = 8 ∧ x.at_ = L) then [⟨x.node, true, x.at_⟩]
    else if (nd x.node).kind = 1 then (if x.at_ < L ∧ (nd x.node).mem (sb x.at_) = true then [⟨x.node, true, x.at_ + 1⟩] else [])
    else if (nd x.node).kind = 2 ∨ (nd x.node).kind = 5 then [⟨(nd x.node).k0, false, x.at_⟩]
    else if (nd x.node).kind = 3 then [⟨(nd x.node).k0, false, x.at_⟩, ⟨(nd x.node).k1, false, x.at_⟩]
    else if (nd x.node).kind = 4 ∨ (nd x.node).kind = 6 then [⟨x.node, true, x.at_⟩, ⟨(nd x.node).k0, false, x.at_⟩]
    else []
/-- p has i as a kid. -/
def HasKid (p i : Nat) : Prop := (2 ≤ (nd p).kind ∧ (nd p).kind ≤ 6 ∧ (nd p).k0 = i) ∨ (((nd p).kind = 2 ∨ (nd p).kind = 3) ∧ (nd p).k1 = i)
/-- A tree of n nodes is right; up: who has each as a kid. -/
structure Tree (n : Nat) (up : Nat → Int) : Prop where
  pos : 0 < n
  kinds : ∀ i, i < n → 0 ≤ (nd i).kind ∧ (nd i).kind ≤ 8
  kid0 : ∀ i, i < n → 2 ≤ (nd i).kind → (nd i).kind ≤ 6 → (nd i).k0 < i ∧ up (nd i).k0 = i
  kid1 : ∀ i, i < n → ((nd i).kind = 2 ∨ (nd i).kind = 3) → (nd i).k1 < i ∧ up (nd i).k1 = i ∧ (nd i).k0 ≠ (nd i).k1
  root : up (n - 1) = -1
  par : ∀ i, i < n - 1 → ∃ p, up i = (p : Nat) ∧ p < n ∧ HasKid nd p i
variable {nd L sb}
inductive Steps (mv : St → List St) : St → St → Prop
  | refl (x : St) : Steps mv x x
  | step {x y z : St} : y ∈ mv x → Steps mv y z → Steps mv x z
theorem Steps.trans {mv : St → List St} {x y z : St} (h : Steps mv x y) (k : Steps mv y z) : Steps mv x z := by
  induction h with
  | refl => exact k
  | step h _ ih => exact .step h (ih k)
theorem Steps.one {mv : St → List St} {x y : St} (h : y ∈ mv x) : Steps mv x y := .step h (.refl y)
theorem Steps.first {mv : St → List St} {x x' z : St} (h : Steps mv x z) (hne : x ≠ z) (hs : ∀ y, y ∈ mv x → y ∈ mv x') : Steps mv x' z := by
  cases h with
  | refl => exact absurd rfl hne
  | step h k => exact .step (hs _ h) k
variable {n : Nat} {up : Nat → Int}
theorem M.steps (T : Tree nd n up) {i a b : Nat} (h : M nd L sb i a b) : i < n → Steps (moves nd L sb up) ⟨i, false, a⟩ ⟨i, true, b⟩ := by
  induction h with
  | none hk => intro hi; exact .one (by unfold moves; simp [hk])
  | set hk h1 h2 => intro hi; exact .one (by unfold moves; simp [hk, h1, h2])
  | @cat i a c b hk _ _ ih1 ih2 =>
    intro hi
    obtain ⟨h1, h2⟩ := T.kid0 i hi (by omega) (by omega)
    obtain ⟨h3, h4, h5⟩ := T.kid1 i hi (by omega)
    refine .step (y := ⟨(nd i).k0, false, a⟩) (by unfold moves; simp [hk]) ((ih1 (by omega)).trans ?_)
    refine .step (y := ⟨(nd i).k1, false, c⟩) (by unfold moves; simp [h2, hk]) ((ih2 (by omega)).trans ?_)
    exact .one (by unfold moves; simp [h4, hk, h5])
  | @alt0 i a b hk _ ih =>
    intro hi
    obtain ⟨h1, h2⟩ := T.kid0 i hi (by omega) (by omega)
    refine .step (y := ⟨(nd i).k0, false, a⟩) (by unfold moves; simp [hk]) ((ih (by omega)).trans ?_)
    exact .one (by unfold moves; simp [h2, hk])
  | @alt1 i a b hk _ ih =>
    intro hi
    obtain ⟨h1, h2, h3⟩ := T.kid1 i hi (by omega)
    refine .step (y := ⟨(nd i).k1, false, a⟩) (by unfold moves; simp [hk]) ((ih (by omega)).trans ?_)
    exact .one (by unfold moves; simp [h2, hk])
  | star0 hk => intro hi; exact .one (by unfold moves; simp [hk])
  | @star1 i a c b hk _ _ ih1 ih2 =>
    intro hi
    obtain ⟨h1, h2⟩ := T.kid0 i hi (by omega) (by omega)
    refine .step (y := ⟨(nd i).k0, false, a⟩) (by unfold moves; simp [hk]) ((ih1 (by omega)).trans ?_)
    exact (ih2 hi).first (by simp) (fun y hy => by unfold moves at hy ⊢; simp [hk, h2] at hy ⊢; exact hy)
  | @plus0 i a b hk _ ih =>
    intro hi
    obtain ⟨h1, h2⟩ := T.kid0 i hi (by omega) (by omega)
    refine .step (y := ⟨(nd i).k0, false, a⟩) (by unfold moves; simp [hk]) ((ih (by omega)).trans ?_)
    exact .one (by unfold moves; simp [h2, hk])
  | @plus1 i a c b hk _ _ ih1 ih2 =>
    intro hi
    obtain ⟨h1, h2⟩ := T.kid0 i hi (by omega) (by omega)
    refine .step (y := ⟨(nd i).k0, false, a⟩) (by unfold moves; simp [hk]) ((ih1 (by omega)).trans ?_)
    exact (ih2 hi).first (by simp) (fun y hy => by unfold moves at hy ⊢; simp [hk, h2] at hy ⊢; exact .inr hy)
  | opt0 hk => intro hi; exact .one (by unfold moves; simp [hk])
  | @opt1 i a b hk _ ih =>
    intro hi
    obtain ⟨h1, h2⟩ := T.kid0 i hi (by omega) (by omega)
    refine .step (y := ⟨(nd i).k0, false, a⟩) (by unfold moves; simp [hk]) ((ih (by omega)).trans ?_)
    exact .one (by unfold moves; simp [h2, hk])
  | bgn hk => intro hi; exact .one (by unfold moves; simp [hk])
  | fin hk => intro hi; exact .one (by unfold moves; simp [hk])
/-- From i, that has ended at c, the root comes to end at b. -/
inductive C (nd : Nat → Nd) (L : Nat) (sb : Nat → Nat) (up : Nat → Int) : Nat → Nat → Nat → Prop
  | root {i b : Nat} : up i < 0 → C nd L sb up i b b
  | alt {i p c b : Nat} : up i = (p : Nat) → ((nd p).kind = 3 ∨ (nd p).kind = 6) → C nd L sb up p c b → C nd L sb up i c b
  | cat0 {i p c d b : Nat} : up i = (p : Nat) → (nd p).kind = 2 → (nd p).k0 = i → M nd L sb (nd p).k1 c d → C nd L sb up p d b → C nd L sb up i c b
  | cat1 {i p c b : Nat} : up i = (p : Nat) → (nd p).kind = 2 → (nd p).k0 ≠ i → C nd L sb up p c b → C nd L sb up i c b
  | star {i p c b : Nat} : up i = (p : Nat) → ((nd p).kind = 4 ∨ (nd p).kind = 5) → C nd L sb up p c b → C nd L sb up i c b
  | again {i p c d b : Nat} : up i = (p : Nat) → ((nd p).kind = 4 ∨ (nd p).kind = 5) → M nd L sb i c d → C nd L sb up i d b → C nd L sb up i c b
theorem C.stars {i p c b : Nat} (h : C nd L sb up i c b) (hp : up i = (p : Nat)) (h0 : (nd p).k0 = i) (hk : (nd p).kind = 4 ∨ (nd p).kind = 5) : ∀ a, M nd L sb i a c → ∃ d, M nd L sb p a d ∧ C nd L sb up p d b := by
  induction h with
  | root h => intro a _; omega
  | alt h h1 h2 => intro a _; have : p = _ := Int.ofNat.inj (hp.symm.trans h); subst this; omega
  | cat0 h h1 h2 => intro a _; have : p = _ := Int.ofNat.inj (hp.symm.trans h); subst this; omega
  | cat1 h h1 h2 => intro a _; have : p = _ := Int.ofNat.inj (hp.symm.trans h); subst this; omega
  | @star i q c b h h1 h2 ih =>
    intro a hm
    have : p = _ := Int.ofNat.inj (hp.symm.trans h)
    subst this
    subst h0
    rcases hk with hk | hk
    · exact ⟨c, .star1 hk hm (.star0 hk), h2⟩
    · exact ⟨c, .plus0 hk hm, h2⟩
  | @again i q c d b h h1 h2 h3 ih =>
    intro a hm
    obtain ⟨e, h4, h5⟩ := ih hp h0 c h2
    subst h0
    rcases hk with hk | hk
    · exact ⟨e, .star1 hk hm h4, h5⟩
    · exact ⟨e, .plus1 hk hm h4, h5⟩
theorem C.up_alt {i p c b : Nat} (h : C nd L sb up i c b) (hp : up i = (p : Nat)) (hk : (nd p).kind = 3 ∨ (nd p).kind = 6 ∨ ((nd p).kind = 2 ∧ (nd p).k0 ≠ i)) : C nd L sb up p c b := by
  cases h with
  | root h => omega
  | alt h h1 h2 => have : p = _ := Int.ofNat.inj (hp.symm.trans h); subst this; exact h2
  | cat0 h h1 h2 => have : p = _ := Int.ofNat.inj (hp.symm.trans h); subst this; omega
  | cat1 h h1 h2 h3 => have : p = _ := Int.ofNat.inj (hp.symm.trans h); subst this; exact h3
  | star h h1 h2 => have : p = _ := Int.ofNat.inj (hp.symm.trans h); subst this; omega
  | again h h1 h2 => have : p = _ := Int.ofNat.inj (hp.symm.trans h); subst this; omega
theorem C.up_cat {i p c b : Nat} (h : C nd L sb up i c b) (hp : up i = (p : Nat)) (hk : (nd p).kind = 2) (h0 : (nd p).k0 = i) : ∃ d, M nd L sb (nd p).k1 c d ∧ C nd L sb up p d b := by
  cases h with
  | root h => omega
  | alt h h1 h2 => have : p = _ := Int.ofNat.inj (hp.symm.trans h); subst this; omega
  | cat0 h h1 h2 h3 h4 => have : p = _ := Int.ofNat.inj (hp.symm.trans h); subst this; exact ⟨_, h3, h4⟩
  | cat1 h h1 h2 h3 => have : p = _ := Int.ofNat.inj (hp.symm.trans h); subst this; omega
  | star h h1 h2 => have : p = _ := Int.ofNat.inj (hp.symm.trans h); subst this; omega
  | again h h1 h2 => have : p = _ := Int.ofNat.inj (hp.symm.trans h); subst this; omega
theorem Steps.den (T : Tree nd n up) {x z : St} (h : Steps (moves nd L sb up) x z) {b : Nat} (hz : z = ⟨n - 1, true, b⟩) : x.node < n → (x.ended = true → C nd L sb up x.node x.at_ b) ∧ (x.ended = false → ∃ c, M nd L sb x.node x.at_ c ∧ C nd L sb up x.node c b) := by
  induction h with
  | refl x => subst hz; intro _; exact ⟨fun _ => .root (by rw [T.root]; decide), fun h => by cases h⟩
  | @step x y z hm _ ih =>
    have ih := ih hz
    intro hx
    obtain ⟨i, e, a⟩ := x
    unfold moves at hm
    cases e with
    | true =>
      refine ⟨fun _ => ?_, fun h => Bool.noConfusion h⟩
      dsimp only at hm hx ⊢
      rw [if_pos rfl] at hm
      by_cases hu : up i < 0
      · rw [if_pos hu] at hm; cases hm
      rw [if_neg hu] at hm
      have hi : i < n - 1 := by
        have : i ≠ n - 1 := fun z => hu (by rw [z, T.root]; decide)
        omega
      obtain ⟨p, hp, hpn, hkid⟩ := T.par i hi
      rw [hp] at hm
      simp only [Int.toNat_natCast] at hm
      by_cases k33 : (nd p).kind = 4 ∨ (nd p).kind = 5
      · rw [if_pos k33] at hm
        simp only [List.mem_cons, List.not_mem_nil, or_false] at hm
        rcases hm with rfl | rfl
        · exact .star hp k33 ((ih hpn).1 rfl)
        · obtain ⟨c, h1, h2⟩ := (ih hx).2 rfl
          exact .again hp k33 h1 h2
      · rw [if_neg k33] at hm
        by_cases k2 : (nd p).kind = 2 ∧ (nd p).k0 = i
        · rw [if_pos k2] at hm
          simp only [List.mem_cons, List.not_mem_nil, or_false] at hm
          subst hm
          obtain ⟨h1, h2, h3⟩ := T.kid1 p hpn (.inl k2.1)
          obtain ⟨c, h4, h5⟩ := (ih (show (nd p).k1 < n by omega)).2 rfl
          exact .cat0 hp k2.1 k2.2 h4 (h5.up_alt h2 (.inr (.inr ⟨k2.1, h3⟩)))
        · rw [if_neg k2] at hm
          simp only [List.mem_cons, List.not_mem_nil, or_false] at hm
          subst hm
          have h1 := (ih hpn).1 rfl
          by_cases k : (nd p).kind = 2
          · exact .cat1 hp k (fun z => k2 ⟨k, z⟩) h1
          · refine .alt hp ?_ h1
            unfold HasKid at hkid
            omega
    | false =>
      refine ⟨fun h => Bool.noConfusion h, fun _ => ?_⟩
      dsimp only at hm hx ⊢
      rw [if_neg (by decide)] at hm
      by_cases q0 : (nd i).kind = 0 ∨ ((nd i).kind = 7 ∧ a = 0) ∨ ((nd i).kind = 8 ∧ a = L)
      · rw [if_pos q0] at hm
        simp only [List.mem_cons, List.not_mem_nil, or_false] at hm
        subst hm
        refine ⟨a, ?_, (ih hx).1 rfl⟩
        rcases q0 with k | ⟨k, rfl⟩ | ⟨k, rfl⟩
        · exact .none k
        · exact .bgn k
        · exact .fin k
      rw [if_neg q0] at hm
      by_cases k1 : (nd i).kind = 1
      · rw [if_pos k1] at hm
        by_cases q : a < L ∧ (nd i).mem (sb a) = true
        · rw [if_pos q] at hm
          simp only [List.mem_cons, List.not_mem_nil, or_false] at hm
          subst hm
          exact ⟨a + 1, .set k1 q.1 q.2, (ih hx).1 rfl⟩
        · rw [if_neg q] at hm; cases hm
      rw [if_neg k1] at hm
      by_cases k?T25 : (nd i).kind = 2 ∨ (nd i).kind = 5
      · rw [if_pos k?T25] at hm
        simp only [List.mem_cons, List.not_mem_nil, or_false] at hm
        subst hm
        obtain ⟨h1, h2⟩ := T.kid0 i hx (by omega) (by omega)
        obtain ⟨c, h3, h4⟩ := (ih (show (nd i).k0 < n by omega)).2 rfl
        rcases k?T25 with k | k
        · obtain ⟨d, h5, h6⟩ := h4.up_cat h2 k rfl
          exact ⟨d, .cat k h3 h5, h6⟩
        · exact h4.stars h2 rfl (.inr k) a h3
      rw [if_neg k?T25] at hm
      by_cases k3 : (nd i).kind = 3
      · rw [if_pos k3] at hm
        simp only [List.mem_cons, List.not_mem_nil, or_false] at hm
        rcases hm with rfl | rfl
        · obtain ⟨h1, h2⟩ := T.kid0 i hx (by omega) (by omega)
          obtain ⟨c, h3, h4⟩ := (ih (show (nd i).k0 < n by omega)).2 rfl
          exact ⟨c, .alt0 k3 h3, h4.up_alt h2 (.inl k3)⟩
        · obtain ⟨h1, h2, _⟩ := T.kid1 i hx (.inr k3)
          obtain ⟨c, h3, h4⟩ := (ih (show (nd i).k1 < n by omega)).2 rfl
          exact ⟨c, .alt1 k3 h3, h4.up_alt h2 (.inl k3)⟩
      rw [if_neg k3] at hm
      by_cases k48 : (nd i).kind = 4 ∨ (nd i).kind = 6
      · rw [if_pos k48] at hm
        simp only [List.mem_cons, List.not_mem_nil, or_false] at hm
        rcases hm with rfl | rfl
        · refine ⟨a, ?_, (ih hx).1 rfl⟩
          rcases k48 with k | k
          · exact .star0 k
          · exact .opt0 k
        · obtain ⟨h1, h2⟩ := T.kid0 i hx (by omega) (by omega)
          obtain ⟨c, h3, h4⟩ := (ih (show (nd i).k0 < n by omega)).2 rfl
          rcases k48 with k | k
          · exact h4.stars h2 rfl (.inl k) a h3
          · exact ⟨c, .opt1 k h3, h4.up_alt h2 (.inr (.inl k))⟩
      · rw [if_neg k48] at hm; cases hm
/-- Both say the same. -/
theorem steps_iff (T : Tree nd n up) {a b : Nat} : Steps (moves nd L sb up) ⟨n - 1, false, a⟩ ⟨n - 1, true, b⟩ ↔ M nd L sb (n - 1) a b := by
  have hn : n - 1 < n := by have := T.pos; omega
  refine ⟨fun h => ?_, fun h => h.steps T hn⟩
  obtain ⟨c, h1, h2⟩ := (h.den T rfl hn).2 rfl
  have hr := T.root
  dsimp only at h1 h2
  cases h2 with
  | root _ => exact h1
  | alt z => omega
  | cat0 z => omega
  | cat1 z => omega
  | star z => omega
  | again z => omega
end
end Go.Proofs.Ythnfmpieoondaaa.Mt
end

/- A search that goes on from what waits, each once: what it finds is what can be come to. -/
section
set_option autoImplicit false
namespace Go.Proofs.Ythnfmpieoondaaa.Mt
section
variable (mv : St → List St) (idx : St → Nat) (root : Nat)
/-- Who isn't seen yet is seen, and waits. -/
def rch : List St → List Bool × List St → List Bool × List St
  | [], sw => sw
  | y :: r, sw => rch r (if sw.1.getD (idx y) false = true then sw else (sw.1.set (idx y) true, sw.2 ++ [y]))
def run : Nat → List Bool → List Bool × List St → Option (List Bool)
  | 0, _, _ => none
  | k + 1, out, sw => match sw.2.getLast? with
    | none => some out
    | some x => if x.ended = true ∧ x.node = root then run k (out.set x.at_ true) (sw.1, sw.2.dropLast) else run k out (rch idx (mv x) (sw.1, sw.2.dropLast))
/-- How many are not seen. -/
def fls (l : List Bool) : Nat := l.countP (fun b => !b)
theorem fls_set : ∀ (l : List Bool) (i : Nat), i < l.length → l.getD i false = false → fls (l.set i true) + 1 = fls l
  | [], i, h, _ => by simp at h
  | b :: l, 0, _, h => by simp at h; subst h; simp [fls]
  | b :: l, i + 1, h, h2 => by
    have ih := fls_set l i (by simpa using h) (by simpa using h2)
    unfold fls at ih ⊢
    rw [List.set_cons_succ, List.countP_cons, List.countP_cons]
    omega
theorem getD_set (l : List Bool) (i j : Nat) (h : i < l.length) : (l.set i true).getD j false = if i = j then true else l.getD j false := by
  simp only [List.getD_eq_getElem?_getD, List.getElem?_set]
  by_cases e : i = j
  · subst e; simp [h]
  · simp [e]
structure Ok (N : Nat) (V : St → Prop) : Prop where
  inj : ∀ x y, V x → V y → idx x = idx y → x = y
  lt : ∀ x, V x → idx x < N
  mv : ∀ x y, V x → y ∈ mv x → V y
variable {mv idx root} {N : Nat} {V : St → Prop}
theorem rch_spec (O : Ok mv idx N V) : ∀ (ys : List St) (seen : List Bool) (wait : List St), seen.length = N → (∀ y, y ∈ ys → V y) →
    (rch idx ys (seen, wait)).1.length = N ∧ (rch idx ys (seen, wait)).2.length + fls (rch idx ys (seen, wait)).1 = wait.length + fls seen ∧
    (∀ x, V x → ((rch idx ys (seen, wait)).1.getD (idx x) false = true ↔ seen.getD (idx x) false = true ∨ x ∈ ys)) ∧
    (∀ x, V x → (x ∈ (rch idx ys (seen, wait)).2 ↔ x ∈ wait ∨ (x ∈ ys ∧ seen.getD (idx x) false = false))) ∧ (∀ x, x ∈ (rch idx ys (seen, wait)).2 → x ∈ wait ∨ x ∈ ys)
  | [], seen, wait, hl, _ => by simp [rch, hl]
  | y :: r, seen, wait, hl, hv => by
    have hy := hv y (by simp)
    have hlt : idx y < seen.length := by rw [hl]; exact O.lt y hy
    unfold rch
    by_cases hs : seen.getD (idx y) false = true
    · rw [if_pos hs]
      obtain ⟨h1, h2, h3, h4, h5⟩ := rch_spec O r seen wait hl (fun z hz => hv z (by simp [hz]))
      refine ⟨h1, h2, fun x hx => ?_, fun x hx => ?_, fun x hx => ?_⟩
      · rw [h3 x hx, List.mem_cons]
        constructor
        · rintro (h | h)
          · exact .inl h
          · exact .inr (.inr h)
        · rintro (h | rfl | h)
          · exact .inl h
          · exact .inl hs
          · exact .inr h
      · rw [h4 x hx, List.mem_cons]
        constructor
        · rintro (h | ⟨h, k⟩)
          · exact .inl h
          · exact .inr ⟨.inr h, k⟩
        · rintro (h | ⟨rfl | h, k⟩)
          · exact .inl h
          · rw [hs] at k; cases k
          · exact .inr ⟨h, k⟩
      · rcases h5 x hx with h | h
        · exact .inl h
        · exact .inr (by simp [h])
    · rw [if_neg hs]
      have hs : seen.getD (idx y) false = false := by simpa using hs
      obtain ⟨h1, h2, h3, h4, h5⟩ := rch_spec O r (seen.set (idx y) true) (wait ++ [y]) (by rw [List.length_set, hl]) (fun z hz => hv z (by simp [hz]))
      have hf := fls_set seen (idx y) hlt hs
      refine ⟨h1, by rw [h2, List.length_append]; simp; omega, fun x hx => ?_, fun x hx => ?_, fun x hx => ?_⟩
      · rw [h3 x hx, getD_set _ _ _ hlt, List.mem_cons]
        by_cases e : idx y = idx x
        · rw [if_pos e]
          have := O.inj y x hy hx e
          subst this
          simp
        · rw [if_neg e]
          have : x ≠ y := fun z => e (by rw [z])
          simp [this]
      · rw [h4 x hx, getD_set _ _ _ hlt, List.mem_cons, List.mem_append]
        by_cases e : idx y = idx x
        · rw [if_pos e]
          have := O.inj y x hy hx e
          subst this
          simp only [hs]; simp
        · rw [if_neg e]
          have : x ≠ y := fun z => e (by rw [z])
          simp [this]
      · rcases h5 x hx with h | h
        · rw [List.mem_append] at h
          rcases h with h | h
          · exact .inl h
          · simp at h; subst h; exact .inr (by simp)
        · exact .inr (by simp [h])
structure Inv (mv : St → List St) (idx : St → Nat) (root : Nat) (N m : Nat) (V : St → Prop) (start : St) (out seen : List Bool) (wait : List St) : Prop where
  len : seen.length = N
  olen : out.length = m
  a : ∀ x, x ∈ wait → V x ∧ seen.getD (idx x) false = true
  b : ∀ x, V x → seen.getD (idx x) false = true → Steps mv start x
  c : ∀ x, V x → seen.getD (idx x) false = true → x ∈ wait ∨ ∀ y, y ∈ mv x → seen.getD (idx y) false = true
  d : seen.getD (idx start) false = true
  e : ∀ q, out.getD q false = true → Steps mv start ⟨root, true, q⟩
  f : ∀ q, V ⟨root, true, q⟩ → seen.getD (idx ⟨root, true, q⟩) false = true → ⟨root, true, q⟩ ∈ wait ∨ out.getD q false = true
theorem Steps.snoc {mv : St → List St} {x y z : St} (h : Steps mv x y) (k : z ∈ mv y) : Steps mv x z := h.trans (.one k)
theorem run_spec (O : Ok mv idx N V) (m : Nat) (start : St) (hroot : ∀ q, V ⟨root, true, q⟩ → q < m ∧ mv ⟨root, true, q⟩ = []) (hs : V start) : ∀ (k : Nat) (out seen : List Bool) (wait : List St), Inv mv idx root N m V start out seen wait → wait.length + 2 * fls seen < k →
    ∃ out', run mv idx root k out (seen, wait) = some out' ∧ out'.length = m ∧ ∀ q, V ⟨root, true, q⟩ → (out'.getD q false = true ↔ Steps mv start ⟨root, true, q⟩) := by
  intro k
  induction k with
  | zero => intro out seen wait _ h; omega
  | succ k ih =>
    intro out seen wait I hk
    unfold run
    dsimp only
    cases hg : wait.getLast? with
    | none =>
      have : wait = [] := List.getLast?_eq_none_iff.1 hg
      subst this
      refine ⟨out, rfl, I.olen, fun q hq => ⟨I.e q, fun h => ?_⟩⟩
      have key : ∀ {x z}, Steps mv x z → V x → seen.getD (idx x) false = true → V z ∧ seen.getD (idx z) false = true := by
        intro x z h
        induction h with
        | refl => intro h1 h2; exact ⟨h1, h2⟩
        | step h _ ih =>
          intro h1 h2
          refine ih (O.mv _ _ h1 h) ?_
          rcases I.c _ h1 h2 with h3 | h3
          · cases h3
          · exact h3 _ h
      rcases I.f q hq (key h hs I.d).2 with h | h
      · cases h
      · exact h
    | some x =>
      obtain ⟨init, rfl⟩ := List.getLast?_eq_some_iff.1 hg
      rw [List.dropLast_concat]
      have hx := I.a x (by simp)
      dsimp only
      by_cases hr : x.ended = true ∧ x.node = root
      · rw [if_pos hr]
        obtain ⟨i, e, a⟩ := x
        obtain ⟨h1, h2⟩ := hr
        dsimp only at h1 h2
        subst h1; subst h2
        obtain ⟨ha, hm⟩ := hroot a hx.1
        refine ih _ _ _ ⟨I.len, by rw [List.length_set, I.olen], fun y hy => I.a y (by simp [hy]), I.b, fun y hy hs => ?_, I.d, fun q hq => ?_, fun q hq hs => ?_⟩ (by simp at hk ⊢; omega)
        · rcases I.c y hy hs with h | h
          · rw [List.mem_append] at h
            rcases h with h | h
            · exact .inl h
            · simp at h; subst h; rw [hm]; exact .inr (fun z hz => by cases hz)
          · exact .inr h
        · dsimp only at hq
          rw [getD_set _ _ _ (by rw [I.olen]; exact ha)] at hq
          by_cases e : a = q
          · subst e; exact I.b _ hx.1 hx.2
          · rw [if_neg e] at hq; exact I.e q hq
        · dsimp only
          rw [getD_set _ _ _ (by rw [I.olen]; exact ha)]
          by_cases e : a = q
          · rw [if_pos e]; exact .inr rfl
          · rw [if_neg e]
            rcases I.f q hq hs with h | h
            · rw [List.mem_append] at h
              rcases h with h | h
              · exact .inl h
              · simp at h; exact absurd h.symm e
            · exact .inr h
      · rw [if_neg hr]
        have hmv := fun y hy => O.mv x y hx.1 hy
        obtain ⟨h1, h2, h3, h4, h5⟩ := rch_spec O (mv x) seen init I.len hmv
        cases hR : rch idx (mv x) (seen, init) with
        | mk seen' wait' =>
        rw [hR] at h1 h2 h3 h4 h5
        dsimp only at h1 h2 h3 h4 h5
        have hfl : fls seen' ≤ fls seen := by
          have : init.length ≤ wait'.length := by
            have hh : ∀ (ys : List St) (sw : List Bool × List St), sw.2.length ≤ (rch idx ys sw).2.length := by
              intro ys
              induction ys with
              | nil => intro sw; exact Nat.le_refl _
              | cons y r ih => intro sw; unfold rch; refine Nat.le_trans ?_ (ih _); split
                               · exact Nat.le_refl _
                               · simp
            have := hh (mv x) (seen, init)
            rw [hR] at this; exact this
          omega
        refine ih _ _ _ ⟨h1, I.olen, fun y hy => ?_, fun y hy hs => ?_, fun y hy hs => ?_, ?_, I.e, fun q hq hs => ?_⟩ (by rw [List.length_append] at hk; simp at hk; omega)
        · have hv : V y := by
            rcases h5 y hy with h | h
            · exact (I.a y (by simp [h])).1
            · exact hmv y h
          refine ⟨hv, (h3 y hv).2 ?_⟩
          rcases h5 y hy with h | h
          · exact .inl (I.a y (by simp [h])).2
          · exact .inr h
        · rcases (h3 y hy).1 hs with h | h
          · exact I.b y hy h
          · exact (I.b x hx.1 hx.2).snoc h
        · by_cases hold : seen.getD (idx y) false = true
          · rcases I.c y hy hold with h | h
            · rw [List.mem_append] at h
              rcases h with h | h
              · exact .inl ((h4 y hy).2 (.inl h))
              · simp at h; subst h
                exact .inr (fun z hz => (h3 z (hmv z hz)).2 (.inr hz))
            · exact .inr (fun z hz => (h3 z (O.mv y z hy hz)).2 (.inl (h z hz)))
          · rcases (h3 y hy).1 hs with h | h
            · exact absurd h hold
            · exact .inl ((h4 y hy).2 (.inr ⟨h, by simpa using hold⟩))
        · exact (h3 start ‹_›).2 (.inl I.d)
        · by_cases hold : seen.getD (idx ⟨root, true, q⟩) false = true
          · rcases I.f q hq hold with h | h
            · rw [List.mem_append] at h
              rcases h with h | h
              · exact .inl ((h4 _ hq).2 (.inl h))
              · simp at h; subst h; exact absurd ⟨rfl, rfl⟩ hr
            · exact .inr h
          · rcases (h3 _ hq).1 hs with h | h
            · exact absurd h hold
            · exact .inl ((h4 _ hq).2 (.inr ⟨h, by simpa using hold⟩))
end
end Go.Proofs.Ythnfmpieoondaaa.Mt
end

/- A search that goes on from what waits, and lets by what was seen: what it finds is what can be come to. -/
section
set_option autoImplicit false
namespace Go.Proofs.Ythnfmpieoondaaa.Mt
section
variable (mv : St → List St) (idx : St → Nat) (root : Nat)
def run2 : Nat → List Bool → List Bool → List St → Option (List Bool)
  | 0, _, _, _ => none
  | k + 1, out, seen, wait => match wait.getLast? with
    | none => some out
    | some x => if seen.getD (idx x) false = true then run2 k out seen wait.dropLast
      else if x.ended = true ∧ x.node = root then run2 k (out.set x.at_ true) (seen.set (idx x) true) wait.dropLast
      else run2 k out (seen.set (idx x) true) (wait.dropLast ++ mv x)
structure Inv2 (mv : St → List St) (idx : St → Nat) (root : Nat) (N m : Nat) (V : St → Prop) (start : St) (out seen : List Bool) (wait : List St) : Prop where
  len : seen.length = N
  olen : out.length = m
  a : ∀ x, x ∈ wait → V x ∧ Steps mv start x
  b : ∀ x, V x → seen.getD (idx x) false = true → Steps mv start x
  c : ∀ x, V x → seen.getD (idx x) false = true → ∀ y, y ∈ mv x → y ∈ wait ∨ seen.getD (idx y) false = true
  d : start ∈ wait ∨ seen.getD (idx start) false = true
  e : ∀ q, out.getD q false = true → Steps mv start ⟨root, true, q⟩
  f : ∀ q, V ⟨root, true, q⟩ → seen.getD (idx ⟨root, true, q⟩) false = true → out.getD q false = true
variable {mv idx root} {N : Nat} {V : St → Prop}
theorem run2_spec (O : Ok mv idx N V) (hm2 : ∀ x, (mv x).length ≤ 2) (m : Nat) (start : St) (hroot : ∀ q, V ⟨root, true, q⟩ → q < m ∧ mv ⟨root, true, q⟩ = []) (hs : V start) : ∀ (k : Nat) (out seen : List Bool) (wait : List St), Inv2 mv idx root N m V start out seen wait → wait.length + 3 * fls seen < k →
    ∃ out', run2 mv idx root k out seen wait = some out' ∧ out'.length = m ∧ ∀ q, V ⟨root, true, q⟩ → (out'.getD q false = true ↔ Steps mv start ⟨root, true, q⟩) := by
  intro k
  induction k with
  | zero => intro out seen wait _ h; omega
  | succ k ih =>
    intro out seen wait I hk
    unfold run2
    cases hg : wait.getLast? with
    | none =>
      have : wait = [] := List.getLast?_eq_none_iff.1 hg
      subst this
      refine ⟨out, rfl, I.olen, fun q hq => ⟨I.e q, fun h => ?_⟩⟩
      have key : ∀ {x z}, Steps mv x z → V x → seen.getD (idx x) false = true → V z ∧ seen.getD (idx z) false = true := by
        intro x z h
        induction h with
        | refl => intro h1 h2; exact ⟨h1, h2⟩
        | step h _ ih =>
          intro h1 h2
          refine ih (O.mv _ _ h1 h) ?_
          rcases I.c _ h1 h2 _ h with h3 | h3
          · cases h3
          · exact h3
      refine I.f q hq (key h hs ?_).2
      rcases I.d with h | h
      · cases h
      · exact h
    | some x =>
      obtain ⟨init, rfl⟩ := List.getLast?_eq_some_iff.1 hg
      rw [List.dropLast_concat]
      have hx := I.a x (by simp)
      have hlt : idx x < seen.length := by rw [I.len]; exact O.lt x hx.1
      have low : ∀ {y}, y ∈ init ++ [x] → y ∈ init ∨ y = x := fun h => by simpa using h
      dsimp only
      by_cases hsx : seen.getD (idx x) false = true
      · rw [if_pos hsx]
        refine ih _ _ _ ⟨I.len, I.olen, fun y hy => I.a y (by simp [hy]), I.b, fun y hy h z hz => ?_, ?_, I.e, I.f⟩ (by simp at hk; omega)
        · rcases I.c y hy h z hz with h | h
          · rcases low h with h | rfl
            · exact .inl h
            · exact .inr hsx
          · exact .inr h
        · rcases I.d with h | h
          · rcases low h with h | h
            · exact .inl h
            · exact .inr (by rw [h]; exact hsx)
          · exact .inr h
      rw [if_neg hsx]
      have hsx : seen.getD (idx x) false = false := by simpa using hsx
      have hf := fls_set seen (idx x) hlt hsx
      have hset : ∀ j, (seen.set (idx x) true).getD j false = if idx x = j then true else seen.getD j false := fun j => getD_set _ _ _ hlt
      have hself : (seen.set (idx x) true).getD (idx x) false = true := by rw [hset, if_pos rfl]
      have hup : ∀ j, seen.getD j false = true → (seen.set (idx x) true).getD j false = true := fun j h => by rw [hset, h]; simp
      have hinv : ∀ y, V y → (seen.set (idx x) true).getD (idx y) false = true → y = x ∨ seen.getD (idx y) false = true := by
        intro y hy h
        rw [hset] at h
        by_cases e : idx x = idx y
        · exact .inl (O.inj y x hy hx.1 e.symm)
        · rw [if_neg e] at h; exact .inr h
      by_cases hr : x.ended = true ∧ x.node = root
      · rw [if_pos hr]
        obtain ⟨i, e, a⟩ := x
        obtain ⟨h1, h2⟩ := hr
        dsimp only at h1 h2
        subst h1; subst h2
        obtain ⟨ha, hm⟩ := hroot a hx.1
        have hout : ∀ q, (out.set a true).getD q false = if a = q then true else out.getD q false := fun q => getD_set _ _ _ (by rw [I.olen]; exact ha)
        refine ih _ _ _ ⟨by rw [List.length_set, I.len], by rw [List.length_set, I.olen], fun y hy => I.a y (by simp [hy]), fun y hy h => ?_, fun y hy h z hz => ?_, ?_, fun q hq => ?_, fun q hq hs => ?_⟩ (by simp at hk ⊢; omega)
        · rcases hinv y hy h with rfl | h
          · exact hx.2
          · exact I.b y hy h
        · rcases hinv y hy h with rfl | h
          · rw [hm] at hz; cases hz
          · rcases I.c y hy h z hz with h | h
            · rcases low h with h | rfl
              · exact .inl h
              · exact .inr hself
            · exact .inr (hup _ h)
        · rcases I.d with h | h
          · rcases low h with h | h
            · exact .inl h
            · exact .inr (by rw [h]; exact hself)
          · exact .inr (hup _ h)
        · dsimp only at hq
          rw [hout] at hq
          by_cases e : a = q
          · subst e; exact hx.2
          · rw [if_neg e] at hq; exact I.e q hq
        · dsimp only
          rw [hout]
          rcases hinv _ hq hs with h | h
          · have : q = a := congrArg St.at_ h
            rw [if_pos this.symm]
          · rw [I.f q hq h]; split <;> rfl
      · rw [if_neg hr]
        refine ih _ _ _ ⟨by rw [List.length_set, I.len], I.olen, fun y hy => ?_, fun y hy h => ?_, fun y hy h z hz => ?_, ?_, I.e, fun q hq hs => ?_⟩ (by have := hm2 x; rw [List.length_append] at hk ⊢; simp at hk; omega)
        · rw [List.mem_append] at hy
          rcases hy with h | h
          · exact I.a y (by simp [h])
          · exact ⟨O.mv x y hx.1 h, hx.2.snoc h⟩
        · rcases hinv y hy h with rfl | h
          · exact hx.2
          · exact I.b y hy h
        · rw [List.mem_append]
          rcases hinv y hy h with rfl | h
          · exact .inl (.inr hz)
          · rcases I.c y hy h z hz with h | h
            · rcases low h with h | rfl
              · exact .inl (.inl h)
              · exact .inr hself
            · exact .inr (hup _ h)
        · rw [List.mem_append]
          rcases I.d with h | h
          · rcases low h with h | h
            · exact .inl (.inl h)
            · exact .inr (by rw [h]; exact hself)
          · exact .inr (hup _ h)
        · rcases hinv _ hq hs with h | h
          · exact absurd (by rw [← h]; exact ⟨rfl, rfl⟩) hr
          · exact I.f q hq h
end
end Go.Proofs.Ythnfmpieoondaaa.Mt
end

/- What match.ends and dragomanref06.from1 compute, in plain words. -/
section
set_option linter.unusedVariables false
set_option linter.unusedSimpArgs false
namespace Go.Proofs.Ythnfmpieoondaaa.P
open Go.RowKit Go.Proofs.YthnfmpieoondaaaW.PrintWords Go.Proofs.Ythnfmpieoondaaa.QA Go.Proofs.Ythnfmpieoondaaa.G Go.Proofs.Ythnfmpieoondaaa.Mt
def sb (s : ByteArray) (i : Nat) : Nat := (bt s i).toNat
/-- Is a byte in a class? -/
def hasB (y : S53) (c : Nat) : Bool := bits .and .u64 (sel y.f0 y.f1 y.f2 y.f3 ((c : Int) / 64) / 2 ^ ((c : Int) % 64).toNat) 1 == 1
def ndOf (l : List S55) (i : Nat) : Nd := ⟨(rd_T55 l i).f0, hasB (rd_T55 l i).f1, (rd_T55 l i).f2.f0.toNat, (rd_T55 l i).f2.f1.toNat⟩
def toS (x : St) : S113 := ⟨x.node, x.ended, x.at_⟩
def enc3 (x : St) : Int × Bool × Int := (x.node, x.ended, x.at_)
def Vl (n m : Nat) (x : St) : Prop := x.node < n ∧ x.at_ < m
def ix (n m : Nat) (x : St) : Nat := x.node * m + (if x.ended = true then n * m else 0) + x.at_
/-- The kids of a node are told by numbers that aren't below 0. -/
def KidsOk (l : List S55) : Prop := ∀ i, i < l.length → (2 ≤ (rd_T55 l i).f0 → (rd_T55 l i).f0 ≤ 6 → 0 ≤ (rd_T55 l i).f2.f0) ∧ ((rd_T55 l i).f0 = 2 ∨ (rd_T55 l i).f0 = 3 → 0 ≤ (rd_T55 l i).f2.f1)
theorem div_mod_eq {m a b c d : Nat} (ha : b < m) (hb : d < m) (h : a * m + b = c * m + d) : a = c ∧ b = d := by
  have h1 : (a * m + b) / m = a := by rw [Nat.mul_comm, Nat.mul_add_div (by omega), Nat.div_eq_of_lt ha]; rfl
  have h2 : (c * m + d) / m = c := by rw [Nat.mul_comm, Nat.mul_add_div (by omega), Nat.div_eq_of_lt hb]; rfl
  have h3 : a = c := by rw [← h1, ← h2, h]
  subst h3
  exact ⟨rfl, by omega⟩
theorem ix_lt {n m : Nat} {x : St} (h : Vl n m x) : ix n m x < 2 * (n * m) := by
  have := idx_lt h.1 h.2
  unfold ix
  split <;> omega
theorem ix_inj {n m : Nat} {x y : St} (hx : Vl n m x) (hy : Vl n m y) (h : ix n m x = ix n m y) : x = y := by
  obtain ⟨i, e, a⟩ := x
  obtain ⟨j, f, b⟩ := y
  have l1 := idx_lt hx.1 hx.2
  have l2 := idx_lt hy.1 hy.2
  unfold ix at h
  dsimp only at h l1 l2
  cases e <;> cases f
  · obtain ⟨rfl, rfl⟩ := div_mod_eq hx.2 hy.2 (by simpa using h)
    rfl
  · simp at h; omega
  · simp at h; omega
  · have h : i * m + n * m + a = j * m + n * m + b := by simpa using h
    obtain ⟨rfl, rfl⟩ := div_mod_eq hx.2 hy.2 (show i * m + a = j * m + b by omega)
    rfl
section
variable {l : List S55} {s : ByteArray} {up : List Int}
theorem bt_sb (s : ByteArray) (a : Nat) : bt s a = (sb s a : Int) := by
  unfold sb; have := bt_range s a; omega
theorem sb_le (s : ByteArray) (a : Nat) : sb s a ≤ 255 := by
  unfold sb; have := bt_range s a; omega
theorem class_has (y : S53) (c : Nat) (h : c ≤ 255) : class_Has.f y.f0 y.f1 y.f2 y.f3 (c : Int) = some (hasB y c) := by
  unfold class_Has.f hasB; rw [if_pos ⟨by omega, by omega⟩]
theorem moves_eq (T : Tree (ndOf l) l.length (fun j => up.getD j 0)) (hK : KidsOk l) (x : St) (hx : Vl l.length (s.size + 1) x) (hne : ¬ (x.ended = true ∧ up.getD x.node 0 < 0)) :
    movesL l up s (toS x) = some ((moves (ndOf l) s.size (sb s) (fun j => up.getD j 0) x).map enc3) := by
  obtain ⟨i, e, a⟩ := x
  dsimp only [Vl] at hx hne
  unfold movesL moves toS
  dsimp only
  cases e with
  | true =>
    rw [if_pos rfl, if_pos rfl, Int.toNat_natCast]
    have hup : ¬ up.getD i 0 < 0 := fun z => hne ⟨rfl, z⟩
    rw [if_neg hup]
    have hi : i < l.length - 1 := by
      have : i ≠ l.length - 1 := fun z => hup (by rw [z, show up.getD (l.length - 1) 0 = -1 from T.root]; decide)
      omega
    obtain ⟨p, hp0, hpn, hk⟩ := T.par i hi
    have hp : up.getD i 0 = (p : Nat) := hp0
    rw [hp, if_pos ⟨by omega, by omega⟩, Int.toNat_natCast]
    have hn : ndOf l p = ⟨(rd_T55 l p).f0, hasB (rd_T55 l p).f1, (rd_T55 l p).f2.f0.toNat, (rd_T55 l p).f2.f1.toNat⟩ := rfl
    rw [hn]
    dsimp only
    have k1 := hK p hpn
    by_cases h45 : (rd_T55 l p).f0 = 4 ∨ (rd_T55 l p).f0 = 5
    · rw [if_pos h45, if_pos h45]; rfl
    rw [if_neg h45, if_neg h45]
    by_cases h2 : (rd_T55 l p).f0 = 2
    · rw [if_pos h2]
      have z0 := k1.1 (by omega) (by omega)
      have z1 := k1.2 (.inl h2)
      by_cases hh : (rd_T55 l p).f2.f0 = (i : Int)
      · rw [if_pos hh, if_pos ⟨h2, by omega⟩]
        simp only [List.map_cons, List.map_nil, enc3, Option.some.injEq, List.cons.injEq, Prod.mk.injEq, and_true]
        omega
      · rw [if_neg hh, if_neg (by omega)]; rfl
    · rw [if_neg h2, if_neg (by omega)]; rfl
  | false =>
    rw [if_neg (show ¬ false = true by decide), if_neg (show ¬ false = true by decide)]
    have hn : ndOf l i = ⟨(rd_T55 l i).f0, hasB (rd_T55 l i).f1, (rd_T55 l i).f2.f0.toNat, (rd_T55 l i).f2.f1.toNat⟩ := rfl
    rw [hn]
    dsimp only
    have k1 := hK i hx.1
    have kinds := T.kinds i hx.1
    rw [hn] at kinds
    dsimp only at kinds
    have e1 : ((rd_T55 l i).f0 = 0 ∨ (rd_T55 l i).f0 = 7 ∧ (a : Int) = 0 ∨ (rd_T55 l i).f0 = 8 ∧ (a : Int) = (s.size : Int)) = ((rd_T55 l i).f0 = 0 ∨ (rd_T55 l i).f0 = 7 ∧ a = 0 ∨ (rd_T55 l i).f0 = 8 ∧ a = s.size) := by
      apply propext; omega
    simp only [e1]
    by_cases q0 : (rd_T55 l i).f0 = 0 ∨ (rd_T55 l i).f0 = 7 ∧ a = 0 ∨ (rd_T55 l i).f0 = 8 ∧ a = s.size
    · rw [if_pos q0, if_pos q0]; rfl
    rw [if_neg q0, if_neg q0]
    by_cases q1 : (rd_T55 l i).f0 = 1
    · rw [if_pos q1, if_pos q1]
      by_cases ha : a < s.size
      · rw [if_pos (by omega), bt_sb, class_has _ _ (sb_le s a), Option.bind_some]
        by_cases hb : hasB (rd_T55 l i).f1 (sb s a) = true
        · rw [if_pos hb, if_pos ⟨ha, hb⟩]; simp [enc3]
        · rw [if_neg hb, if_neg (fun z => hb z.2)]; rfl
      · rw [if_neg (by omega), if_neg (fun z => ha z.1)]; rfl
    rw [if_neg q1, if_neg q1]
    by_cases q2 : (rd_T55 l i).f0 = 2 ∨ (rd_T55 l i).f0 = 5
    · rw [if_pos q2, if_pos q2]
      have z0 := k1.1 (by omega) (by omega)
      simp only [List.map_cons, List.map_nil, enc3, Option.some.injEq, List.cons.injEq, Prod.mk.injEq, and_true]
      omega
    rw [if_neg q2, if_neg q2]
    by_cases q3 : (rd_T55 l i).f0 = 3
    · rw [if_pos q3, if_pos q3]
      have z0 := k1.1 (by omega) (by omega)
      have z1 := k1.2 (.inr q3)
      simp only [List.map_cons, List.map_nil, enc3, Option.some.injEq, List.cons.injEq, Prod.mk.injEq, and_true, true_and]
      omega
    rw [if_neg q3, if_neg q3]
    by_cases q4 : (rd_T55 l i).f0 = 4 ∨ (rd_T55 l i).f0 = 6
    · rw [if_pos q4, if_pos q4]
      have z0 := k1.1 (by omega) (by omega)
      simp only [List.map_cons, List.map_nil, enc3, Option.some.injEq, List.cons.injEq, Prod.mk.injEq, and_true, true_and]
      omega
    rw [if_neg q4, if_neg q4]; rfl
theorem moves_valid (T : Tree (ndOf l) l.length (fun j => up.getD j 0)) (x y : St) (hx : Vl l.length (s.size + 1) x) (hy : y ∈ moves (ndOf l) s.size (sb s) (fun j => up.getD j 0) x) : Vl l.length (s.size + 1) y := by
  obtain ⟨i, e, a⟩ := x
  dsimp only [Vl] at hx ⊢
  unfold moves at hy
  dsimp only at hy
  cases e with
  | true =>
    rw [if_pos rfl] at hy
    by_cases hu : up.getD i 0 < 0
    · rw [if_pos hu] at hy; cases hy
    rw [if_neg hu] at hy
    have hi : i < l.length - 1 := by
      have : i ≠ l.length - 1 := fun z => hu (by rw [z, show up.getD (l.length - 1) 0 = -1 from T.root]; decide)
      omega
    obtain ⟨p, hp0, hpn, hk⟩ := T.par i hi
    have hp : up.getD i 0 = (p : Nat) := hp0
    rw [hp, Int.toNat_natCast] at hy
    by_cases h45 : (ndOf l p).kind = 4 ∨ (ndOf l p).kind = 5
    · rw [if_pos h45] at hy
      simp only [List.mem_cons, List.not_mem_nil, or_false] at hy
      rcases hy with rfl | rfl
      · exact ⟨hpn, hx.2⟩
      · exact hx
    rw [if_neg h45] at hy
    by_cases h2 : (ndOf l p).kind = 2 ∧ (ndOf l p).k0 = i
    · rw [if_pos h2] at hy
      simp only [List.mem_cons, List.not_mem_nil, or_false] at hy
      subst hy
      have := T.kid1 p hpn (.inl h2.1)
      exact ⟨by show (ndOf l p).k1 < _; omega, hx.2⟩
    · rw [if_neg h2] at hy
      simp only [List.mem_cons, List.not_mem_nil, or_false] at hy
      subst hy
      exact ⟨hpn, hx.2⟩
  | false =>
    rw [if_neg (by decide)] at hy
    have K0 := T.kid0 i hx.1
    have K1 := T.kid1 i hx.1
    split at hy
    · simp only [List.mem_cons, List.not_mem_nil, or_false] at hy; subst hy; exact hx
    split at hy
    · split at hy
      · rename_i _ _ h
        simp only [List.mem_cons, List.not_mem_nil, or_false] at hy; subst hy; exact ⟨hx.1, by show a + 1 < _; omega⟩
      · cases hy
    split at hy
    · simp only [List.mem_cons, List.not_mem_nil, or_false] at hy; subst hy; have := (K0 (by omega) (by omega)).1; exact ⟨by show (ndOf l i).k0 < _; omega, hx.2⟩
    split at hy
    · rename_i _ _ _ h
      simp only [List.mem_cons, List.not_mem_nil, or_false] at hy
      have z0 := (K0 (by omega) (by omega)).1
      have z1 := (K1 (.inr h)).1
      rcases hy with rfl | rfl
      · exact ⟨by show (ndOf l i).k0 < _; omega, hx.2⟩
      · exact ⟨by show (ndOf l i).k1 < _; omega, hx.2⟩
    split at hy
    · simp only [List.mem_cons, List.not_mem_nil, or_false] at hy
      have z0 := (K0 (by omega) (by omega)).1
      rcases hy with rfl | rfl
      · exact hx
      · exact ⟨by show (ndOf l i).k0 < _; omega, hx.2⟩
    · cases hy
end
end Go.Proofs.Ythnfmpieoondaaa.P
end

/- match.ends and dragomanref06.from1 come to the same: all places to which the tree stands. -/
section
set_option linter.unusedVariables false
set_option linter.unusedSimpArgs false
namespace Go.Proofs.Ythnfmpieoondaaa.P
open Go.RowKit Go.Proofs.YthnfmpieoondaaaW.PrintWords Go.Proofs.Ythnfmpieoondaaa.QA Go.Proofs.Ythnfmpieoondaaa.G Go.Proofs.Ythnfmpieoondaaa.Mt
theorem getLast_map {α β : Type} (f : α → β) (l : List α) : (l.map f).getLast? = l.getLast?.map f := by
  rw [List.getLast?_map]
theorem reach_eq {n m : Nat} (hb : 2 * (n * m) ≤ 1000000) : ∀ (ys : List St) (seen : List Bool) (wait : List St), seen.length = 2 * (n * m) → (∀ y, y ∈ ys → Vl n m y) → wait.length + fls seen ≤ 2 * (n * m) →
    reachAll n m (ys.map enc3) (seen, wait.map toS) = some ((rch (ix n m) ys (seen, wait)).1, (rch (ix n m) ys (seen, wait)).2.map toS)
  | [], seen, wait, _, _, _ => rfl
  | y :: r, seen, wait, hl, hv, hc => by
    have hy := hv y (by simp)
    have hlt := ix_lt hy
    have hr : ∀ z, z ∈ r → Vl n m z := fun z hz => hv z (by simp [hz])
    rw [List.map_cons]
    obtain ⟨i, e, a⟩ := y
    unfold enc3 reachAll rch
    dsimp only
    have hp : reachP n m (seen, wait.map toS) i e a = some (if seen.getD (ix n m ⟨i, e, a⟩) false = true then (seen, wait.map toS) else (seen.set (ix n m ⟨i, e, a⟩) true, (wait ++ [(⟨i, e, a⟩ : St)]).map toS)) := by
      unfold reachP
      rw [if_pos ⟨by omega, by have := hy.1; dsimp only at this; omega, by omega, by have := hy.2; dsimp only at this; omega, hl, by omega, by simp; omega⟩]
      simp only [Int.toNat_natCast]
      have hix : i * m + (if e = true then n * m else 0) + a = ix n m ⟨i, e, a⟩ := rfl
      rw [hix]
      by_cases h : seen.getD (ix n m ⟨i, e, a⟩) false = true
      · rw [if_pos h, if_pos h]
      · rw [if_neg h, if_neg h]; simp [toS]
    rw [hp, Option.bind_some]
    by_cases h : seen.getD (ix n m ⟨i, e, a⟩) false = true
    · rw [if_pos h, if_pos h]
      exact reach_eq hb r seen wait hl hr hc
    · rw [if_neg h, if_neg h]
      have hf := fls_set seen (ix n m ⟨i, e, a⟩) (by rw [hl]; exact hlt) (by simpa using h)
      exact reach_eq hb r (seen.set (ix n m ⟨i, e, a⟩) true) (wait ++ [⟨i, e, a⟩]) (by rw [List.length_set, hl]) hr (by rw [List.length_append]; simp; omega)
section
variable {l : List S55} {s : ByteArray} {up : List Int}
theorem ok_mv (T : Tree (ndOf l) l.length (fun j => up.getD j 0)) : Ok (moves (ndOf l) s.size (sb s) (fun j => up.getD j 0)) (ix l.length (s.size + 1)) (2 * (l.length * (s.size + 1))) (Vl l.length (s.size + 1)) :=
  ⟨fun x y hx hy h => ix_inj hx hy h, fun x hx => ix_lt hx, fun x y hx hy => moves_valid T x y hx hy⟩
theorem up_root (T : Tree (ndOf l) l.length (fun j => up.getD j 0)) (i : Nat) (hi : i < l.length) : up.getD i 0 < 0 ↔ i = l.length - 1 := by
  constructor
  · intro h
    by_cases h2 : i < l.length - 1
    · obtain ⟨p, hp, _, _⟩ := T.par i h2
      have hp : up.getD i 0 = (p : Nat) := hp
      omega
    · omega
  · intro h
    rw [h, show up.getD (l.length - 1) 0 = -1 from T.root]; decide
theorem endsL_run (T : Tree (ndOf l) l.length (fun j => up.getD j 0)) (hK : KidsOk l) (hb : 2 * (l.length * (s.size + 1)) ≤ 1000000) : ∀ (k : Nat) (out seen : List Bool) (wait : List St), seen.length = 2 * (l.length * (s.size + 1)) → out.length = s.size + 1 → (∀ x, x ∈ wait → Vl l.length (s.size + 1) x) → wait.length + fls seen ≤ 2 * (l.length * (s.size + 1)) →
    endsL l up s k out (seen, wait.map toS) = run (moves (ndOf l) s.size (sb s) (fun j => up.getD j 0)) (ix l.length (s.size + 1)) (l.length - 1) k out (seen, wait)
  | 0, _, _, _, _, _, _, _ => rfl
  | k + 1, out, seen, wait, hl, ho, hv, hc => by
    unfold endsL run
    dsimp only
    rw [getLast_map]
    cases hg : wait.getLast? with
    | none => rfl
    | some x =>
      obtain ⟨init, rfl⟩ := List.getLast?_eq_some_iff.1 hg
      have hx := hv x (by simp)
      have hc' : init.length + 1 + fls seen ≤ 2 * (l.length * (s.size + 1)) := by simpa using hc
      rw [Option.map_some]
      dsimp only
      rw [List.map_append, List.map_cons, List.map_nil, List.dropLast_concat, List.dropLast_concat]
      obtain ⟨i, e, a⟩ := x
      have h1 := hx.1
      have h2 := hx.2
      dsimp only at h1 h2
      unfold toS
      dsimp only
      rw [if_pos ⟨by omega, by omega, by omega, by rw [ho]; omega, by simp; omega⟩, Int.toNat_natCast, Int.toNat_natCast]
      have hroot := up_root T i h1
      by_cases hr : e = true ∧ i = l.length - 1
      · rw [if_pos hr, if_pos ⟨hr.1, hroot.2 hr.2⟩]
        exact endsL_run T hK hb k _ seen init hl (by rw [List.length_set, ho]) (fun x hx => hv x (by simp [hx])) (by omega)
      · have hne : ¬ (e = true ∧ up.getD i 0 < 0) := fun z => hr ⟨z.1, hroot.1 z.2⟩
        rw [if_neg hr, if_neg hne]
        have hm := moves_eq (s := s) T hK ⟨i, e, a⟩ hx hne
        unfold toS at hm
        dsimp only at hm
        have hvm := fun y hy => moves_valid (s := s) T ⟨i, e, a⟩ y hx hy
        rw [hm, Option.bind_some, ho]
        have hre := reach_eq hb (moves (ndOf l) s.size (sb s) (fun j => up.getD j 0) ⟨i, e, a⟩) seen init hl hvm (by omega)
        have hfold : (init.map fun x => (⟨x.node, x.ended, x.at_⟩ : S113)) = init.map toS := rfl
        rw [hfold, hre, Option.bind_some]
        obtain ⟨g1, g2, g3, g4, g5⟩ := rch_spec (ok_mv (s := s) T) (moves (ndOf l) s.size (sb s) (fun j => up.getD j 0) ⟨i, e, a⟩) seen init hl hvm
        cases hR : rch (ix l.length (s.size + 1)) (moves (ndOf l) s.size (sb s) (fun j => up.getD j 0) ⟨i, e, a⟩) (seen, init) with
        | mk seen' wait' =>
        rw [hR] at g1 g2 g5
        exact endsL_run T hK hb k out seen' wait' g1 ho (fun x hx => (g5 x hx).elim (fun h => hv x (by simp [h])) (hvm x)) (by dsimp only at g2; omega)
open Classical in
/-- All places to which the tree stands from a on. -/
noncomputable def EL (l : List S55) (s : ByteArray) (a : Nat) : List Bool := (List.range (s.size + 1)).map fun b => decide (M (ndOf l) s.size (sb s) (l.length - 1) a b)
theorem EL_length (l : List S55) (s : ByteArray) (a : Nat) : (EL l s a).length = s.size + 1 := by simp [EL]
theorem EL_get (l : List S55) (s : ByteArray) (a b : Nat) (hb : b ≤ s.size) : (EL l s a).getD b false = true ↔ M (ndOf l) s.size (sb s) (l.length - 1) a b := by
  unfold EL
  rw [List.getD_eq_getElem?_getD, List.getElem?_map, List.getElem?_range (by omega)]
  simp
theorem bools_ext {x y : List Bool} (h : x.length = y.length) (k : ∀ b, b < x.length → (x.getD b false = true ↔ y.getD b false = true)) : x = y := by
  apply List.ext_getElem h
  intro i h1 h2
  have := k i h1
  simp only [List.getD_eq_getElem?_getD, List.getElem?_eq_getElem h1, List.getElem?_eq_getElem h2, Option.getD_some] at this
  exact Bool.eq_iff_iff.2 this
theorem repl_get (m j : Nat) : (List.replicate m false).getD j false = false := by
  rw [List.getD_eq_getElem?_getD, List.getElem?_replicate]
  split <;> rfl
theorem fls_repl (m : Nat) : fls (List.replicate m false) = m := by
  unfold fls; rw [List.countP_replicate]; simp
/-- How many rounds are enough. -/
theorem ends_spec (T : Tree (ndOf l) l.length (fun j => up.getD j 0)) (hK : KidsOk l) (hb : 2 * (l.length * (s.size + 1)) ≤ 1000000) (a : Nat) (ha : a ≤ s.size) (k : Nat) (hk : 4 * (l.length * (s.size + 1)) < k) :
    ((reachP l.length (s.size + 1) (List.replicate (2 * (l.length * (s.size + 1))) false, []) ((l.length : Int) - 1) false a).bind fun sw => endsL l up s k (List.replicate (s.size + 1) false) sw) = some (EL l s a) := by
  have hn := T.pos
  have hst : Vl l.length (s.size + 1) ⟨l.length - 1, false, a⟩ := ⟨by show l.length - 1 < _; omega, by show a < _; omega⟩
  have hlt := ix_lt hst
  have h1 := reach_eq hb [⟨l.length - 1, false, a⟩] (List.replicate (2 * (l.length * (s.size + 1))) false) [] (by simp) (fun y hy => by simp at hy; subst hy; exact hst) (by rw [fls_repl]; simp)
  unfold rch at h1
  rw [if_neg (by rw [repl_get]; decide)] at h1
  unfold rch at h1
  have h2 := reach1 (show reachAll _ _ [(((l.length - 1 : Nat) : Int), false, (a : Int))] (_, []) = _ from h1)
  rw [show (((l.length - 1 : Nat) : Int)) = (l.length : Int) - 1 by omega] at h2
  rw [h2, Option.bind_some]
  dsimp only
  have hset := getD_set (List.replicate (2 * (l.length * (s.size + 1))) false) (ix l.length (s.size + 1) ⟨l.length - 1, false, a⟩)
  have hfl := fls_set (List.replicate (2 * (l.length * (s.size + 1))) false) (ix l.length (s.size + 1) ⟨l.length - 1, false, a⟩) (by simpa using hlt) (repl_get _ _)
  rw [fls_repl] at hfl
  rw [endsL_run T hK hb k _ _ _ (by simp) (by simp) (fun x hx => by simp at hx; subst hx; exact hst) (by simp; omega)]
  have hI : Inv (moves (ndOf l) s.size (sb s) (fun j => up.getD j 0)) (ix l.length (s.size + 1)) (l.length - 1) (2 * (l.length * (s.size + 1))) (s.size + 1) (Vl l.length (s.size + 1)) ⟨l.length - 1, false, a⟩ (List.replicate (s.size + 1) false) ((List.replicate (2 * (l.length * (s.size + 1))) false).set (ix l.length (s.size + 1) ⟨l.length - 1, false, a⟩) true) [⟨l.length - 1, false, a⟩] := by
    refine ⟨by simp, by simp, ?_, ?_, ?_, ?_, ?_, ?_⟩
    · intro x hx
      simp at hx; subst hx
      exact ⟨hst, by rw [hset _ (by simpa using hlt), if_pos rfl]⟩
    · intro x hx h
      rw [hset _ (by simpa using hlt)] at h
      by_cases e : ix l.length (s.size + 1) ⟨l.length - 1, false, a⟩ = ix l.length (s.size + 1) x
      · rw [ix_inj hst hx e]; exact .refl _
      · rw [if_neg e, repl_get] at h; cases h
    · intro x hx h
      rw [hset _ (by simpa using hlt)] at h
      by_cases e : ix l.length (s.size + 1) ⟨l.length - 1, false, a⟩ = ix l.length (s.size + 1) x
      · rw [ix_inj hst hx e]; exact .inl (by simp)
      · rw [if_neg e, repl_get] at h; cases h
    · rw [hset _ (by simpa using hlt), if_pos rfl]
    · intro q h
      rw [repl_get] at h; cases h
    · intro q hq h
      rw [hset _ (by simpa using hlt)] at h
      by_cases e : ix l.length (s.size + 1) ⟨l.length - 1, false, a⟩ = ix l.length (s.size + 1) ⟨l.length - 1, true, q⟩
      · have := ix_inj hst hq e; simp at this
      · rw [if_neg e, repl_get] at h; cases h
  obtain ⟨out', h3, h4, h5⟩ := run_spec (ok_mv (s := s) T) (s.size + 1) ⟨l.length - 1, false, a⟩ (root := l.length - 1) (fun q hq => ⟨hq.2, by
      unfold moves
      rw [if_pos rfl, if_pos ((up_root T _ hq.1).2 rfl)]⟩) hst k _ _ _ hI (by simp only [List.length_cons, List.length_nil]; omega)
  rw [List.nil_append, h3]
  congr 1
  apply bools_ext (by rw [h4, EL_length])
  intro b hb2
  rw [h4] at hb2
  rw [h5 b ⟨by show l.length - 1 < _; omega, hb2⟩, EL_get l s a b (by omega)]
  exact Mt.steps_iff T
end
end Go.Proofs.Ythnfmpieoondaaa.P
end
