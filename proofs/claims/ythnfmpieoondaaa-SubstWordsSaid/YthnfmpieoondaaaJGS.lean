/- match.each and match.Spans, walked. -/
import Derived.Test.YthnfmpieoondaaaJQBx
import Derived.RangeFuncNested
import Derived.RangeFuncBound
import Derived.RangeFuncCalls
import Derived.RangeFuncLeaves
import Derived.Shelf.Abstract
import Derived.Shelf.RegionOpen
import Derived.WalkKit
import Derived.OwnWalkIn
import Derived.TacticsInMore
import Derived.LoopNIn
import Derived.LoopIn
import Derived.Outline
import Derived.Deep.LoopGhost
set_option linter.unusedVariables false
set_option linter.unusedSimpArgs false
namespace Go.Proofs.Ythnfmpieoondaaa.G
open Go.RowKit Go.Shelf Go.Proofs.YthnfmpieoondaaaW.PrintWords Go.Proofs.YthnfmpieoondaaaW.PrintLast Go.Proofs.YthnfmpieoondaaaW.PrintMore Go.Proofs.Ythnfmpieoondaaa.QA Go.Proofs.Ythnfmpieoondaaa.QB
attribute [local go_sem] Oper.semAt_some
/-- What comes of a range over spans. -/
def spansL (l : List S55) (s : ByteArray) : Nat → Int → Int → Option (List S28)
  | 0, _, _ => none
  | k + 1, last, at_ => if at_ ≤ (s.size : Int) then (match_Span.f k l s at_).bind fun r =>
      if r.2.2 = true then (if r.1 = r.2.1 ∧ r.1 = last then spansL l s k (-1) (wrap64 (r.1 + 1)) else (spansL l s k r.2.1 r.2.1).map (fun ys => ⟨r.1, r.2.1⟩ :: ys)) else some [] else some []
/-- What a round keeps: all that lay, and two blocks more. -/
structure KP (n b1 b2 : Nat) (A B : World) : Prop where
  bel : Below n A B
  e1 : B.heap[b1]? = A.heap[b1]?
  e2 : B.heap[b2]? = A.heap[b2]?
theorem KP.refl (n b1 b2 : Nat) (A : World) : KP n b1 b2 A A := ⟨Below.refl _ _, rfl, rfl⟩
theorem KP.trans {n b1 b2 : Nat} {A B C : World} (h : KP n b1 b2 A B) (k : KP n b1 b2 B C) : KP n b1 b2 A C := ⟨h.bel.trans k.bel, k.e1.trans h.e1, k.e2.trans h.e2⟩
theorem KP.of {n b1 b2 : Nat} {A B : World} (h : Below A.heap.size A B) (hn : n ≤ A.heap.size) (h1 : b1 < A.heap.size) (h2 : b2 < A.heap.size) : KP n b1 b2 A B := ⟨h.mono hn, h.block _ h1, h.block _ h2⟩
theorem cell_same {A B : World} {g i : Nat} {v : Value} (e : B.heap[g]? = A.heap[g]?) (h : A.cell? ⟨g, i, none⟩ = some v) : B.cell? ⟨g, i, none⟩ = some v := by
  rw [← h]
  simp [World.cell?, e]
/-- What holds at the head of a round. -/
def eachR (l0 : List S55) (s : ByteArray) (xs : List S28) (J : List S28 → World → Prop) (n₀ Bs Bt : Nat) (W1 : World) (m : Nat) (v4 v5 : Value) (wr : World) : Prop :=
  ∃ (last at_ : Int) (pre rest : List S28), v4 = .int .i64 last ∧ v5 = .int .i64 at_ ∧ spansL l0 s m last at_ = some rest ∧ xs = pre ++ rest ∧ J pre wr ∧ KP n₀ Bs Bt W1 wr
theorem least_le {p : Nat → Prop} {m : Nat} (h : p m) : leastOf p ≤ m := (leastOf_spec ⟨m, h⟩).2 m h
theorem take_least {p : Nat → Prop} (h : ∃ n, p n) : ∃ m, m = leastOf p ∧ p m := ⟨_, rfl, (leastOf_spec h).1⟩
set_option maxRecDepth 100000 in
set_option maxHeartbeats 4000000 in
theorem each1_in (n : Nat) (hn : 1 ≤ n) (l Bs Bt n₀ : Nat) (A0 : Option Addr) (c0 : Nat) (l0 : List S55) (s : ByteArray) (k : Nat) (xs : List S28) (hx : spansL l0 s k (-1) 0 = some xs) (hc0 : l0.length ≤ c0) (J Jx : List S28 → World → Prop) (W : World) (hn0 : n₀ ≤ W.heap.size) (hBs : Bs < W.heap.size) (hBt : Bt < W.heap.size)
    (hJ : ∀ s_ A B, J s_ A → Below A.heap.size A B → J s_ B)
    (hY : ∀ pre x W, J pre W → pre.length < xs.length → YieldAt Fence.wide (n - 1) Try.prog l #[.agg #[.int .i64 x.f0, .int .i64 x.f1]] W fun e W' =>
      (e = .returned (.bool true) ∧ J (pre ++ [x]) W' ∧ KP n₀ Bs Bt W W') ∨ (e = .returned (.bool false) ∧ Jx (pre ++ [x]) W'))
    (hbs : W.cell? ⟨Bs, 0, none⟩ = some (.string s)) (hbt : W.cell? ⟨Bt, 0, none⟩ = some (.slice A0 l0.length c0)) (hR : ∀ W', KP n₀ Bs Bt W W' → Kd.C k55 W' A0 l0.length l0) (h0 : J [] W) :
    CallsIn Fence.wide n Try.prog 65 #[.func (.yield l) #[] #[], .pointer (some ⟨Bs, 0, none⟩), .pointer (some ⟨Bt, 0, none⟩)] W fun e W' => (∃ v, e = .returned v) ∧
      ((∃ ys, ys = xs ∧ J ys W') ∨ (∃ pre, pre <+: xs ∧ Jx pre W')) := by
  have HX := Lib.hid hx
  have HR := Lib.hid hR
  have HJ := Lib.hid hJ
  have HN := Lib.hid hn0
  clear hx hR hJ hn0
  refine callsIn_of_wp Try.func65 rfl trivial ?_ rfl
  simp only [Try.ntmps65, List.size_toArray, List.length_cons, List.length_nil, Nat.reduceAdd, Nat.reduceSub, Array.replicate_succ, Array.replicate_zero, List.push_toArray, List.append_toArray, List.nil_append, List.cons_append]
  gi_wp2
  gi_loopw [4, 5] (fun v4 v5 wr => ∃ m, eachR l0 s xs J n₀ Bs Bt W m v4 v5 wr) (fun v4 v5 wr => leastOf (fun m => eachR l0 s xs J n₀ Bs Bt W m v4 v5 wr))
  case atStart =>
    exact ⟨k, -1, 0, [], xs, rfl, rfl, HX.out, rfl, h0, KP.refl _ _ _ _⟩
  case round =>
    obtain ⟨m, hm, last, at_, pre, rest, rfl, rfl, hL, hxs, hJp, hB⟩ := take_least hrel
    have HM := Lib.hid hm
    have HL := Lib.hid hL
    have HXS := Lib.hid hxs
    have HB := Lib.hid hB
    clear hm hL hxs hrel
    have qs : wr.cell? ⟨Bs, 0, none⟩ = some (.string s) := cell_same hB.e1 hbs
    have qt : wr.cell? ⟨Bt, 0, none⟩ = some (.slice A0 l0.length c0) := cell_same hB.e2 hbt
    clear hB
    cases m with
    | zero => exact absurd HL.out (by simp [spansL])
    | succ m =>
    have hL := HL.out
    simp only [spansL] at hL
    by_cases hat : at_ ≤ (s.size : Int)
    case neg =>
      rw [if_neg hat] at hL
      obtain rfl := Option.some.inj hL
      have hd : decide (at_ ≤ (s.size : Int)) = false := decide_eq_false hat
      clear hL hat
      gi_wp2
      go_end0
      exact ⟨⟨_, rfl⟩, .inl ⟨pre, by rw [HXS.out]; simp, hJp⟩⟩
    rw [if_pos hat] at hL
    have hd : decide (at_ ≤ (s.size : Int)) = true := decide_eq_true hat
    clear hat
    cases hsp : match_Span.f m l0 s at_ with
    | none => rw [hsp] at hL; cases hL
    | some r =>
    obtain ⟨a, b, is⟩ := r
    rw [hsp, Option.bind_some] at hL
    dsimp only at hL
    have HSP := Lib.hid hsp
    have HLL := Lib.hid hL
    clear hsp hL
    have hC : Kd.C k55 wr A0 l0.length l0 := HR.out _ HB.out
    have HC := Lib.hid hC
    clear hC
    cases is with
    | false =>
      have hL := HLL.out
      rw [if_neg (by decide)] at hL
      obtain rfl := Option.some.inj hL
      clear hL
      gi_wp2_with (refine ⟨trivial, ?_⟩; gi_at_call 34; refine (callsIn_wide.2 (match_Span.calls m _ _ l0 s at_ _ _ _ _ HC.out hc0 HSP.out)).mono ?_; rintro e w' ⟨rfl, hb⟩)
      refine bodyPost_ret (results_none rfl _ _ _) rfl ?_
      exact ⟨⟨_, rfl⟩, .inl ⟨pre, by rw [HXS.out]; simp, HJ.out _ _ _ hJp hb⟩⟩
    | true =>
      have hL := HLL.out
      rw [if_pos rfl] at hL
      by_cases hab : a = b ∧ a = last
      · rw [if_pos hab] at hL
        obtain ⟨rfl, rfl⟩ := hab
        have HL3 := Lib.hid hL
        clear hL
        gi_wp2_with (refine ⟨trivial, ?_⟩; gi_at_call 34; refine (callsIn_wide.2 (match_Span.calls m _ _ l0 s at_ _ _ _ _ HC.out hc0 HSP.out)).mono ?_; rintro e w' ⟨rfl, hb⟩)
        have hB2 := HB.out.trans (KP.of hb (Nat.le_trans HN.out HB.out.bel.size) (Nat.lt_of_lt_of_le hBs HB.out.bel.size) (Nat.lt_of_lt_of_le hBt HB.out.bel.size))
        go_roundw
        case rel => exact ⟨m, _, _, pre, rest, rfl, rfl, HL3.out, HXS.out, HJ.out _ _ _ hJp hb, hB2⟩
        case measure => exact Nat.lt_of_le_of_lt (least_le ⟨_, _, pre, rest, rfl, rfl, HL3.out, HXS.out, HJ.out _ _ _ hJp hb, hB2⟩) (Nat.lt_of_lt_of_eq (Nat.lt_succ_self m) HM.out)
      · rw [if_neg hab] at hL
        cases hsl : spansL l0 s m b b with
        | none => rw [hsl] at hL; cases hL
        | some ys =>
        rw [hsl, Option.map_some] at hL
        obtain rfl := Option.some.inj hL
        have HSL := Lib.hid hsl
        clear hsl
        have hpl : pre.length < xs.length := by rw [HXS.out]; simp
        by_cases hab2 : a = b
        · subst hab2
          have hal : (a == last) = false := beq_eq_false_iff_ne.2 (fun z => hab ⟨rfl, z⟩)
          clear hab
          gi_wp2_with (refine ⟨trivial, ?_⟩; gi_at_call 34; refine (callsIn_wide.2 (match_Span.calls m _ _ l0 s at_ _ _ _ _ HC.out hc0 HSP.out)).mono ?_; rintro e w' ⟨rfl, hb⟩; obtain ⟨fn, tmps, assign, body, hy, hR2⟩ := hY pre ⟨a, a⟩ w' (HJ.out _ _ _ hJp hb) hpl)
          refine hR2.mono ?_
          have HB2 := Lib.hid (HB.out.trans (KP.of hb (Nat.le_trans HN.out HB.out.bel.size) (Nat.lt_of_lt_of_le hBs HB.out.bel.size) (Nat.lt_of_lt_of_le hBt HB.out.bel.size)))
          clear hy hR2 hb
          rintro e W3 (⟨rfl, hJ3, hk3⟩ | ⟨rfl, hJx3⟩)
          · have HR3 := Lib.hid (show eachR l0 s xs J n₀ Bs Bt W m (.int .i64 a) (.int .i64 a) W3 from ⟨_, _, pre ++ [⟨a, a⟩], ys, rfl, rfl, HSL.out, by rw [HXS.out]; simp, hJ3, HB2.out.trans hk3⟩)
            clear hk3 hJ3
            gi_wp2
            go_roundw
            case rel => exact ⟨m, HR3.out⟩
            case measure => exact Nat.lt_of_le_of_lt (least_le HR3.out) (Nat.lt_of_lt_of_eq (Nat.lt_succ_self m) HM.out)
          · have HJX := Lib.hid hJx3
            clear hJx3
            gi_wp2
            refine bodyPost_ret (results_none rfl _ _ _) rfl ?_
            exact ⟨⟨_, rfl⟩, .inr ⟨pre ++ [⟨a, a⟩], ⟨ys, by rw [HXS.out]; simp⟩, HJX.out⟩⟩
        · have hal : (a == b) = false := beq_eq_false_iff_ne.2 hab2
          clear hab hab2
          gi_wp2_with (refine ⟨trivial, ?_⟩; gi_at_call 34; refine (callsIn_wide.2 (match_Span.calls m _ _ l0 s at_ _ _ _ _ HC.out hc0 HSP.out)).mono ?_; rintro e w' ⟨rfl, hb⟩; obtain ⟨fn, tmps, assign, body, hy, hR2⟩ := hY pre ⟨a, b⟩ w' (HJ.out _ _ _ hJp hb) hpl)
          refine hR2.mono ?_
          have HB2 := Lib.hid (HB.out.trans (KP.of hb (Nat.le_trans HN.out HB.out.bel.size) (Nat.lt_of_lt_of_le hBs HB.out.bel.size) (Nat.lt_of_lt_of_le hBt HB.out.bel.size)))
          clear hy hR2 hb
          rintro e W3 (⟨rfl, hJ3, hk3⟩ | ⟨rfl, hJx3⟩)
          · have HR3 := Lib.hid (show eachR l0 s xs J n₀ Bs Bt W m (.int .i64 b) (.int .i64 b) W3 from ⟨_, _, pre ++ [⟨a, b⟩], ys, rfl, rfl, HSL.out, by rw [HXS.out]; simp, hJ3, HB2.out.trans hk3⟩)
            clear hk3 hJ3
            gi_wp2
            go_roundw
            case rel => exact ⟨m, HR3.out⟩
            case measure => exact Nat.lt_of_le_of_lt (least_le HR3.out) (Nat.lt_of_lt_of_eq (Nat.lt_succ_self m) HM.out)
          · have HJX := Lib.hid hJx3
            clear hJx3
            gi_wp2
            refine bodyPost_ret (results_none rfl _ _ _) rfl ?_
            exact ⟨⟨_, rfl⟩, .inr ⟨pre ++ [⟨a, b⟩], ⟨ys, by rw [HXS.out]; simp⟩, HJX.out⟩⟩
set_option maxHeartbeats 1000000 in
theorem each_in (n : Nat) (A0 : Option Addr) (c0 n0 : Nat) (s : ByteArray) (w : World) :
    CallsIn Fence.wide n Try.prog 47 #[.slice A0 n0 c0, .string s] w fun e w' => e = .returned (.func (.func 65) #[] #[.pointer (some ⟨w.heap.size + 1, 0, none⟩), .pointer (some ⟨w.heap.size, 0, none⟩)]) ∧ w' = (w.alloc (.cells #[.slice A0 n0 c0] 22)).alloc (.cells #[.string s] 9) := by
  refine callsIn_of_wp Try.func47 rfl trivial ?_ rfl
  simp only [Try.ntmps47, List.size_toArray, List.length_cons, List.length_nil, Nat.reduceAdd, Nat.reduceSub, Array.replicate_succ, Array.replicate_zero, List.push_toArray, List.append_toArray, List.nil_append, List.cons_append]
  gi_wp2
  go_ret
  exact ⟨rfl, rfl⟩
theorem each_stops (n : Nat) (hn : 1 ≤ n) (Bs Bt n₀ : Nat) (A0 : Option Addr) (c0 : Nat) (l0 : List S55) (s : ByteArray) (k : Nat) (xs : List S28) (hx : spansL l0 s k (-1) 0 = some xs) (hc0 : l0.length ≤ c0) (w : World) (hn0 : n₀ ≤ w.heap.size)
    (hbs : w.cell? ⟨Bs, 0, none⟩ = some (.string s)) (hbt : w.cell? ⟨Bt, 0, none⟩ = some (.slice A0 l0.length c0)) (hR : ∀ W', Below n₀ w W' → Kd.C k55 W' A0 l0.length l0) :
    SeqStopsK Fence.wide n Try.prog 65 #[.pointer (some ⟨Bs, 0, none⟩), .pointer (some ⟨Bt, 0, none⟩)] (fun x : S28 => #[Value.agg #[.int .i64 x.f0, .int .i64 x.f1]]) (KP n₀ Bs Bt) (fun ys => ys = xs) (fun pre => pre <+: xs) xs.length w := fun l J Jx W hW hJ _ hY h0 => by
  have l1 := World.block_lt_of_cell? w _ hbs
  have l2 := World.block_lt_of_cell? w _ hbt
  exact each1_in n hn l Bs Bt n₀ A0 c0 l0 s k xs hx hc0 J Jx W (Nat.le_trans hn0 hW.size) (Nat.lt_of_lt_of_le l1 hW.size) (Nat.lt_of_lt_of_le l2 hW.size) (fun s_ A B hs hb => hJ s_ A B none hs (grown_of_below hb none) (fun r e => by cases e)) hY ((hW.cell (p := ⟨Bs, 0, none⟩) l1).trans hbs) ((hW.cell (p := ⟨Bt, 0, none⟩) l2).trans hbt) (fun W' hb => hR _ ((hW.mono hn0).trans hb.bel)) h0
theorem own_rebase {W : World} {b b' : Nat} {e : TypeId} {size n : Nat} {v : Value} {xs : List Value} (h : W.ownsRow b e size v n xs) (hg : ∀ g, v.ownBlock = some g → b' ≤ g) : W.ownsRow b' e size v n xs := by
  obtain ⟨h1, h2⟩ := h
  refine ⟨h1, ?_⟩
  rcases h2 with h2 | ⟨g, cap, cur, rfl, hb, r⟩
  · exact .inl h2
  · exact .inr ⟨g, cap, cur, rfl, hg g rfl, r⟩
theorem own_of_form {W : World} {b : Nat} {e : TypeId} {size n : Nat} {v : Value} {xs : List Value} (h : W.ownsRow b e size v n xs) (g : Nat) (hg : v.ownBlock = some g) : b ≤ g := by
  rcases h.2 with ⟨rfl, _⟩ | ⟨g', cap, cur, rfl, hb, _⟩
  · simp [Value.ownBlock] at hg
  · have : g' = g := by simpa [Value.ownBlock] using hg
    omega
theorem info40 : (Try.prog.info? 28).map (fun i => (i.zero, i.size, i.bytes)) = some (some (.agg #[(.int .i64 0), (.int .i64 0)]), 2, 16) := by kernel_rfl
def enc28 (l : List S28) : List Value := l.flatMap fun x => [.int .i64 x.f0, .int .i64 x.f1]
theorem enc40_snoc (l : List S28) (x : S28) : enc28 (l ++ [x]) = enc28 l ++ [.int .i64 x.f0, .int .i64 x.f1] := by unfold enc28; simp
theorem reps40 (W : World) (base : Nat) (ok : Nat → Prop) : ∀ l : List S28, Reps (k28.M W base ok) 2 l (enc28 l)
  | [] => Reps.none _ _
  | x :: l => Reps.c2 (k28_mkM _ _ _ x) (reps40 W base ok l)
set_option maxRecDepth 100000 in
set_option maxHeartbeats 4000000 in
theorem spans_in (A0 : Option Addr) (c0 : Nat) (l0 : List S55) (s : ByteArray) (k : Nat) (xs : List S28) (hx : spansL l0 s k (-1) 0 = some xs) (hc0 : l0.length ≤ c0) (hlen : xs.length ≤ 1000000) (w : World) (hR : Kd.C k55 w A0 l0.length l0) :
    CallsIn Fence.wide 5 Try.prog 30 #[.slice A0 l0.length c0, .string s] w fun e w' => ∃ v0_ : Value, e = .returned (v0_) ∧ Kd.R k28 28 w' w.heap.size (fun _ => True) v0_ xs ∧ Below w.heap.size w w' := by
  have HX := Lib.hid hx
  have HR := Lib.hid hR
  have h1 : 1 ≤ 5 := by decide
  clear hx hR
  obtain ⟨i0, hi, hz0, hz1, hz2⟩ := info_parts info40
  refine callsIn_of_wp_marks Try.func30 rfl trivial ?_ rfl
  simp only [Try.ntmps30, List.size_toArray, List.length_cons, List.length_nil, Nat.reduceAdd, Nat.reduceSub, Array.replicate_succ, Array.replicate_zero, List.push_toArray, List.append_toArray, List.nil_append, List.cons_append]
  gi_wp2_with (refine ⟨trivial, ?_⟩; gi_at_call 47; refine (each_in _ _ _ _ _ _).mono ?_; rintro e w' ⟨rfl, rfl⟩)
  have bO := ((Boxed.new w 26 (.slice none 0 0)).alloc (.cells #[.slice A0 l0.length c0] 22)).alloc (.cells #[.string s] 9)
  have bT := (Boxed.new (w.alloc (.cells #[.slice none 0 0] 26)) 22 (.slice A0 l0.length c0)).alloc (.cells #[.string s] 9)
  have bS := Boxed.new ((w.alloc (.cells #[.slice none 0 0] 26)).alloc (.cells #[.slice A0 l0.length c0] 22)) 9 (.string s)
  simp only [World.size_alloc] at bS bT
  have hB0 : Below w.heap.size w (((w.alloc (.cells #[.slice none 0 0] 26)).alloc (.cells #[.slice A0 l0.length c0] 22)).alloc (.cells #[.string s] 9)) := (((Below.refl _ w).alloc (Nat.le_refl _) _).alloc (by simp) _).alloc (by simp; omega) _
  have hsz : (((w.alloc (.cells #[.slice none 0 0] 26)).alloc (.cells #[.slice A0 l0.length c0] 22)).alloc (.cells #[.string s] 9)).heap.size = w.heap.size + 3 := by simp
  obtain ⟨W0, hW0⟩ : ∃ W0, ((w.alloc (.cells #[.slice none 0 0] 26)).alloc (.cells #[.slice A0 l0.length c0] 22)).alloc (.cells #[.string s] 9) = W0 := ⟨_, rfl⟩
  rw [hW0] at bO bS bT hB0 hsz ⊢
  clear hW0
  have hCC : ∀ W', Below w.heap.size W0 W' → Kd.C k55 W' A0 l0.length l0 := fun W' hb => Kd.C_below HR.out (hB0.trans hb)
  refine wpIn_rangeFunc_ownH rfl h1 (gf := 65) (lb := #[.pointer (some ⟨w.heap.size + 1 + 1, 0, none⟩), .pointer (some ⟨w.heap.size + 1, 0, none⟩)]) rfl trivial (enters_of Try.func65 (by kernel_rfl) rfl)
    (each_stops 4 (by omega) (w.heap.size + 1 + 1) (w.heap.size + 1) w.heap.size A0 c0 l0 s k xs HX.out hc0 W0 (by omega) bS.cell bT.cell hCC) KP.trans
    (fun W l o o' hl h hc hw => ⟨belowK_b (w := W0) (by omega) W l o o' hl h hc hw, World.putObj_heap_other (by omega), World.putObj_heap_other (by omega)⟩) (Below.refl _ _) (fun _ => rfl)
    (fun pre W => (∃ v, Boxed W w.heap.size 26 v ∧ W.ownsRow w.heap.size 28 2 v pre.length (enc28 pre) ∧ (∀ g, v.ownBlock = some g → w.heap.size + 3 ≤ g)) ∧ (Below w.heap.size w W ∧ w.heap.size + 3 ≤ W.heap.size))
    (fun _ _ _ => False)
    (OwnFrom.and (Own.from (holdsRow_own w.heap.size w.heap.size 26 28 2 (fun pre => pre.length) (fun pre => enc28 pre) (fun _ v => ∀ g, v.ownBlock = some g → w.heap.size + 3 ≤ g)) _) (OwnFrom.and (ownFrom_below (Nat.le_refl _) (by omega)) (fun _ X Y row hs hg _ => Nat.le_trans hs hg.size)))
    (fun _ _ _ _ _ hs _ _ => hs)
    ⟨⟨_, bO, World.ownsRow_nil _ _ _ _, fun g hg => by simp [Value.ownBlock] at hg⟩, hB0, by omega⟩
    (fun x a' W => ∃ Bx, w.heap.size + 1 + 1 < Bx ∧ W.heap[Bx]? = some (.cells #[.int .i64 x.f0, .int .i64 x.f1] 28 (0, 0)) ∧ a' = { tmps := #[.slice A0 l0.length c0, .string s, undef, undef, .slice none 0 0, .pointer (some ⟨w.heap.size, 0, none⟩), .pointer (some ⟨Bx, 0, none⟩), .slice A0 l0.length c0, .string s, .func (.func 65) #[] #[.pointer (some ⟨w.heap.size + 1 + 1, 0, none⟩), .pointer (some ⟨w.heap.size + 1, 0, none⟩)], .agg #[.int .i64 x.f0, .int .i64 x.f1], undef, undef, undef, undef, undef], defers := [] })
    (fun x a' _ X Y row hs hg hr => by
      obtain ⟨Bx, h1, h2, h3⟩ := hs
      refine ⟨Bx, h1, (hg.block Bx (blk_lt h2) (fun e => ?_)).trans h2, h3⟩
      obtain ⟨_, o, ho, hc⟩ := hr Bx e.symm
      rw [h2] at ho
      cases ho
      cases hc)
    ?assign ?body ?done ?stop
  case assign =>
    rintro l pre x W K ⟨⟨v, hv, hr, hG⟩, hB1, hS⟩ hK
    gi_wp2
    exact hK _ _ ((KeepsOthers.alloc _ _).from _) (KP.of ((Below.refl _ W).alloc (Nat.le_refl _) _) hB1.size (by omega) (by omega)) ⟨⟨v, hv.alloc _, hr.alloc _, hG⟩, hB1.alloc hB1.size _, by simp; omega⟩ ⟨W.heap.size, by omega, blk_new W _, rfl⟩
  case body =>
    rintro l pre x a' W hl ⟨r, hr⟩ ⟨⟨v, hv, hrow, hG⟩, hB1, hS⟩ ⟨Bx, hBx, hX, rfl⟩ hlt
    have HG := Lib.hid hG
    have hrow3 := own_rebase hrow hG
    clear hG
    have cO := hv.cell
    have x0 : W.cell? ⟨Bx, 0, none⟩ = some (.int .i64 x.f0) := (blk_cell hX 0).trans rfl
    have x1 : W.cell? ⟨Bx, 1, none⟩ = some (.int .i64 x.f1) := (blk_cell hX 1).trans rfl
    gi_wp2_with (gi_at_builtin; refine wpListIn_append_own _ rfl _ _ 26 rfl (w.heap.size + 3) 28 i0 (.agg #[(.int .i64 0), (.int .i64 0)]) 2 16 Try.underlying26 hi hz0 hz1 hz2 rfl (by decide) _ _ _ rfl (hrow3.alloc _) ⟨W.heap.size, 0, none⟩ 1 1 [.int .i64 x.f0, .int .i64 x.f1] rfl rfl (World.news_of_block (cs := #[.int .i64 x.f0, .int .i64 x.f1]) (t := 28) (fr := (0, 0)) (blk_new W _)) (fun u hu => by simp at hu; rcases hu with rfl | rfl <;> rfl) (by unfold maxLen; omega) (by omega) (by have := hB1.size; simp; omega) ?_; intro v' w1 hown' hgrow _; obtain ⟨g', cap', rfl⟩ := ownsRow_succ hown'; obtain ⟨hv1, hv2, hr2, hk2, hb2⟩ := hv.appended (by decide) hrow hB1.size (Nat.le_refl _) (own_rebase hown' (fun g hg => by have := own_of_form hown' g hg; omega)) hgrow; have hc1 := hv1.cell; have hf1 := hv1.frozen)
    have z2 := hgrow.size
    have z3 := hB1.size
    have key : ∀ k, w.heap.size < k → k < w.heap.size + 3 → (w1.setCell ⟨w.heap.size, 0, none⟩ (.slice (some ⟨g', 0, none⟩) (pre.length + 1) cap')).heap[k]? = W.heap[k]? := fun k h1 h2 => by
      rw [Below.heap_setCell w1 ⟨w.heap.size, 0, none⟩ _ k (by show k ≠ w.heap.size; omega), hgrow.block k (by simp; omega) (fun e => by have := HG.out k e.symm; omega), Below.heap_alloc _ _ k (by omega)]
    refine ⟨hk2.from _, ⟨hb2, key _ (by omega) (by omega), key _ (by omega) (by omega)⟩, ⟨_, hv2, ?_, fun g hg => own_of_form hown' g hg⟩, hB1.trans hb2, ?_⟩
    · rw [enc40_snoc, List.length_append]; exact hr2
    · simp only [World.size_setCell]; simp at z2; omega
  case done =>
    rintro D ys W hD rfl ⟨⟨v, hv, hrow, _⟩, hB1, hS⟩ hK
    have cO := hv.cell
    gi_wp2
    refine ⟨by simp, .inl ⟨_, _, rfl, run_takeDeferred hK, ?_⟩⟩
    refine ⟨_, results_tmp rfl _ _ _, _, rfl, ⟨fun _ _ => trivial, _, ownsRow_putObj hrow _ hK rfl, reps40 _ _ _ _⟩, hB1.trans (belowK_b (w := w) (Nat.le_refl _) W D _ _ (by omega) hK rfl rfl)⟩
  case stop =>
    rintro D c pre W _ _ h _
    exact h.elim
/-- What match.Spans computes. -/
def match_Spans.f (k : Nat) (l0 : List S55) (s : ByteArray) : Option (List S28) := (spansL l0 s k (-1) 0).bind fun xs => if xs.length ≤ 1000000 then some xs else none
theorem match_Spans.calls (k : Nat) (A0 : Option Addr) (c0 : Nat) (l0 : List S55) (s : ByteArray) (r : List S28) (w : World) (hr0 : Kd.C k55 w A0 l0.length l0) (hc0 : l0.length ≤ c0) (h : match_Spans.f k l0 s = some r) :
    Calls Try.prog 30 #[.slice A0 l0.length c0, .string s] w fun e w' => ∃ v0_ : Value, e = .returned (v0_) ∧ Kd.R k28 28 w' w.heap.size (fun _ => True) v0_ r ∧ Below w.heap.size w w' := by
  unfold match_Spans.f at h
  cases hx : spansL l0 s k (-1) 0 with
  | none => rw [hx] at h; cases h
  | some xs =>
    rw [hx, Option.bind_some] at h
    by_cases hl : xs.length ≤ 1000000
    · rw [if_pos hl] at h
      obtain rfl := Option.some.inj h
      exact callsIn_wide.1 (spans_in A0 c0 l0 s k xs hx hc0 hl w hr0)
    · rw [if_neg hl] at h; cases h
theorem spansL_mono (l : List S55) (s : ByteArray) : ∀ k a b, LeO (spansL l s k a b) (spansL l s (k + 1) a b)
  | 0, _, _ => fun r h => by simp [spansL] at h
  | k + 1, a, b => by
    have ih := spansL_mono l s k
    unfold spansL
    exact LeO.ite (LeO.bind (match_Span.mono l s b k) fun r => LeO.ite (LeO.ite (ih _ _) (LeO.map _ (ih _ _))) (LeO.refl _)) (LeO.refl _)
theorem match_Spans.mono : ∀ l0 s k, LeO (match_Spans.f k l0 s) (match_Spans.f (k + 1) l0 s) := fun l0 s k => LeO.bind (spansL_mono l0 s k _ _) fun _ => LeO.refl _
end Go.Proofs.Ythnfmpieoondaaa.G
