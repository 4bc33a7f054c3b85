import Derived.Test.YtambnodgfhlpfaaDoorVRI
import Derived.Laws.CopyRow
import Derived.Laws.AppendOwn
import Derived.Lib.AppendZerosOnto
import Derived.Lib.Overlaps
import Derived.Shelf.Spec.SlicesInsert
import Derived.Shelf.Spec.SlicesInsertGrow
/- slices.Clone and the copying of rows whose elements take several cells. -/
set_option linter.unusedVariables false
set_option linter.unusedSimpArgs false
namespace Go.Proofs.YtambnodgfhlpfaaDoor.A
open Go.RowKit Go.Proofs.YtambnodgfhlpfaaDoorW.PrintWords Go.Proofs.YtambnodgfhlpfaaDoorW.PrintLast Go.Proofs.YtambnodgfhlpfaaDoor.G Go.Proofs.YtambnodgfhlpfaaDoor.QA

/-- A row's cells. -/
def flat (l : Vars) : List Value := l.flatMap fun x => [.string x.f0, .string x.f1]
theorem flat_length (l : Vars) : (flat l).length = l.length * 2 := by
  induction l with
  | nil => rfl
  | cons x l ih => rw [flat, List.flatMap_cons, List.length_append, ← flat, ih]; simp; omega
theorem flat_append (a b : Vars) : flat (a ++ b) = flat a ++ flat b := List.flatMap_append
theorem flat_one {l : Vars} {u : Value} (h : u ∈ flat l) : u.oneCell' = true := by
  unfold flat at h
  obtain ⟨x, _, hx⟩ := List.mem_flatMap.1 h
  simp at hx
  rcases hx with rfl | rfl <;> rfl
theorem flat_cons (x : S39) (l : Vars) : flat (x :: l) = .string x.f0 :: .string x.f1 :: flat l := rfl
theorem flat_get : ∀ {l : Vars} {j : Nat} {u : Value}, (flat l)[j]? = some u → ∃ x, l[j / 2]? = some x ∧ [Value.string x.f0, .string x.f1][j % 2]? = some u
  | [], j, u, h => by simp [flat] at h
  | x :: l, 0, u, h => ⟨x, rfl, h⟩
  | x :: l, 1, u, h => ⟨x, rfl, h⟩
  | x :: l, j + 2, u, h => by
    rw [flat_cons] at h
    obtain ⟨y, h1, h2⟩ := flat_get (l := l) (j := j) (u := u) h
    refine ⟨y, ?_, ?_⟩
    · rw [show (j + 2) / 2 = j / 2 + 1 by omega]; exact h1
    · rw [show (j + 2) % 2 = j % 2 by omega]; exact h2
theorem flat_reads {w : World} {ad : Addr} {n : Nat} {l : Vars} (h : Kd.C k39 w (some ad) n l) : ∀ j u, (flat l)[j]? = some u → w.cell? (ad.add j) = some u := by
  intro j u hj
  obtain ⟨x, h1, h2⟩ := flat_get hj
  have hlt : j / 2 < l.length := (List.getElem?_eq_some_iff.1 h1).1
  obtain ⟨hn, _, hc⟩ := h
  obtain ⟨ad', e, hc⟩ := hc (by omega)
  cases e
  obtain ⟨c, _, hK, hcell⟩ := hc (j / 2) x h1
  obtain rfl := k39_open hK
  have := hcell (j % 2) u h2
  rw [show j / 2 * k39.sz + j % 2 = j from by show j / 2 * 2 + j % 2 = j; omega] at this
  exact this
theorem info39' : ∃ i, Tryd.prog.info? 39 = some i ∧ i.zero = some (.agg #[.string ⟨#[]⟩, .string ⟨#[]⟩]) ∧ i.size = 2 ∧ i.bytes = 32 := by
  have h := info39
  cases hi : Tryd.prog.info? 39 with
  | none => rw [hi] at h; cases h
  | some i =>
    rw [hi] at h
    have := Option.some.inj h
    exact ⟨i, rfl, (Prod.mk.inj this).1, (Prod.mk.inj (Prod.mk.inj this).2).1, (Prod.mk.inj (Prod.mk.inj this).2).2⟩
theorem run_copy_rowN {P : Program} (w : World) (dT sT ty elem : TypeId) (i : TypeInfo) (g o dLen dCap : Nat) (a : Addr) (sLen sCap : Nat) (cur : Array Value) (t : TypeId) (cs : List Value)
    (hu : P.underlying dT = some (.slice elem)) (hq : P.info? elem = some i)
    (hg : w.heap[g]? = some (.cells cur t (0, 0))) (hn : cs.length = Nat.min sLen dLen * i.size)
    (hsrc : ∀ j v, cs[j]? = some v → w.cell? (a.add j) = some v) (hfit : o + cs.length ≤ cur.size) (h1 : ∀ v ∈ cs, v.oneCell' = true) :
    (Builtin.copy_ #[dT, sT] ty #[.slice (some ⟨g, o, none⟩) dLen dCap, .slice (some a) sLen sCap]).run P w =
      .ok (goInt (Nat.min sLen dLen)) (w.setRow g (cur.toList.take o ++ cs ++ cur.toList.drop (o + cs.length)).toArray) := by
  have hl := run_loadCells_list (P := P) w a cs hsrc
  have hst := run_storeCells_at P g o t cs 0 cur w hg (by simpa using hfit) h1
  simp [Builtin.copy_, run_underlying hu, Builtin.lenOf, Builtin.firstCells, sizeOf, typeInfo, hq, ← hn, hl, hst]

set_option maxHeartbeats 2000000 in
set_option maxRecDepth 100000 in
theorem clone_calls (A0 : Option Addr) (c0 : Nat) (l0 : Vars) (w : World) (hr0 : Kd.C k39 w A0 l0.length l0) (hl : l0.length ≤ 1000) :
    Calls Tryd.prog 28 #[.slice A0 l0.length c0] w fun e w' => ∃ v', e = .returned v' ∧ w'.ownsRow w.heap.size 39 2 v' l0.length (flat l0) ∧ Below w.heap.size w w' := by
  obtain ⟨i0, hi, hz0, hz1, hz2⟩ := info39'
  have q22 : ∀ (w : World) (a : Option Addr) (n c n' c' : Nat), (binOp .eql 22 (.slice a n c) (.slice none n' c')).run Tryd.prog w = .ok (.bool a.isNone) w := fun w a n c n' c' => Lib.run_eql_slice_nil w _ _ a n c n' c' Tryd.underlying22
  cases A0 with
  | none =>
    have h0 : l0.length = 0 := by
      apply Nat.eq_zero_of_not_pos
      intro hp
      obtain ⟨ad, hA, _⟩ := hr0.2.2 hp
      cases hA
    have hn : l0 = [] := List.length_eq_zero_iff.1 h0
    subst hn
    go_enter Tryd.func28, Tryd.ntmps28
    go_wp2
    go_ret
    exact ⟨_, rfl, ⟨rfl, Or.inl ⟨rfl, rfl⟩⟩, Below.refl _ _⟩
  | some ad =>
    have hrd := flat_reads hr0
    have hR := Aside0.mk hrd
    clear hrd hr0
    go_enter Tryd.func28, Tryd.ntmps28
    go_wp2_with (at_builtin; refine wpList_append_own _ rfl _ _ 22 rfl w.heap.size 39 i0 (.agg #[.string ⟨#[]⟩, .string ⟨#[]⟩]) 2 32 Tryd.underlying22 hi hz0 hz1 hz2 rfl (by decide) _ _ _ rfl (World.ownsRow_made w #[] 0 (Nat.le_refl _) (Nat.zero_le _) rfl) ad l0.length c0 (flat l0) rfl ?qc1 ?qc2 ?qc3 ?qc4 ?qc5 ?qc6 ?_)
    case qc1 => exact flat_length l0
    case qc2 =>
      intro j u hj
      exact Lib.cell?_alloc_some _ (hR.out j u hj)
    case qc3 => exact fun u hu => flat_one hu
    case qc4 => unfold maxLen; omega
    case qc5 => omega
    case qc6 => simp
    intro v' w1 hown hgrow hnil
    go_wp2
    go_ret
    refine ⟨v', rfl, by simpa using hown, ?_⟩
    exact ((Below.refl _ w).alloc (Nat.le_refl _) _).grown hgrow (by simp) (by intro k hk; simp [Value.ownBlock] at hk; omega)
end Go.Proofs.YtambnodgfhlpfaaDoor.A

/- slices.Insert of one variable, at the row's end. -/
set_option linter.unusedVariables false
set_option linter.unusedSimpArgs false
namespace Go.Proofs.YtambnodgfhlpfaaDoor.A
open Go.RowKit Go.Proofs.YtambnodgfhlpfaaDoorW.PrintWords Go.Proofs.YtambnodgfhlpfaaDoorW.PrintLast Go.Proofs.YtambnodgfhlpfaaDoor.G Go.Proofs.YtambnodgfhlpfaaDoor.QA

set_option maxHeartbeats 4000000 in
set_option maxRecDepth 100000 in
theorem insert_end (base : Nat) (v : Value) (n gv : Nat) (xs : List Value) (x : S39) (w : World) (hbase : base ≤ w.heap.size) (hown : w.ownsRow base 39 2 v n xs) (hn : n ≤ 1000)
    (hgv : w.heap[gv]? = some (.cells #[.string x.f0, .string x.f1] 39 (0, 0))) :
    Calls Tryd.prog 29 #[v, .int .i64 n, .slice (some ⟨gv, 0, none⟩) 1 1] w fun e w' => ∃ v', e = .returned v' ∧ w'.ownsRow base 39 2 v' (n + 1) (xs ++ [.string x.f0, .string x.f1]) ∧ w.grownBy w' v.ownBlock := by
  obtain ⟨i0, hi, hz0, hz1, hz2⟩ := info39'
  have hvs : ∀ j u, [Value.string x.f0, .string x.f1][j]? = some u → w.cell? ((⟨gv, 0, none⟩ : Addr).add j) = some u := by
    intro j u hj
    rw [Addr.add_lit, Nat.zero_add]
    simp only [World.cell?, hgv]
    exact (by simpa using hj)
  have HO := Aside0.mk hown
  have HV := Aside0.mk hvs
  rcases hown.2 with ⟨rfl, rfl⟩ | ⟨g, cap, cur, rfl, hb, hg, hnc, hcm, hcs, hct⟩
  · clear hown hvs
    go_enter Tryd.func29, Tryd.ntmps29
    go_wp2_with (at_builtin; refine wpList_append_own _ rfl _ _ 22 rfl base 39 i0 (.agg #[.string ⟨#[]⟩, .string ⟨#[]⟩]) 2 32 Tryd.underlying22 hi hz0 hz1 hz2 rfl (by decide) _ _ _ rfl HO.out ⟨gv, 0, none⟩ 1 1 [.string x.f0, .string x.f1] rfl rfl HV.out ?q3 ?q4 ?q5 hbase ?_)
    case q3 => intro u hu; simp at hu; rcases hu with rfl | rfl <;> rfl
    case q4 => unfold maxLen; omega
    case q5 => omega
    intro v' w1 hown hgrow hnil
    go_wp2
    go_ret
    exact ⟨v', rfl, hown, hgrow⟩
  · clear hown hvs hct hcs
    unfold maxLen at hcm
    by_cases hcap : cap = n
    · subst hcap
      clear hnc
      go_enter Tryd.func29, Tryd.ntmps29
      go_wp2_with (at_builtin; refine wpList_append_own _ rfl _ _ 22 rfl base 39 i0 (.agg #[.string ⟨#[]⟩, .string ⟨#[]⟩]) 2 32 Tryd.underlying22 hi hz0 hz1 hz2 rfl (by decide) _ _ _ rfl HO.out ⟨gv, 0, none⟩ 1 1 [.string x.f0, .string x.f1] rfl rfl HV.out ?q3 ?q4 ?q5 hbase ?_)
      case q3 => intro u hu; simp at hu; rcases hu with rfl | rfl <;> rfl
      case q4 => unfold maxLen; omega
      case q5 => omega
      intro v' w1 hown hgrow hnil
      go_wp2
      go_ret
      exact ⟨v', rfl, hown, hgrow⟩
    · go_enter Tryd.func29, Tryd.ntmps29
      go_wp2_with (at_builtin; refine wpList_append_own _ rfl _ _ 22 rfl base 39 i0 (.agg #[.string ⟨#[]⟩, .string ⟨#[]⟩]) 2 32 Tryd.underlying22 hi hz0 hz1 hz2 rfl (by decide) _ _ _ rfl HO.out ⟨gv, 0, none⟩ 1 1 [.string x.f0, .string x.f1] rfl rfl HV.out ?q3 ?q4 ?q5 hbase ?_)
      case q3 => intro u hu; simp at hu; rcases hu with rfl | rfl <;> rfl
      case q4 => unfold maxLen; omega
      case q5 => omega
      intro v' w1 hown hgrow hnil
      go_wp2
      go_ret
      exact ⟨v', rfl, hown, hgrow⟩
end Go.Proofs.YtambnodgfhlpfaaDoor.A

/- slices.Insert of one variable, within the row, where there is room. -/
set_option linter.unusedVariables false
set_option linter.unusedSimpArgs false
namespace Go.Proofs.YtambnodgfhlpfaaDoor.A
open Go.RowKit Go.Proofs.YtambnodgfhlpfaaDoorW.PrintWords Go.Proofs.YtambnodgfhlpfaaDoorW.PrintLast Go.Proofs.YtambnodgfhlpfaaDoor.G Go.Proofs.YtambnodgfhlpfaaDoor.QA

theorem blk_reads {w : World} {g o : Nat} {cur : Array Value} {t : TypeId} {fr : Nat × Nat} {cs : List Value} (hg : w.heap[g]? = some (.cells cur t fr)) (h : (cur.toList.drop o).take cs.length = cs) :
    ∀ j u, cs[j]? = some u → w.cell? ((⟨g, o, none⟩ : Addr).add j) = some u := by
  intro j u hj
  rw [Addr.add_lit]
  simp only [World.cell?, hg]
  rw [← h, List.getElem?_take] at hj
  split at hj
  · rw [List.getElem?_drop] at hj
    simpa using hj
  · cases hj
/-- A row after the elements from i on went one place up, and one was put in. -/
def up1 (cur : List Value) (i n : Nat) : List Value := cur.take ((i + 1) * 2) ++ (cur.drop (i * 2)).take ((n - i) * 2) ++ cur.drop ((i + 1) * 2 + (n - i) * 2)
def put1 (cur : List Value) (i : Nat) (cs : List Value) : List Value := cur.take (i * 2) ++ cs ++ cur.drop (i * 2 + cs.length)
set_option maxHeartbeats 4000000 in
set_option maxRecDepth 100000 in
theorem insert_room (g c n i gv : Nat) (cur : Array Value) (x : S39) (w : World) (hg : w.heap[g]? = some (.cells cur 39 (0, 0))) (hcs : cur.size = c * 2) (hroom : n + 1 ≤ c) (hc63 : c ≤ 9223372036854775807) (hn : n ≤ 1000) (hi : i < n)
    (hone : ∀ u ∈ cur.toList.take (n * 2), u.oneCell' = true) (hgv : w.heap[gv]? = some (.cells #[.string x.f0, .string x.f1] 39 (0, 0))) (hne : gv ≠ g) :
    Calls Tryd.prog 29 #[.slice (some ⟨g, 0, none⟩) n c, .int .i64 i, .slice (some ⟨gv, 0, none⟩) 1 1] w fun e w' => e = .returned (.slice (some ⟨g, 0, none⟩) (n + 1) c) ∧
      w' = (w.drew.setRow g (up1 cur.toList i n).toArray).setRow g (put1 (up1 cur.toList i n) i [.string x.f0, .string x.f1]).toArray := by
  obtain ⟨i0, hi0, hz0, hz1, hz2⟩ := info39'
  have hsz : ∀ w, (Go.sizeOf 39).run Tryd.prog w = .ok 2 w := fun w => by simp [sizeOf, typeInfo, hi0, hz1]
  have hov : ∀ lb cb o, (callFunc 45 #[.slice (some ⟨gv, 0, none⟩) 1 1, .slice (some ⟨g, o, none⟩) lb cb]).run Tryd.prog w = .ok (.value (.bool false)) w := fun lb cb o => by
    rw [run_callFunc_extern Tryd.func45 (by kernel_rfl) (by kernel_rfl) (by kernel_rfl) (e := Extern.SlicesOverlaps.overlaps #[22, 22] #[4]) (by kernel_rfl),
      Lib.run_overlaps_apart w 22 4 39 Tryd.underlying22 2 hsz ⟨gv, 0, none⟩ ⟨g, o, none⟩ 1 1 lb cb hne 39 39 2 (c * 2) (by simp [World.shape?, hgv]) (by simp [World.shape?, hg, hcs]) (by omega) (by simp [World.frozen?, hgv]) (by simp [World.frozen?, hgv])]
    rfl
  have mixed : Tryd.prog.follows .mixedOrders = true := by kernel_rfl
  have hz1' : ¬ ((i : Int) = (n : Int)) := by omega
  have hw1 : IntKind.i64.wrap ((i : Int) + 1) = (i : Int) + 1 := by rw [IntKind.wrap_i64]; omega
  have hb1 : (0 : Int) ≤ (i : Int) + 1 := by omega
  have hin : i ≤ n := by omega
  have htn : ((i : Int) + 1).toNat = i + 1 := by omega
  have hb2 : ¬ (c = i + 1) := by omega
  have hb3 : (i : Int) ≤ (n : Int) + 1 := by omega
  have hb4 : ¬ (c = i) := by omega
  have hsub : n + 1 - (i + 1) = n - i := by omega
  have hcl : cur.toList.length = c * 2 := by rw [Array.length_toList]; exact hcs
  have hl1 : ((cur.toList.drop (i * 2)).take ((n - i) * 2)).length = (n - i) * 2 := by rw [List.length_take, List.length_drop, hcl]; omega
  have hup : (up1 cur.toList i n).length = c * 2 := by unfold up1; simp only [List.length_append, List.length_take, List.length_drop, hcl]; omega
  have hgd : w.drew.heap[g]? = some (.cells cur 39 (0, 0)) := hg
  have hcp1 : ∀ ty dl dc sl sc, Nat.min sl dl = n - i → (Builtin.copy_ #[22, 22] ty #[.slice (some ⟨g, (i + 1) * 2, none⟩) dl dc, .slice (some ⟨g, i * 2, none⟩) sl sc]).run Tryd.prog w.drew = .ok (goInt ((n - i : Nat) : Int)) (w.drew.setRow g (up1 cur.toList i n).toArray) := fun ty dl dc sl sc hm => by
    have h := run_copy_rowN (P := Tryd.prog) w.drew 22 22 ty 39 i0 g ((i + 1) * 2) dl dc ⟨g, i * 2, none⟩ sl sc cur 39 ((cur.toList.drop (i * 2)).take ((n - i) * 2)) Tryd.underlying22 hi0 hgd (by rw [hl1, hm, hz1])
      (blk_reads hgd (by rw [hl1])) (by rw [hl1, hcs]; omega) (fun u hu => by
        refine hone u ?_
        obtain ⟨k, hk⟩ := List.mem_iff_getElem?.1 hu
        rw [List.getElem?_take] at hk
        split at hk
        · rw [List.getElem?_drop] at hk
          refine List.mem_iff_getElem?.2 ⟨i * 2 + k, ?_⟩
          rw [List.getElem?_take, if_pos (by omega)]
          exact hk
        · cases hk)
    rw [hm, hl1] at h
    exact h
  obtain ⟨W1, hW1⟩ : ∃ W1, W1 = w.drew.setRow g (up1 cur.toList i n).toArray := ⟨_, rfl⟩
  have hg1 : W1.heap[g]? = some (.cells (up1 cur.toList i n).toArray 39 (0, 0)) := by rw [hW1]; exact setRow_heap w.drew g cur _ 39 _ hgd
  have hgv1 : W1.heap[gv]? = some (.cells #[.string x.f0, .string x.f1] 39 (0, 0)) := by
    rw [hW1]
    unfold World.setRow
    rw [Array.getElem?_modify, if_neg (by omega)]
    exact hgv
  have hcp2 : ∀ ty dl dc, 1 ≤ dl → (Builtin.copy_ #[22, 22] ty #[.slice (some ⟨g, i * 2, none⟩) dl dc, .slice (some ⟨gv, 0, none⟩) 1 1]).run Tryd.prog W1 = .ok (goInt 1) (W1.setRow g (put1 (up1 cur.toList i n) i [.string x.f0, .string x.f1]).toArray) := fun ty dl dc hdl => by
    have hm : Nat.min 1 dl = 1 := Nat.min_eq_left hdl
    have h := run_copy_rowN (P := Tryd.prog) W1 22 22 ty 39 i0 g (i * 2) dl dc ⟨gv, 0, none⟩ 1 1 (up1 cur.toList i n).toArray 39 [.string x.f0, .string x.f1] Tryd.underlying22 hi0 hg1 (by rw [hm, hz1]; rfl)
      (blk_reads hgv1 rfl) (by simp only [List.size_toArray, hup, List.length_cons, List.length_nil]; omega) (fun u hu => by simp at hu; rcases hu with rfl | rfl <;> rfl)
    rw [hm] at h
    exact h
  rw [← hW1] at hcp1
  rw [← hW1]
  have HC1 := Aside0.mk hcp1
  have HC2 := Aside0.mk hcp2
  clear hcp1 hcp2 hone hup hl1 hcl hgd hg1 hgv1 hW1 hcs
  go_enter Tryd.func29, Tryd.ntmps29
  go_wp2_with (simp only [hov])
  go_region_law_o (refine step_copy_runI rfl _ _ 22 22 rfl (.slice (some ⟨g, (i + 1) * 2, none⟩) (n - i) (c - (i + 1))) (.slice (some ⟨g, i * 2, none⟩) (n + 1 - i) (c - i)) (by simp [Act.eval, Act.put]) (by simp [Act.eval, Act.put]) (HC1.out _ _ _ _ _ (Nat.min_eq_right (by omega))) ?_)
  go_wp2
  rw [HC2.out _ _ _ (by omega)]
  go_wp2
  go_ret
  exact ⟨rfl, rfl⟩
end Go.Proofs.YtambnodgfhlpfaaDoor.A

/- slices.Insert of one variable, within the row, where there is no room. -/
set_option linter.unusedVariables false
set_option linter.unusedSimpArgs false
namespace Go.Proofs.YtambnodgfhlpfaaDoor.A
open Go.RowKit Go.Shelf Go.Lib Go.Proofs.YtambnodgfhlpfaaDoorW.PrintWords Go.Proofs.YtambnodgfhlpfaaDoorW.PrintLast Go.Proofs.YtambnodgfhlpfaaDoor.G Go.Proofs.YtambnodgfhlpfaaDoor.QA

def tail1 (row : List Value) (i : Nat) (cs : List Value) : List Value := row.take ((i + 1) * 2) ++ cs ++ row.drop ((i + 1) * 2 + cs.length)
set_option maxHeartbeats 4000000 in
set_option maxRecDepth 100000 in
theorem insert_grow (g c n i gv : Nat) (cur : Array Value) (x : S39) (w : World) (hg : w.heap[g]? = some (.cells cur 39 (0, 0))) (hcs : cur.size = c * 2) (hnc : n ≤ c) (hroom : c < n + 1) (hn : n ≤ 1000) (hi : i < n)
    (hone : ∀ u ∈ cur.toList.take (n * 2), u.oneCell' = true) (hgv : w.heap[gv]? = some (.cells #[.string x.f0, .string x.f1] 39 (0, 0))) :
    Calls Tryd.prog 29 #[.slice (some ⟨g, 0, none⟩) n c, .int .i64 i, .slice (some ⟨gv, 0, none⟩) 1 1] w fun e w' => ∃ (G : Nat) (z : List Value), e = .returned (.slice (some ⟨w.heap.size, 0, none⟩) (n + 1) G) ∧
      n + 1 ≤ G ∧ G ≤ 9223372036854775807 ∧ z.length = (G - i) * 2 ∧
      w' = (((w.drew.alloc (.cells (cur.toList.take (i * 2) ++ z).toArray 39)).setRow w.heap.size (put1 (cur.toList.take (i * 2) ++ z) i [.string x.f0, .string x.f1]).toArray).drew).setRow w.heap.size
        (tail1 (put1 (cur.toList.take (i * 2) ++ z) i [.string x.f0, .string x.f1]) i ((cur.toList.drop (i * 2)).take ((n - i) * 2))).toArray := by
  obtain ⟨i0, hi0, hz0, hz1, hz2⟩ := info39'
  have mixed : Tryd.prog.follows .mixedOrders = true := by kernel_rfl
  have hz1' : ¬ ((i : Int) = (n : Int)) := by omega
  have hz3 : (c : Int) < (n : Int) + 1 := by omega
  have hgw : g < w.heap.size := (Array.getElem?_eq_some_iff.1 hg).1
  have hvw : gv < w.heap.size := (Array.getElem?_eq_some_iff.1 hgv).1
  have hcl : cur.toList.length = c * 2 := by rw [Array.length_toList]; exact hcs
  have hkk : (n : Int) + 1 - (i : Int) = ((n + 1 - i : Nat) : Int) := by omega
  have hik : i + (n + 1 - i) = n + 1 := by omega
  have hold : (Builtin.firstCells i0.size i (.slice (some ⟨g, 0, none⟩) i c)).run Tryd.prog w.drew = .ok (cur.toList.take (i * 2)).toArray w.drew := by
    rw [hz1]
    exact run_firstCells_some w.drew 2 i ⟨g, 0, none⟩ i c (cur.toList.take (i * 2)) (by rw [List.length_take, hcl]; omega) (blk_reads (w := w.drew) (t := 39) (fr := (0, 0)) (cur := cur) (o := 0) hg (by rw [List.drop_zero, List.length_take, hcl]; congr 1; omega))
  obtain ⟨G, hG⟩ : ∃ G, G = grownCap w (n + 1) c 39 := ⟨_, rfl⟩
  obtain ⟨z, hz⟩ : ∃ z : List Value, z = (Builtin.zeroCells (Value.agg #[.string ⟨#[]⟩, .string ⟨#[]⟩]).cells (n + 1 - i) ++ Builtin.zeroCells (Value.agg #[.string ⟨#[]⟩, .string ⟨#[]⟩]).cells (G - (n + 1))).toList := ⟨_, rfl⟩
  have hrz : ∀ ty, (Builtin.append_ #[22, 3] ty #[.slice (some ⟨g, 0, none⟩) i c, .int .i64 ((n : Int) + 1 - (i : Int))]).run Tryd.prog w =
      .ok (.slice (some ⟨w.heap.size, 0, none⟩) (n + 1) G) (w.drew.alloc (.cells (cur.toList.take (i * 2) ++ z).toArray 39)) := fun ty => by
    have h := Lib.run_append_grow_zeros w 22 3 ty 39 i0 _ .i64 .i64 Tryd.underlying22 Tryd.underlying3 hi0 hz0 (some ⟨g, 0, none⟩) i c (cur.toList.take (i * 2)) hold (n + 1 - i) (by omega) (by omega) (by omega) (by omega) (by rw [hz2]; omega) (by rw [hz2, hik]; exact growslice_fits hroom (by omega))
    rw [hik, ← hG] at h
    rw [hkk, h, hz]
    congr 3
    simp
  have hGn : n + 1 ≤ G := by rw [hG]; exact grownCap_ge w _ _ _
  have hG63 : G ≤ 9223372036854775807 := by
    have := grownCap_le_maxLen w (n + 1) c 39 (by unfold maxLen; omega)
    rw [← hG] at this
    unfold maxLen at this
    omega
  have hzl : z.length = (G - i) * 2 := by
    rw [hz]
    simp [Builtin.zeroCells, Value.cells]
    omega
  clear hG hz
  obtain ⟨R0, hR0⟩ : ∃ R0, R0 = cur.toList.take (i * 2) ++ z := ⟨_, rfl⟩
  have hl0 : R0.length = G * 2 := by rw [hR0, List.length_append, List.length_take, hcl, hzl]; omega
  obtain ⟨R1, hR1⟩ : ∃ R1, R1 = put1 R0 i [.string x.f0, .string x.f1] := ⟨_, rfl⟩
  have hl1 : R1.length = G * 2 := by rw [hR1]; unfold put1; simp only [List.length_append, List.length_take, List.length_drop, List.length_cons, List.length_nil, hl0]; omega
  rw [← hR0] at hrz
  obtain ⟨W1, hW1⟩ : ∃ W1, W1 = w.drew.alloc (.cells R0.toArray 39) := ⟨_, rfl⟩
  have hN1 : W1.heap[w.heap.size]? = some (.cells R0.toArray 39 (0, 0)) := by rw [hW1]; exact Array.getElem?_push_size
  have hgv1 : W1.heap[gv]? = some (.cells #[.string x.f0, .string x.f1] 39 (0, 0)) := by
    rw [hW1]
    show (w.heap.push _)[gv]? = _
    rw [Array.getElem?_push, if_neg (by omega)]
    exact hgv
  have hg1 : W1.heap[g]? = some (.cells cur 39 (0, 0)) := by
    rw [hW1]
    show (w.heap.push _)[g]? = _
    rw [Array.getElem?_push, if_neg (by omega)]
    exact hg
  have hcpA : ∀ W : World, W.heap = W1.heap → ∀ ty dl dc, 1 ≤ dl → (Builtin.copy_ #[22, 22] ty #[.slice (some ⟨w.heap.size, i * 2, none⟩) dl dc, .slice (some ⟨gv, 0, none⟩) 1 1]).run Tryd.prog W = .ok (goInt 1) (W.setRow w.heap.size R1.toArray) := fun W hW ty dl dc hdl => by
    have hm : Nat.min 1 dl = 1 := Nat.min_eq_left hdl
    have hgvW : W.heap[gv]? = some (.cells #[.string x.f0, .string x.f1] 39 (0, 0)) := by rw [hW]; exact hgv1
    have h := run_copy_rowN (P := Tryd.prog) W 22 22 ty 39 i0 w.heap.size (i * 2) dl dc ⟨gv, 0, none⟩ 1 1 R0.toArray 39 [.string x.f0, .string x.f1] Tryd.underlying22 hi0 (by rw [hW]; exact hN1) (by rw [hm, hz1]; rfl)
      (blk_reads hgvW rfl) (by simp only [List.size_toArray, hl0, List.length_cons, List.length_nil]; omega) (fun u hu => by simp at hu; rcases hu with rfl | rfl <;> rfl)
    rw [hm] at h
    rw [h, hR1]
    rfl
  have hl2 : ((cur.toList.drop (i * 2)).take ((n - i) * 2)).length = (n - i) * 2 := by rw [List.length_take, List.length_drop, hcl]; omega
  have hcpB : ∀ W : World, W.heap = (W1.setRow w.heap.size R1.toArray).heap → ∀ ty dl dc sl sc, Nat.min sl dl = n - i → (Builtin.copy_ #[22, 22] ty #[.slice (some ⟨w.heap.size, (i + 1) * 2, none⟩) dl dc, .slice (some ⟨g, i * 2, none⟩) sl sc]).run Tryd.prog W = .ok (goInt ((n - i : Nat) : Int)) (W.setRow w.heap.size (tail1 R1 i ((cur.toList.drop (i * 2)).take ((n - i) * 2))).toArray) := fun W hW ty dl dc sl sc hm => by
    have hgW : W.heap[g]? = some (.cells cur 39 (0, 0)) := by
      rw [hW]
      unfold World.setRow
      rw [Array.getElem?_modify, if_neg (by omega)]
      exact hg1
    have hNW : W.heap[w.heap.size]? = some (.cells R1.toArray 39 (0, 0)) := by rw [hW]; exact setRow_heap W1 w.heap.size R0.toArray R1.toArray 39 (0, 0) hN1
    have h := run_copy_rowN (P := Tryd.prog) W 22 22 ty 39 i0 w.heap.size ((i + 1) * 2) dl dc ⟨g, i * 2, none⟩ sl sc R1.toArray 39 ((cur.toList.drop (i * 2)).take ((n - i) * 2)) Tryd.underlying22 hi0 hNW (by rw [hl2, hm, hz1])
      (blk_reads hgW (by rw [hl2])) (by rw [hl2, List.size_toArray, hl1]; omega) (fun u hu => by
        refine hone u ?_
        obtain ⟨k, hk⟩ := List.mem_iff_getElem?.1 hu
        rw [List.getElem?_take] at hk
        split at hk
        · rw [List.getElem?_drop] at hk
          refine List.mem_iff_getElem?.2 ⟨i * 2 + k, ?_⟩
          rw [List.getElem?_take, if_pos (by omega)]
          exact hk
        · cases hk)
    rw [hm] at h
    exact h
  have HRZ := Aside0.mk hrz
  have HA := Aside0.mk hcpA
  have HB := Aside0.mk hcpB
  have HZ := Aside0.mk hzl
  have HR0 := Aside0.mk hR0
  have HR1 := Aside0.mk hR1
  clear hrz hcpA hcpB hl2 hg1 hgv1 hN1 hl1 hR1 hl0 hR0 hold hcl hone hzl hcs
  subst hW1
  have hw1 : IntKind.i64.wrap ((i : Int) + 1) = (i : Int) + 1 := by rw [IntKind.wrap_i64]; omega
  have hb1 : (0 : Int) ≤ (i : Int) + 1 := by omega
  have hin : i ≤ n := by omega
  have htn : ((i : Int) + 1).toNat = i + 1 := by omega
  have hb3 : (i : Int) ≤ (n : Int) := by omega
  have hGi : ¬ (G = i) := by omega
  have hGim : ¬ (G = i + 1) := by omega
  have hci : ¬ (c = i) := by omega
  clear hkk hik
  go_enter Tryd.func29, Tryd.ntmps29
  go_wp2_with (first
    | (at_builtin; refine Lib.wpList_append_run _ rfl _ _ _ _ rfl _ _ rfl rfl _ _ (HRZ.out _) ?_)
    | (at_builtin; refine wpList_copy_runI _ rfl _ _ 22 22 rfl _ _ rfl rfl (HA.out _ rfl _ _ _ (by omega)) ?_))
  rw [HA.out ((w.alloc (.cells R0.toArray 39)).drew) rfl _ _ _ (by omega)]
  go_wp2
  go_region_law_o (refine step_copy_runI rfl _ _ 22 22 rfl (.slice (some ⟨w.heap.size, (i + 1) * 2, none⟩) (n - i) (G - (i + 1))) (.slice (some ⟨g, i * 2, none⟩) (n - i) (c - i)) (by simp [Act.eval, Act.put]) (by simp [Act.eval, Act.put]) (HB.out (((w.alloc (.cells R0.toArray 39)).drew.setRow w.heap.size R1.toArray).drew) rfl _ _ _ _ _ (Nat.min_self _)) ?_)
  go_wp2
  go_ret
  refine ⟨G, z, rfl, hGn, hG63, HZ.out, ?_⟩
  rw [← HR0.out, ← HR1.out]
  rfl
end Go.Proofs.YtambnodgfhlpfaaDoor.A

/- slices.Insert of one variable, told by rows. -/
set_option linter.unusedVariables false
set_option linter.unusedSimpArgs false
namespace Go.Proofs.YtambnodgfhlpfaaDoor.A
open Go.RowKit Go.Proofs.YtambnodgfhlpfaaDoorW.PrintWords Go.Proofs.YtambnodgfhlpfaaDoorW.PrintLast Go.Proofs.YtambnodgfhlpfaaDoor.G Go.Proofs.YtambnodgfhlpfaaDoor.QA

section
variable {C : List Value} {i n : Nat} {cs : List Value}
theorem put_up (hc : (n + 1) * 2 ≤ C.length) (hi : i < n) (hcs : cs.length = 2) : (put1 (up1 C i n) i cs).take ((n + 1) * 2) = C.take (i * 2) ++ cs ++ (C.drop (i * 2)).take ((n - i) * 2) := by
  have hA : (C.take ((i + 1) * 2)).length = (i + 1) * 2 := by rw [List.length_take]; omega
  have hM : ((C.drop (i * 2)).take ((n - i) * 2)).length = (n - i) * 2 := by rw [List.length_take, List.length_drop]; omega
  have h1 : (up1 C i n).take (i * 2) = C.take (i * 2) := by
    unfold up1
    rw [List.append_assoc, List.take_append_of_le_length (by omega), List.take_take, Nat.min_eq_left (by omega)]
  have h2 : (up1 C i n).drop (i * 2 + cs.length) = (C.drop (i * 2)).take ((n - i) * 2) ++ C.drop ((i + 1) * 2 + (n - i) * 2) := by
    unfold up1
    rw [List.append_assoc, show i * 2 + cs.length = (C.take ((i + 1) * 2)).length by rw [hA, hcs]; omega, List.drop_left]
  unfold put1
  rw [h1, h2, ← List.append_assoc]
  refine List.take_left' ?_
  simp only [List.length_append, hM, hcs, List.length_take]
  omega
theorem put_tail {z : List Value} {G : Nat} (hc : n * 2 ≤ C.length) (hi : i < n) (hcs : cs.length = 2) (hG : n + 1 ≤ G) (hz : z.length = (G - i) * 2) :
    (tail1 (put1 (C.take (i * 2) ++ z) i cs) i ((C.drop (i * 2)).take ((n - i) * 2))).take ((n + 1) * 2) = C.take (i * 2) ++ cs ++ (C.drop (i * 2)).take ((n - i) * 2) := by
  have hA : (C.take (i * 2)).length = i * 2 := by rw [List.length_take]; omega
  have hM : ((C.drop (i * 2)).take ((n - i) * 2)).length = (n - i) * 2 := by rw [List.length_take, List.length_drop]; omega
  have h1 : (C.take (i * 2) ++ z).take (i * 2) = C.take (i * 2) := List.take_left' hA
  unfold tail1 put1
  rw [h1]
  have hAc : (C.take (i * 2) ++ cs).length = (i + 1) * 2 := by rw [List.length_append, hA, hcs]; omega
  rw [List.take_left' (l₁ := C.take (i * 2) ++ cs) hAc]
  refine List.take_left' ?_
  rw [List.length_append, hAc, hM]
  omega
theorem put_tail_length {z : List Value} {G : Nat} (hc : n * 2 ≤ C.length) (hi : i < n) (hcs : cs.length = 2) (hG : n + 1 ≤ G) (hz : z.length = (G - i) * 2) :
    (tail1 (put1 (C.take (i * 2) ++ z) i cs) i ((C.drop (i * 2)).take ((n - i) * 2))).length = G * 2 := by
  unfold tail1 put1
  simp only [List.length_append, List.length_take, List.length_drop, hcs, hz]
  omega
theorem put_up_length {c : Nat} (hc : C.length = c * 2) (hn : n + 1 ≤ c) (hi : i < n) (hcs : cs.length = 2) : (put1 (up1 C i n) i cs).length = c * 2 := by
  unfold put1 up1
  simp only [List.length_append, List.length_take, List.length_drop, hcs, hc]
  omega
end
theorem flat_take (l : Vars) (i : Nat) : flat (l.take i) = (flat l).take (i * 2) := by
  induction l generalizing i with
  | nil => simp [flat]
  | cons x l ih =>
    cases i with
    | zero => rfl
    | succ i => rw [List.take_succ_cons, flat_cons, flat_cons, ih, show (i + 1) * 2 = i * 2 + 1 + 1 by omega, List.take_succ_cons, List.take_succ_cons]
theorem flat_drop (l : Vars) (i : Nat) : flat (l.drop i) = (flat l).drop (i * 2) := by
  induction l generalizing i with
  | nil => simp [flat]
  | cons x l ih =>
    cases i with
    | zero => rfl
    | succ i => rw [List.drop_succ_cons, flat_cons, ih, show (i + 1) * 2 = i * 2 + 1 + 1 by omega, List.drop_succ_cons, List.drop_succ_cons]
theorem flat_put {C : List Value} {l : Vars} {x : S39} {i n : Nat} (hl : l.length = n) (hi : i < n) (hC : C.take (n * 2) = flat l) :
    C.take (i * 2) ++ [.string x.f0, .string x.f1] ++ (C.drop (i * 2)).take ((n - i) * 2) = flat (l.take i ++ x :: l.drop i) := by
  rw [flat_append, flat_cons, flat_take, flat_drop, ← hC, List.take_take, Nat.min_eq_left (by omega), List.drop_take, show n * 2 - i * 2 = (n - i) * 2 by omega]
  simp
theorem setRow_other {w : World} {g k : Nat} {cs : Array Value} (h : k ≠ g) : (w.setRow g cs).heap[k]? = w.heap[k]? := by
  unfold World.setRow
  rw [Array.getElem?_modify, if_neg (by omega)]
theorem setRow_size {w : World} {g : Nat} {cs : Array Value} : (w.setRow g cs).heap.size = w.heap.size := by
  unfold World.setRow
  simp
theorem insert_calls (base : Nat) (v : Value) (n i gv : Nat) (l : Vars) (x : S39) (w : World) (hbase : base ≤ w.heap.size) (hown : w.ownsRow base 39 2 v n (flat l)) (hl : l.length = n) (hn : n ≤ 1000) (hi : i ≤ n)
    (hgv : w.heap[gv]? = some (.cells #[.string x.f0, .string x.f1] 39 (0, 0))) (hne : v.ownBlock ≠ some gv) :
    Calls Tryd.prog 29 #[v, .int .i64 i, .slice (some ⟨gv, 0, none⟩) 1 1] w fun e w' => ∃ v', e = .returned v' ∧ w'.ownsRow base 39 2 v' (n + 1) (flat (l.take i ++ x :: l.drop i)) ∧ w.grownBy w' v.ownBlock := by
  by_cases hin : i = n
  · subst hin
    refine (insert_end base v i gv (flat l) x w hbase hown hn hgv).mono ?_
    rintro e w' ⟨v', he, ho, hg⟩
    refine ⟨v', he, ?_, hg⟩
    rw [List.take_of_length_le (by omega), List.drop_eq_nil_of_le (by omega), flat_append]
    exact ho
  · have hlt : i < n := by omega
    rcases hown.2 with ⟨_, h0⟩ | ⟨g, cap, cur, rfl, hb, hg, hnc, hcm, hcs, hct⟩
    · omega
    · have hne' : gv ≠ g := fun h => hne (by rw [h]; rfl)
      have hone : ∀ u ∈ cur.toList.take (n * 2), u.oneCell' = true := fun u hu => flat_one (l := l) (by rw [← hct]; exact hu)
      have hcl : cur.toList.length = cap * 2 := by rw [Array.length_toList]; exact hcs
      by_cases hroom : n + 1 ≤ cap
      · refine (insert_room g cap n i gv cur x w hg hcs hroom (by unfold maxLen at hcm; omega) hn hlt hone hgv hne').mono ?_
        rintro e w' ⟨he, hw⟩
        have hgd : w.drew.heap[g]? = some (.cells cur 39 (0, 0)) := hg
        have h1 := setRow_heap w.drew g cur (up1 cur.toList i n).toArray 39 (0, 0) hgd
        have h2 := setRow_heap _ g _ (put1 (up1 cur.toList i n) i [.string x.f0, .string x.f1]).toArray 39 (0, 0) h1
        refine ⟨_, he, ⟨by rw [flat_length]; simp; omega, Or.inr ⟨g, cap, _, rfl, hb, by rw [hw]; exact h2, hroom, hcm, ?_, ?_⟩⟩, ?_⟩
        · rw [List.size_toArray, put_up_length hcl hroom hlt rfl]
        · rw [List.toList_toArray, put_up (by omega) hlt rfl, flat_put hl hlt hct]
        · subst hw
          exact ⟨rfl, rfl, rfl, by rw [setRow_size, setRow_size]; exact Nat.le_refl _, fun k hk hkg => by
            have : k ≠ g := fun h => hkg (by rw [h]; rfl)
            rw [setRow_other this, setRow_other this]; rfl⟩
      · refine (insert_grow g cap n i gv cur x w hg hcs hnc (by omega) hn hlt hone hgv).mono ?_
        rintro e w' ⟨G, z, he, hG, hG63, hz, hw⟩
        have hN : (w.drew.alloc (.cells (cur.toList.take (i * 2) ++ z).toArray 39)).heap[w.heap.size]? = some (.cells (cur.toList.take (i * 2) ++ z).toArray 39 (0, 0)) := Array.getElem?_push_size
        have h1 := setRow_heap _ w.heap.size _ (put1 (cur.toList.take (i * 2) ++ z) i [.string x.f0, .string x.f1]).toArray 39 (0, 0) hN
        have h2 := setRow_heap ((w.drew.alloc (.cells (cur.toList.take (i * 2) ++ z).toArray 39)).setRow w.heap.size (put1 (cur.toList.take (i * 2) ++ z) i [.string x.f0, .string x.f1]).toArray).drew w.heap.size _
          (tail1 (put1 (cur.toList.take (i * 2) ++ z) i [.string x.f0, .string x.f1]) i ((cur.toList.drop (i * 2)).take ((n - i) * 2))).toArray 39 (0, 0) h1
        refine ⟨_, he, ⟨by rw [flat_length]; simp; omega, Or.inr ⟨w.heap.size, G, _, rfl, hbase, by rw [hw]; exact h2, hG, by unfold maxLen; omega, ?_, ?_⟩⟩, ?_⟩
        · rw [List.size_toArray, put_tail_length (by omega) hlt rfl hG hz]
        · rw [List.toList_toArray, put_tail (by omega) hlt rfl hG hz, flat_put hl hlt hct]
        · subst hw
          refine ⟨rfl, rfl, rfl, ?_, fun k hk hkg => ?_⟩
          · rw [setRow_size]
            show _ ≤ (World.setRow _ _ _).heap.size
            rw [setRow_size]
            show _ ≤ (w.heap.push _).size
            rw [Array.size_push]; omega
          · have hk' : k ≠ w.heap.size := by omega
            rw [setRow_other hk']
            show (World.setRow _ _ _).heap[k]? = _
            rw [setRow_other hk']
            show (w.heap.push _)[k]? = _
            rw [Array.getElem?_push, if_neg (by omega)]
end Go.Proofs.YtambnodgfhlpfaaDoor.A

/- arith.Set, walked. -/
set_option linter.unusedVariables false
set_option linter.unusedSimpArgs false
namespace Go.Proofs.YtambnodgfhlpfaaDoor.A
open Go.RowKit Go.Proofs.YtambnodgfhlpfaaDoorW.PrintWords Go.Proofs.YtambnodgfhlpfaaDoorW.PrintLast Go.Proofs.YtambnodgfhlpfaaDoor.G Go.Proofs.YtambnodgfhlpfaaDoor.QA

/-- The row with one variable set. -/
def setV (l : Vars) (t u : ByteArray) : Vars := if isAt l t then l.set (placeV l t) ⟨nameAt l (placeV l t), u⟩ else l.take (placeV l t) ++ ⟨t, u⟩ :: l.drop (placeV l t)
theorem rk_of_own {w : World} {base : Nat} {v : Value} {l : Vars} (h : w.ownsRow base 39 2 v l.length (flat l)) : Kd.R k39 39 w base (fun _ => True) v l := by
  refine ⟨fun _ _ => trivial, flat l, h, flat_length l, fun j p hj => ?_⟩
  have hd : l.drop j = p :: l.drop (j + 1) := by
    obtain ⟨hlt, he⟩ := List.getElem?_eq_some_iff.1 hj
    rw [← he]; exact List.drop_eq_getElem_cons hlt
  have e : List.take 2 (List.drop (j * 2) (flat l)) = [.string p.f0, .string p.f1] := by rw [← flat_drop, hd, flat_cons]; rfl
  show k39.M w base _ p (List.take 2 (List.drop (j * 2) (flat l)))
  rw [e]
  exact k39_mkM w base _ p
theorem own_base {w : World} {b b' : Nat} {e s n : Nat} {v : Value} {xs : List Value} (h : w.ownsRow b e s v n xs) (hb : b' ≤ b) : w.ownsRow b' e s v n xs := by
  refine ⟨h.1, ?_⟩
  rcases h.2 with h | ⟨g, cap, cur, h1, h2, h3⟩
  · exact Or.inl h
  · exact Or.inr ⟨g, cap, cur, h1, Nat.le_trans hb h2, h3⟩
theorem own_lt {w : World} {b e s n : Nat} {v : Value} {xs : List Value} (h : w.ownsRow b e s v n xs) : ∀ k, v.ownBlock = some k → b ≤ k ∧ k < w.heap.size := by
  intro k hk
  rcases h.2 with ⟨rfl, _⟩ | ⟨g, cap, cur, rfl, h2, h3, _⟩
  · cases hk
  · cases hk
    exact ⟨h2, (Array.getElem?_eq_some_iff.1 h3).1⟩
theorem own_alloc {w : World} {b e s n : Nat} {v : Value} {xs : List Value} (h : w.ownsRow b e s v n xs) (o : Obj) : (w.alloc o).ownsRow b e s v n xs := by
  refine ⟨h.1, ?_⟩
  rcases h.2 with h | ⟨g, cap, cur, h1, h2, h3, h4⟩
  · exact Or.inl h
  · refine Or.inr ⟨g, cap, cur, h1, h2, ?_, h4⟩
    have := (Array.getElem?_eq_some_iff.1 h3).1
    show (w.heap.push _)[g]? = _
    rw [Array.getElem?_push, if_neg (by omega)]
    exact h3
theorem flat_set {l : Vars} {p : Nat} {x : S39} (u : ByteArray) (h : l[p]? = some x) : flat (l.set p ⟨x.f0, u⟩) = (flat l).set (p * 2 + 1) (.string u) := by
  induction l generalizing p with
  | nil => simp at h
  | cons y l ih =>
    cases p with
    | zero => cases h; rfl
    | succ p =>
      rw [List.set_cons_succ, flat_cons, flat_cons, ih (p := p) h, show (p + 1) * 2 + 1 = p * 2 + 1 + 1 + 1 by omega, List.set_cons_succ, List.set_cons_succ]
set_option maxHeartbeats 4000000 in
set_option maxRecDepth 100000 in
theorem set_calls (A0 : Option Addr) (c0 : Nat) (l : Vars) (t u : ByteArray) (w : World) (hr : Kd.C k39 w A0 l.length l) (hl : l.length ≤ 900) :
    Calls Tryd.prog 15 #[.slice A0 l.length c0, .string t, .string u] w fun e w' => ∃ v', e = .returned v' ∧ Kd.R k39 39 w' w.heap.size (fun _ => True) v' (setV l t u) ∧ Below w.heap.size w w' := by
  have HR := Lib.hid hr; clear hr
  cases ht : isAt l t with
  | true =>
    have hp : placeV l t < l.length := by
      unfold isAt at ht
      simp only [Bool.and_eq_true, decide_eq_true_eq] at ht
      exact ht.1
    have HT := Lib.hid ht; clear ht
    go_enter Tryd.func15, Tryd.ntmps15
    go_wp2_with fail
    refine (place_calls A0 c0 l t _ HR.out (by omega)).mono ?_
    rintro e w1 ⟨rfl, hb⟩
    rw [HT.out]
    have HB := Aside0.mk hb; clear hb
    go_wp2_with fail
    refine (clone_calls A0 c0 l w1 (Kd.C_below HR.out HB.out) (by omega)).mono ?_
    rintro e w2 ⟨v2, rfl, ho, hb2⟩
    have HB2 := Aside0.mk hb2; clear hb2
    rcases ho.2 with ⟨_, h0⟩ | ⟨g, cap, cur, rfl, hbg, hg, hnc, hcm, hcs, hct⟩
    · omega
    · have hlt : placeV l t * 2 + 1 < cur.size := by omega
      have hcell : ∃ z, w2.cell? ⟨g, placeV l t * 2 + 1, none⟩ = some z := ⟨cur[placeV l t * 2 + 1], by simp [World.cell?, hg, hlt]⟩
      obtain ⟨z, hz⟩ := hcell
      have hfz : w2.frozen? ⟨g, placeV l t * 2 + 1, none⟩ = false := by simp [World.frozen?, hg]
      have h0 : (0 : Int) ≤ (placeV l t : Int) := by omega
      have h1 : (placeV l t : Int) < (l.length : Int) := by omega
      have HF := Aside0.mk (show w2.setCell ⟨g, placeV l t * 2 + 1, none⟩ (.string u) = w2.setRow g (cur.setIfInBounds (placeV l t * 2 + 1) (.string u)) from setCell_eq_setRow w2 g _ cur 39 (0, 0) _ hg)
      have HCT := Aside0.mk hct
      have HCS := Aside0.mk hcs
      have HCM := Aside0.mk hcm
      clear ho hct hcs hcm hlt
      go_wp2_with fail
      go_ret
      have e : setV l t u = l.set (placeV l t) ⟨nameAt l (placeV l t), u⟩ := by unfold setV; rw [if_pos HT.out]
      have hx : l[placeV l t]? = some l[placeV l t] := List.getElem?_eq_getElem hp
      have hname : nameAt l (placeV l t) = l[placeV l t].f0 := by
        unfold nameAt rd_T39
        rw [Int.toNat_natCast, List.getD_eq_getElem?_getD, hx]
        rfl
      refine ⟨_, rfl, rk_of_own ?_, ?_⟩
      · rw [e, List.length_set, hname, flat_set u hx, HF.out]
        refine ⟨by rw [List.length_set, flat_length], Or.inr ⟨g, cap, _, rfl, Nat.le_trans HB.out.size hbg, setRow_heap w2 g cur _ 39 (0, 0) hg, hnc, HCM.out, by rw [Array.size_setIfInBounds]; exact HCS.out, ?_⟩⟩
        rw [Array.toList_setIfInBounds, List.take_set, HCT.out]
      · exact (HB.out.trans (HB2.out.mono HB.out.size)).setCell (Nat.le_trans HB.out.size hbg) _
  | false =>
    have hp : placeV l t ≤ l.length := (bs_le l t 0 l.length (Nat.zero_le _)).2
    have HT := Lib.hid ht; clear ht
    go_enter Tryd.func15, Tryd.ntmps15
    go_wp2_with fail
    refine (place_calls A0 c0 l t _ HR.out (by omega)).mono ?_
    rintro e w1 ⟨rfl, hb⟩
    rw [HT.out]
    have HB := Aside0.mk hb; clear hb
    go_wp2_with fail
    refine (clone_calls A0 c0 l w1 (Kd.C_below HR.out HB.out) (by omega)).mono ?_
    rintro e w2 ⟨v2, rfl, ho, hb2⟩
    have HB2 := Aside0.mk hb2; clear hb2
    have HO := Aside0.mk ho; clear ho
    go_wp2_with fail
    have hb3 : Below w.heap.size w (w2.alloc (.cells #[.string t, .string u] 39)) := (HB.out.trans (HB2.out.mono HB.out.size)).alloc (Nat.le_trans HB.out.size HB2.out.size) _
    have ho3 := own_alloc (own_base HO.out HB.out.size) (.cells #[.string t, .string u] 39)
    refine (insert_calls w.heap.size v2 l.length (placeV l t) w2.heap.size l ⟨t, u⟩ (w2.alloc (.cells #[.string t, .string u] 39)) hb3.size ho3 rfl (by omega) hp Array.getElem?_push_size (fun h => absurd (own_lt HO.out _ h).2 (Nat.lt_irrefl _))).mono ?_
    rintro e w4 ⟨v4, rfl, ho4, hg4⟩
    go_wp2_with fail
    go_ret
    have e : setV l t u = l.take (placeV l t) ++ ⟨t, u⟩ :: l.drop (placeV l t) := by unfold setV; rw [if_neg (by rw [HT.out]; decide)]
    refine ⟨_, rfl, rk_of_own ?_, ?_⟩
    · rw [e]
      have hle : (l.take (placeV l t) ++ (⟨t, u⟩ : S39) :: l.drop (placeV l t)).length = l.length + 1 := by simp; omega
      rw [hle]
      exact ho4
    · exact hb3.grown hg4 hb3.size (fun k hk => Nat.le_trans HB.out.size (own_lt HO.out k hk).1)
end Go.Proofs.YtambnodgfhlpfaaDoor.A

/- arith.Set, told in the form that the printed walks call it by. -/
set_option linter.unusedVariables false
namespace Go.Proofs.YtambnodgfhlpfaaDoor.A
open Go.RowKit Go.Proofs.YtambnodgfhlpfaaDoorW.PrintWords Go.Proofs.YtambnodgfhlpfaaDoorW.PrintLast Go.Proofs.YtambnodgfhlpfaaDoor.G Go.Proofs.YtambnodgfhlpfaaDoor.QA
def arith_Set.f (l0 : List S39) (a1 : ByteArray) (a2 : ByteArray) : Option (List S39) := if l0.length ≤ 900 then some (setV l0 a1 a2) else none
theorem arith_Set.calls (A0 : Option Addr) (c0 : Nat) (l0 : List S39) (a1 : ByteArray) (a2 : ByteArray) (r : List S39) (w : World) (hr0 : Kd.C k39 w A0 l0.length l0) (hc0 : l0.length ≤ c0) (h : arith_Set.f l0 a1 a2 = some r) :
    Calls Tryd.prog 15 #[.slice A0 l0.length c0, .string a1, .string a2] w fun e w' => ∃ v0_ : Value, e = .returned (v0_) ∧ Kd.R k39 39 w' w.heap.size (fun _ => True) v0_ r ∧ Below w.heap.size w w' := by
  unfold arith_Set.f at h
  by_cases hc : l0.length ≤ 900
  · rw [if_pos hc] at h
    obtain rfl := Option.some.inj h
    exact set_calls A0 c0 l0 a1 a2 w hr0 hc
  · rw [if_neg hc] at h; cases h
end Go.Proofs.YtambnodgfhlpfaaDoor.A
