/- hex.Hex, walked: it comes to hexV of the text. -/
import Derived.Test.YtldagaiphggnnaaDoorGIsName
import Derived.StillTailTactics
import Derived.Deep.RegionLaw
import Derived.BigRegion
import Derived.Lib.SlBytesConst
import Derived.Deep.LoopGhost
import Derived.Laws.OwnMore
import Derived.Test.YtldagaiphggnnaaDoorWLast
namespace Go.Proofs.YtldagaiphggnnaaDoor.G
open Go.RowKit Go.Proofs.YtldagaiphggnnaaDoorW.PrintWords Go.Proofs.YtldagaiphggnnaaDoorW.PrintLast

def dg (d : Int) : Int := if d < 10 then 48 + d else 87 + d
def hexL (s : ByteArray) : Nat → List Int
  | 0 => [120]
  | k + 1 => hexL s k ++ [dg (bt s k / 16), dg (bt s k % 16)]
theorem hexL_length (s : ByteArray) : ∀ k, (hexL s k).length = 1 + 2 * k
  | 0 => rfl
  | k + 1 => by rw [hexL, List.length_append, hexL_length s k]; simp; omega
def Own (base : Nat) (w : World) (v : Value) (xs : List Int) : Prop :=
  w.ownsRow base 5 1 v xs.length (nums .u8 xs) ∨ (xs = [120] ∧ ∃ g, v = .slice (some ⟨g, 0, none⟩) 1 1 ∧ base ≤ g ∧ w.heap[g]? = some (.cells #[.int .u8 120] 5 (1, 2)))

theorem Own.below {base : Nat} {w W : World} {v : Value} {xs : List Int} (h : Own base w v xs) (hb : Below w.heap.size w W) : Own base W v xs := by
  rcases h with h | ⟨hx, g, hv, hg, hc⟩
  · exact .inl (pw_own_below h hb)
  · refine .inr ⟨hx, g, hv, hg, ?_⟩
    rw [hb.block g (Array.getElem?_eq_some_iff.1 hc).1]
    exact hc
theorem info5' : (Tryd.prog.info? 5).map (fun i => (i.zero, i.size, i.bytes)) = some (some (.int .u8 0), 1, 1) := by kernel_rfl
theorem run_append_Own (base : Nat) (w : World) (ty : TypeId) (v : Value) (xs : List Int) (h : Own base w v xs) (ad : Addr) (m c : Nat) (ys : List Int) (hl : ys.length = m)
    (hnews : ∀ j u, (nums .u8 ys)[j]? = some u → w.cell? (ad.add j) = some u) (hm : 0 < m) (hlim : xs.length + m ≤ 140737488355328) (hbase : base ≤ w.heap.size) :
    ∃ g cap w', (Builtin.append_ #[24, 24] ty #[v, .slice (some ad) m c]).run Tryd.prog w = .ok (.slice (some ⟨g, 0, none⟩) (xs ++ ys).length cap) w' ∧
      w'.ownsRow base 5 1 (.slice (some ⟨g, 0, none⟩) (xs ++ ys).length cap) (xs ++ ys).length (nums .u8 (xs ++ ys)) ∧ (∀ w0, Below base w0 w → Below base w0 w') := by
  obtain ⟨i0, hi, hzz⟩ := Option.map_eq_some_iff.1 info5'
  simp only [Prod.mk.injEq] at hzz
  obtain ⟨hz0, hz1, hz2⟩ := hzz
  have hL : (xs ++ ys).length = xs.length + m := by rw [List.length_append, hl]
  rw [hL, nums_append]
  rcases h with h | ⟨hx, g, rfl, hg, hc⟩
  · obtain ⟨g, cap, w', hr, h2, h3, _, _⟩ := run_append_lies (P := Tryd.prog) w 24 ty base 5 i0 (.int .u8 0) 1 1 Tryd.underlying24 hi hz0 hz1 hz2 rfl (by omega) v xs.length (nums .u8 xs) h ad m c (nums .u8 ys) (by rw [nums_length, hl, Nat.mul_one]) hnews (by intro u hu; simp [nums] at hu; obtain ⟨x, _, rfl⟩ := hu; rfl) hm (by simp only [maxLen]; omega) (by omega) hbase _ rfl
    exact ⟨g, cap, w', hr, h2, fun w0 hb => hb.grown h3 hbase (own_base h)⟩
  · subst hx
    have hr := run_append_grow (P := Tryd.prog) w 24 ty 5 i0 (.int .u8 0) Tryd.underlying24 hi hz0 ⟨g, 0, none⟩ 1 1 [.int .u8 120] (by rw [hz1]; rfl)
      (World.news_of_block hc) ad m c (nums .u8 ys) (by rw [nums_length, hl, hz1, Nat.mul_one]) hnews (by omega) (by simp at hlim; omega) (by rw [hz2]; exact growslice_fits (by omega) (by simp at hlim; omega))
    refine ⟨_, _, _, hr, ?_, fun w0 hb => (below_drew hb).alloc hbase _⟩
    refine ⟨by simp [nums, hl]; omega, .inr ⟨_, _, _, rfl, hbase, heap_alloc_new _ _, grownCap_ge _ _ _ _, grownCap_le_maxLen _ _ _ _ (by simp only [maxLen]; simp at hlim ⊢; omega), ?_, ?_⟩⟩
    · have := grownCap_ge w (1 + m) 1 5
      have e1 : (Value.int IntKind.u8 0).cells.size = 1 := rfl
      simp only [Array.size_append, List.size_toArray, size_zeroCells, nums_length, hl, List.length_singleton, e1]; omega
    · have e2 : ([Value.int .u8 120].toArray ++ (nums .u8 ys).toArray ++ Builtin.zeroCells (Value.int .u8 0).cells (grownCap w (1 + m) 1 5 - (1 + m))).toList = (nums .u8 [120] ++ nums .u8 ys) ++ (Builtin.zeroCells (Value.int .u8 0).cells (grownCap w (1 + m) 1 5 - (1 + m))).toList := by simp [nums]
      rw [e2, List.take_append_of_le_length (by simp [nums, hl]; omega), List.take_of_length_le (by simp [nums, hl]; omega)]
theorem Own.string {base : Nat} {w : World} {v : Value} {xs : List Int} (h : Own base w v xs) : (convert 24 9 v).run Tryd.prog w = .ok (.string (strOfNums xs)) w := by
  rcases h with h | ⟨rfl, g, rfl, hg, hc⟩
  · exact own_string Tryd.underlying24 Tryd.underlying5 Tryd.underlying9 h
  · refine run_convert_bytes_arg w 24 5 Tryd.underlying24 Tryd.underlying5 g 0 1 1 [120] rfl (fun i hi => ?_) 9 Tryd.underlying9
    obtain rfl : i = 0 := by omega
    simp [World.cell?, hc]
theorem step_append_Own {w : World} {ops : Array Oper} {o : Oper} {a : Act} {K : Act → World → Prop} {Q : Exit → Act → World → Prop} {E : Prop} (hgd : o.guard = none) (s x : Operand)
    (ho : o.op = .call { callee := .builtin .append, args := #[s, x], argTypes := #[24, 24] })
    (base : Nat) (v : Value) (xs : List Int) (hs : a.eval s = v) (hown : Own base w v xs)
    (ad : Addr) (m c : Nat) (ys : List Int) (hx : a.eval x = .slice (some ad) m c) (hl : ys.length = m) (hnews : ∀ j u, (nums .u8 ys)[j]? = some u → w.cell? (ad.add j) = some u)
    (hm : 0 < m) (hlim : xs.length + m ≤ 140737488355328) (hbase : base ≤ w.heap.size)
    (h : ∀ v' w', w'.ownsRow base 5 1 v' (xs ++ ys).length (nums .u8 (xs ++ ys)) → (∀ w0, Below base w0 w → Below base w0 w') → K (a.put o.dst v') w') :
    if Region.wanted o (yielded ops a.tmps) = true then Oper.wp Tryd.prog o a w K Q else E := by
  have hw : Region.wanted o (yielded ops a.tmps) = true := by simp [Region.wanted, hgd]
  rw [if_pos hw]
  obtain ⟨g, cap, w', hr, h2, h3⟩ := run_append_Own base w o.type v xs hown ad m c ys hl hnews hm hlim hbase
  unfold Oper.wp execOp
  simp only [ho, resolve, invoke, builtin, Sem.run_bind, Sem.run_pure, Result.andThen_ok, List.map_toArray, List.map_cons, List.map_nil, hs, hx, hr]
  exact h _ w' h2 h3
theorem run_index_dg (d : Int) (h0 : 0 ≤ d) (h1 : d < 16) (W : World) : (Instr.index 9 (Value.string ⟨#[48, 49, 50, 51, 52, 53, 54, 55, 56, 57, 97, 98, 99, 100, 101, 102]⟩) (.int .u8 d)).run Tryd.prog W = .ok (.int .u8 (dg d)) W := by
  have : d = 0 ∨ d = 1 ∨ d = 2 ∨ d = 3 ∨ d = 4 ∨ d = 5 ∨ d = 6 ∨ d = 7 ∨ d = 8 ∨ d = 9 ∨ d = 10 ∨ d = 11 ∨ d = 12 ∨ d = 13 ∨ d = 14 ∨ d = 15 := by omega
  rcases this with h | h | h | h | h | h | h | h | h | h | h | h | h | h | h | h <;> (subst h; go_simp; rfl)
theorem and15 (x : Int) (h0 : 0 ≤ x) (h1 : x ≤ 255) : Go.bits .and .u8 x 15 = x % 16 := by
  obtain ⟨n, rfl⟩ := Int.eq_ofNat_of_zero_le h0
  have hn : n < 256 := by omega
  have key : ∀ m : Fin 256, Go.bits .and .u8 ((m.val : Nat) : Int) 15 = ((m.val : Nat) : Int) % 16 := by decide +kernel
  exact key ⟨n, hn⟩

set_option maxHeartbeats 2000000 in
set_option maxRecDepth 100000 in
theorem hex_calls (s : ByteArray) (w : World) (hs : s.size ≤ 70368744177000) :
    Calls Tryd.prog 12 #[.string s] w fun e w' => e = .returned (.string (strOfNums (hexL s s.size))) ∧ Below w.heap.size w w' := by
  have kc := fun (w : World) (C : Array Value) (n c : Nat) => Lib.run_convert_bytes_const (P := Tryd.prog) w 24 5 C n c Tryd.underlying24 Tryd.underlying5
  go_enter Tryd.func12, Tryd.ntmps12
  go_wp2
  go_loopw [3, 9] (fun v i wr => ∃ k : Nat, k ≤ s.size ∧ i = .int .i64 k ∧ Aside0 (Own w.heap.size wr v (hexL s k)) ∧ Aside0 (Below w.heap.size w wr)) (fun _ i _ => s.size - (intOf i).toNat)
  case atStart =>
    refine ⟨0, Nat.zero_le _, rfl, ⟨.inr ⟨rfl, w.heap.size, rfl, Nat.le_refl _, heap_alloc_new _ _⟩⟩, ⟨(Below.refl _ _).alloc (Nat.le_refl _) _⟩⟩
  case round =>
    obtain ⟨k, hk, rfl, HO, HB⟩ := hrel
    by_cases hlt : k < s.size
    · have hb : ((s[k]'hlt).toNat : Int) = bt s k := by have := bt_at s k (by simpa using hlt); simpa using this
      have hr := bt_range s k
      have hi1 := run_index_dg (bt s k / 16) (by omega) (by omega)
      have hi2 := run_index_dg (bt s k % 16) (by omega) (by omega)
      have ha := and15 (bt s k) hr.1 hr.2
      have HA := Lib.hid ha; clear ha
      rw [← HA.out] at hi2
      have hlen := hexL_length s k
      have HL := Lib.hid hlen; clear hlen
      have hL2 : (hexL s k).length + 2 ≤ 140737488355328 := by have := HL.out; omega
      go_wp2
      go_region_law (refine step_append_Own rfl (.tmp 12) (.tmp 23) rfl w.heap.size _ (hexL s k) rfl (HO.out.below ?hbel) _ 2 2 [dg (bt s k / 16), dg (Go.bits .and .u8 (bt s k) 15)] rfl rfl ?hnews (by omega) hL2 ?hbase ?_; (case hbel => exact below_alloc (below_drew1 (Below.refl _ _)) _); (case hnews => exact World.news_of_block (heap_alloc_new _ _)); (case hbase => simp; exact HB.out.size |> (fun h => by omega)); intro v' w' hown hbl)
      all_goals
        rw [HA.out] at hown
        have hb1 := hbl _ (below_alloc (pw_below_drewN HB.out 1) _)
        have hown' : w'.ownsRow w.heap.size 5 1 v' (hexL s (k + 1)).length (nums .u8 (hexL s (k + 1))) := hown
        clear hown hbl hi1 hi2
        have HO' := Lib.hid hown'; clear hown'
        have HB' := Lib.hid hb1; clear hb1
        go_wp2
        go_roundw
        case rel => exact ⟨k + 1, by omega, by go_num, ⟨.inl HO'.out⟩, ⟨HB'.out⟩⟩
        case measure => simp [intOf]; omega
    · have hk1 : k = s.size := by omega
      subst hk1
      have hcv := HO.out.string
      go_wp2
      go_ret
      exact ⟨rfl, HB.out⟩
end Go.Proofs.YtldagaiphggnnaaDoor.G
