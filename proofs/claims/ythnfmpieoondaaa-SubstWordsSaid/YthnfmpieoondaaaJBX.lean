/- Texts of this seat, put together: each part tells above it what it proves and on what conditions. -/
import Derived.Test.YthnfmpieoondaaaJShelf
import Derived.Shelf.RegionOpenPlain
import Derived.Lib.Strings
import Derived.Lib.Slices
import Derived.Lib.Walk
import Derived.Lib.Builder
import Derived.Lib.AppendStr
import Derived.Lib.UnsafeStr
import Derived.Lib.MakeNoZero
import Derived.Lib.Hide
import Derived.Below
import Derived.WalkKit
import Derived.Laws.Externs
import Derived.Laws.IdiomCopy
import Derived.Laws.BitsLemmas
import Derived.Shelf.Strings.Builder1
import Derived.Test.YthnfmpieoondaaaProg
import Derived.Deep.Draws
import Derived.OwnWalk
import Derived.Laws.BytesArg
import Derived.Lib.ConvBytes
import Derived.Outline
import Derived.WalkSpells
import Derived.KernelRfl
import Derived.RowKit3
import Derived.Test.YthnfmpieoondaaaJWWords
import Derived.StillTailTactics
import Derived.Deep.RegionLaw
import Derived.BigRegion
import Derived.Lib.SlBytesConst
import Derived.Deep.LoopGhost
import Derived.Laws.OwnMore
import Derived.Test.YthnfmpieoondaaaJWLast
import Derived.Test.YthnfmpieoondaaaJWz
/- strings.Builder, walked over this program: what each call comes to. -/
section
set_option linter.unusedVariables false
set_option linter.unusedSimpArgs false
namespace Go.Proofs.Ythnfmpieoondaaa.G
open Go.Shelf Go.RowKit
theorem sizeBuilder : (Try.prog.info? 76).map (·.size) = some 2 := by kernel_rfl
theorem liesBuilder : liesAt Try.prog Try.prog.depth 76 (2 / Try.prog.cellsOf 76) 0 76 1 = true := by kernel_rfl
theorem infoByte : (Try.prog.info? 5).map (fun i => (i.zero, i.size, i.bytes)) = some (some (.int .u8 0), 1, 1) := by kernel_rfl
set_option maxHeartbeats 1000000 in
set_option maxRecDepth 100000 in
theorem copyCheck_used (b : Nat) (w : World) (h0 : w.cell? ⟨b, 0, none⟩ = some (.pointer (some ⟨b, 0, none⟩))) :
    Calls Try.prog 64 #[.pointer (some ⟨b, 0, none⟩)] w fun e w' => e = .returned (.tuple #[]) ∧ w' = w := by
  obtain ⟨j, hj, _⟩ := Option.map_eq_some_iff.1 sizeBuilder
  go_enter Try.func64, Try.ntmps64
  go_wp2
  rw [Lib.run_neq_ptr_same w _ Try.underlying74 hj]
  go_wp2
  go_end0
  exact ⟨rfl, rfl⟩
set_option maxHeartbeats 1000000 in
set_option maxRecDepth 100000 in
theorem copyCheck_fresh (b : Nat) (w : World) (h0 : w.cell? ⟨b, 0, none⟩ = some (.pointer none)) (hsh : w.shape? b = some (76, 2)) (hfz : w.frozen? ⟨b, 0, none⟩ = false) :
    Calls Try.prog 64 #[.pointer (some ⟨b, 0, none⟩)] w fun e w' => e = .returned (.tuple #[]) ∧ w' = w.setCell ⟨b, 0, none⟩ (.pointer (some ⟨b, 0, none⟩)) := by
  obtain ⟨j, hj, hjs⟩ := Option.map_eq_some_iff.1 sizeBuilder
  go_enter Try.func64, Try.ntmps64
  go_wp2
  rw [Lib.run_to_unsafe w ⟨b, 0, none⟩ Try.underlying74 Try.underlying107 hj (by rw [hjs]; decide) hsh (Nat.zero_lt_succ 1)]
  simp only [Result.andThen]
  rw [Oper.upon_value]
  go_wp2
  rw [run_callFunc_extern Try.func73 (by kernel_rfl) (by kernel_rfl) (by kernel_rfl) (e := Extern.AbiNoEscape.same) (by kernel_rfl)]
  rw [Lib.run_noEscape]
  simp only [Result.andThen]
  rw [Oper.upon_value]
  go_wp2
  rw [Lib.run_from_unsafe w ⟨b, 0, none⟩ Try.underlying107 Try.underlying74 hj hsh liesBuilder]
  simp only [Result.andThen]
  rw [Oper.upon_value]
  go_wp2
  go_end0
  exact ⟨rfl, rfl⟩
theorem copyCheck (B b : Nat) (bs : List Value) (w : World) (h : Lib.IsBuilder 76 5 B b bs w) :
    Calls Try.prog 64 #[.pointer (some ⟨b, 0, none⟩)] w fun e w' => e = .returned (.tuple #[]) ∧ (Lib.BuilderAt 76 5 B b (.pointer (some ⟨b, 0, none⟩)) bs w' ∧ Below B w w' ∧ ∀ i, i ≠ b → w'.heap[i]? = w.heap[i]?) := by
  rcases h with h | h
  · refine (copyCheck_fresh b w h.cell0 h.shape h.frozen0).mono ?_
    rintro e w' ⟨rfl, rfl⟩
    exact ⟨rfl, h.used _, (Below.refl B w).setCell (p := ⟨b, 0, none⟩) h.1 _, fun i hi => Below.heap_setCell w ⟨b, 0, none⟩ _ i hi⟩
  · refine (copyCheck_used b w h.cell0).mono ?_
    rintro e w' ⟨rfl, rfl⟩
    exact ⟨rfl, h, Below.refl B _, fun _ _ => rfl⟩
set_option maxHeartbeats 2000000 in
set_option maxRecDepth 100000 in
theorem writeString (B b : Nat) (bs : List Value) (s : ByteArray) (w : World) (h : Lib.IsBuilder 76 5 B b bs w) (hlen : bs.length + s.size ≤ 140737488355328) (hBw : B ≤ w.heap.size) :
    Calls Try.prog 45 #[.pointer (some ⟨b, 0, none⟩), .string s] w fun e w' => e = .returned (.tuple #[.int .i64 s.size, .nilIface]) ∧ (Lib.BuilderAt 76 5 B b (.pointer (some ⟨b, 0, none⟩)) (bs ++ Lib.strCells s) w' ∧ Below B w w' ∧ ∀ i cs t, w.heap[i]? = some (.cells cs t (0, 0)) → t ≠ 5 → i ≠ b → w'.heap[i]? = w.heap[i]?) := by
  obtain ⟨i0, hi, hz0, hz1, hz2⟩ := info_parts infoByte
  go_enter Try.func45, Try.ntmps45
  go_wp2_with (go_at_call 64; refine (copyCheck B b bs _ h).mono ?_)
  rintro e w1 ⟨rfl, h1, hb1, hk1⟩
  have HK1 := Lib.hid hk1
  clear hk1
  obtain ⟨hB, v, hbk, hown, hne⟩ := h1
  have c0 : w1.cell? ⟨b, 0, none⟩ = some (.pointer (some ⟨b, 0, none⟩)) := by rw [Lib.cell_of_heap hbk]; rfl
  have c1 : w1.cell? ⟨b, 1, none⟩ = some v := by rw [Lib.cell_of_heap hbk]; rfl
  go_wp2_with (at_builtin; refine Lib.wpList_append_own_string _ rfl _ _ 58 9 rfl B 5 i0 Try.underlying58 Try.underlying9 hi hz0 hz1 hz2 _ _ _ rfl hown s rfl ?c3 ?c4 ?c5 ?_)
  case c3 => unfold maxLen; omega
  case c4 => omega
  case c5 => have := hb1.size; omega
  intro v' w2 hown' hgrow _
  have hlt : b < w1.heap.size := by
    rcases Nat.lt_or_ge b w1.heap.size with h' | h'
    · exact h'
    · simp [Array.getElem?_eq_none h'] at hbk
  have hb2 : w2.heap[b]? = some (.cells #[.pointer (some ⟨b, 0, none⟩), v] 76 (0, 0)) := by
    rw [hgrow.block b hlt (fun e => hne e.symm)]
    exact hbk
  have d0 : w2.cell? ⟨b, 0, none⟩ = some (.pointer (some ⟨b, 0, none⟩)) := by rw [Lib.cell_of_heap hb2]; rfl
  have d1 : w2.cell? ⟨b, 1, none⟩ = some v := by rw [Lib.cell_of_heap hb2]; rfl
  have f1 : w2.frozen? ⟨b, 1, none⟩ = false := Lib.frozen_of_heap hb2 1
  obtain ⟨ao, n', cap, rfl⟩ : ∃ ao n' cap, v' = .slice ao n' cap := by
    rcases hown'.2 with ⟨hv, _⟩ | ⟨g, cap, cur, hv, _⟩
    · exact ⟨_, _, _, hv⟩
    · exact ⟨_, _, _, hv⟩
  go_wp2
  go_ret2
  refine ⟨rfl, ?_, ?_, ?_⟩
  · exact Lib.BuilderAt.put (T := 76) (e := 5) hB hb2 (bs' := bs ++ Lib.strCells s) (by simpa [Lib.strCells_length] using hown') (by decide)
  · exact (hb1.grown hgrow (by have := hb1.size; omega) (fun k hk => (hown.lt k hk).1)).setCell (p := ⟨b, 1, none⟩) hB _
  · intro i cs t hi ht hib
    have h1 := HK1.out i hib
    rw [hi] at h1
    have hlt1 : i < w1.heap.size := (Array.getElem?_eq_some_iff.1 h1).1
    have hno : some i ≠ v.ownBlock := by
      intro e
      rcases hown.2 with ⟨rfl, _⟩ | ⟨g, cap, cur, rfl, _, hh, _⟩
      · simp [Value.ownBlock] at e
      · have : g = i := by simpa [Value.ownBlock, eq_comm] using e
        subst this
        rw [h1] at hh
        injection hh with hh
        injection hh with _ hh
        exact ht hh
    rw [Below.heap_setCell w2 ⟨b, 1, none⟩ _ i hib, hgrow.block i hlt1 hno, h1, hi]
end Go.Proofs.Ythnfmpieoondaaa.G
end

/- hex.Hex, walked: it comes to hexV of the text. -/
section
set_option linter.unusedVariables false
set_option linter.unusedSimpArgs false
namespace Go.Proofs.Ythnfmpieoondaaa.G
open Go.RowKit Go.Proofs.YthnfmpieoondaaaW.PrintWords Go.Proofs.YthnfmpieoondaaaW.PrintLast

def Own (base : Nat) (w : World) (v : Value) (xs : List Int) : Prop :=
  w.ownsRow base 5 1 v xs.length (nums .u8 xs) ∨ (xs = [120] ∧ ∃ g, v = .slice (some ⟨g, 0, none⟩) 1 1 ∧ base ≤ g ∧ w.heap[g]? = some (.cells #[.int .u8 120] 5 (1, 2)))

theorem Own.below {base : Nat} {w W : World} {v : Value} {xs : List Int} (h : Own base w v xs) (hb : Below w.heap.size w W) : Own base W v xs := by
  rcases h with h | ⟨hx, g, hv, hg, hc⟩
  · exact .inl (pw_own_below h hb)
  · refine .inr ⟨hx, g, hv, hg, ?_⟩
    rw [hb.block g (Array.getElem?_eq_some_iff.1 hc).1]
    exact hc
theorem Own.string {base : Nat} {w : World} {v : Value} {xs : List Int} (h : Own base w v xs) : (convert 58 9 v).run Try.prog w = .ok (.string (strOfNums xs)) w := by
  rcases h with h | ⟨rfl, g, rfl, hg, hc⟩
  · exact own_string Try.underlying58 Try.underlying5 Try.underlying9 h
  · refine run_convert_bytes_arg w 58 5 Try.underlying58 Try.underlying5 g 0 1 1 [120] rfl (fun i hi => ?_) 9 Try.underlying9
    obtain rfl : i = 0 := by omega
    simp [World.cell?, hc]
end Go.Proofs.Ythnfmpieoondaaa.G
end

/- Functions of package strings, and hex.Hex, as Lean functions: what a call of each comes to. -/
section
set_option linter.unusedVariables false
set_option linter.unusedSimpArgs false
namespace Go.Proofs.Ythnfmpieoondaaa.G
open Go.Shelf Go.RowKit Go.Proofs.YthnfmpieoondaaaW.PrintWords Go.Proofs.YthnfmpieoondaaaW.PrintLast Go.Proofs.YthnfmpieoondaaaW.PrintMore
theorem extra156 : Builder.Extra Try.prog Try.lays156_ren where
  sizeBuilder := by kernel_rfl
  liesBuilder := by kernel_rfl
  t5 := Try.underlying5
  a5 := Try.isAgg5
  z5 := Try.sizeOf5
  v5 := Try.zeroValue5
  infoByte := by kernel_rfl
  cellsByte := by kernel_rfl
  sizeByte := by kernel_rfl
  neB5 := by decide
theorem extra169 : Builder.Extra Try.prog Try.lays169_ren where
  sizeBuilder := by kernel_rfl
  liesBuilder := by kernel_rfl
  t5 := Try.underlying5
  a5 := Try.isAgg5
  z5 := Try.sizeOf5
  v5 := Try.zeroValue5
  infoByte := by kernel_rfl
  cellsByte := by kernel_rfl
  sizeByte := by kernel_rfl
  neB5 := by decide
theorem builderString (B b : Nat) (l : List UInt8) (w : World) (h : Lib.IsBuilder 76 5 B b (Lib.byteCells l) w) (hBw : B ≤ w.heap.size) :
    Calls Try.prog 46 #[.pointer (some ⟨b, 0, none⟩)] w fun e w' => e = .returned (.string ⟨l.toArray⟩) ∧ Below B w w' := Any.Builder_String_any Try.lays169 extra169 B b l w h hBw
/-- The bytes of texts, joined. -/
def joinL (l : List ByteArray) (sep : ByteArray) : List UInt8 := Lib.join (l.map (·.data.toList)) sep.data.toList
def strings_Join.f (l0 : List ByteArray) (a1 : ByteArray) : Option ByteArray := if l0.length ≤ 140737488355328 ∧ (joinL l0 a1).length ≤ 140737488355328 then some ⟨(joinL l0 a1).toArray⟩ else none
theorem strings_Join.calls (A0 : Option Addr) (c0 : Nat) (l0 : List ByteArray) (a1 r : ByteArray) (w : World) (hr0 : Kd.C Kd.string w A0 l0.length l0) (hc0 : l0.length ≤ c0) (h : strings_Join.f l0 a1 = some r) :
    Calls Try.prog 33 #[.slice A0 l0.length c0, .string a1] w fun e w' => e = .returned (.string r) ∧ Below w.heap.size w w' := by
  unfold strings_Join.f at h
  by_cases hb : l0.length ≤ 140737488355328 ∧ (joinL l0 a1).length ≤ 140737488355328
  · rw [if_pos hb] at h
    obtain rfl := Option.some.inj h
    rcases Nat.eq_zero_or_pos l0.length with h0 | h0
    · obtain rfl := List.length_eq_zero_iff.1 h0
      refine (Any.strings_Join_none Try.lays156 extra156 A0 c0 a1 w).mono ?_
      rintro e w' ⟨rfl, rfl⟩
      exact ⟨rfl, Below.refl _ _⟩
    · obtain ⟨ad, rfl, hc⟩ := hr0.2.2 h0
      obtain ⟨c, hcl, hp, hcell⟩ := hc 0 _ (List.getElem?_eq_getElem h0)
      have hp' : c = [Value.string l0[0]] := hp
      subst hp'
      have hat := hcell 0 _ rfl
      obtain ⟨bk, o, sp⟩ := ad
      have hsp : sp = none := by
        cases sp with
        | none => rfl
        | some n =>
          simp only [World.cell?, Addr.add] at hat
          simp at hat
          split at hat <;> simp_all
      subst hsp
      have hbk : bk < w.heap.size := World.block_lt_of_cell? w _ hat
      refine Any.strings_Join Try.lays156 extra156 bk o c0 l0 a1 w (fun j x hj => ?_) hbk hb.1 hc0 hb.2
      obtain ⟨c, hcl, hp, hcell⟩ := hc j x hj
      have hp' : c = [Value.string x] := hp
      subst hp'
      have h1 := hcell 0 _ rfl
      simp only [Kd.string, Kd.scalar, Nat.mul_one, Nat.add_zero] at h1
      rw [← h1]
      unfold Addr.add
      by_cases hj0 : j = 0
      · simp [hj0]
      · simp [hj0]
  · rw [if_neg hb] at h; cases h
def strings_IndexByte.f (a0 : ByteArray) (a1 : Int) : Option Int := some (Lib.indexByte a0.data.toList a1.toNat.toUInt8)
theorem strings_IndexByte.calls (a0 : ByteArray) (a1 : Int) (r : Int) (w : World) (h : strings_IndexByte.f a0 a1 = some r) :
    Calls Try.prog 53 #[.string a0, .int .u8 a1] w fun e w' => e = .returned (.int .i64 r) ∧ Drawn0 w w' := by
  obtain rfl := Option.some.inj h
  refine (Try.strings_IndexByte a0 a1 w).mono ?_
  rintro e w' ⟨rfl, rfl⟩
  exact ⟨rfl, Drawn0.refl _⟩
def strings_HasPrefix.f (a0 a1 : ByteArray) : Option Bool := some (Lib.hasPrefix a0.data.toList a1.data.toList)
theorem strings_HasPrefix.calls (a0 a1 : ByteArray) (r : Bool) (w : World) (h : strings_HasPrefix.f a0 a1 = some r) :
    Calls Try.prog 36 #[.string a0, .string a1] w fun e w' => e = .returned (.bool r) ∧ Drawn0 w w' := by
  obtain rfl := Option.some.inj h
  refine (Try.strings_HasPrefix a0 a1 w).mono ?_
  rintro e w' ⟨rfl, rfl⟩
  exact ⟨rfl, Drawn0.refl _⟩
end Go.Proofs.Ythnfmpieoondaaa.G
end
