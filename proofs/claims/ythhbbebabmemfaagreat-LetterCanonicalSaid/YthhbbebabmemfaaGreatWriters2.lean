/- The methods of letter.writer: move, cells. -/
import Derived.Test.YthhbbebabmemfaaGreatWriters
import Derived.BigQuiet
import Derived.Deep.AppendLies
import Derived.Deep.CutBlock
import Derived.Deep.DeepCutAuto
import Derived.Deep.DrawnRows
import Derived.Deep.MidRow
import Derived.Deep.QuietTactic
import Derived.Deep.RegionHeld3
import Derived.Deep.RegionLaw
import Derived.Deep.WholeRow
import Derived.Great.BuildSlice
import Derived.Laws.BytesString
import Derived.Laws.CopyOwn
import Derived.Laws.EntriesVeiled
import Derived.Laws.MakeOwn
import Derived.Laws.ResultCell
import Derived.Laws.Rows
import Derived.Laws.Tables
import Derived.Lib.Hide
import Derived.LoopIn
import Derived.LoopNIn
import Derived.Maps.AppendAt
import Derived.Outline
import Derived.OwnWalkIn
import Derived.RangeFuncBound
import Derived.RangeFuncBox
import Derived.RangeFuncCalls
import Derived.RangeFuncLeaves
import Derived.RangeFuncNested
import Derived.Shelf.Abstract
import Derived.Shelf.Bytes.SlSmallAll
import Derived.Shelf.RegionOpen
import Derived.StillTailTactics
import Derived.Stop.BytesEq
import Derived.TacticsInMore
import Derived.WalkKit
import Derived.WalkLawsBesides
import Derived.WalkSpells
namespace Go.Proofs.YthhbbebabmemfaaGreat
open Go Go.RowKit

def mvBytes (m : Mv) : List UInt8 := le m.day 8 ++ le (if m.drop then 1 else 0) 1 ++ le m.toDay 8 ++ le m.minute 8 ++ le m.length 8
/-- Another block, beside the writer and the row of its bytes. -/
structure Far (w : World) (g : Nat) (v : Value) (k : Nat) (cs : Array Value) : Prop where
  row : Row w k cs
  ne : k ≠ g
  nv : some k ≠ v.ownBlock
theorem Far.next {w w' : World} {g k : Nat} {v v' : Value} {cs : Array Value} (h : Far w g v k cs) (hk : WKeep g v w v' w') : Far w' g v' k cs :=
  ⟨⟨Nat.lt_of_lt_of_le h.row.1 hk.size, fun i => (World.cell?_of_block (a := ⟨k, i, none⟩) (hk.block k h.row.1 h.ne h.nv)).trans (h.row.2 i)⟩, h.ne, by
    rcases hk.own with e | ⟨b, e, hb⟩
    · rw [e]; exact h.nv
    · rw [e]; intro h'; injection h' with h'; have := h.row.1; omega⟩
attribute [local go_sem] lt_get12 lt_get13 lt_get14 lt_get15 lt_get16 lt_get29
set_option maxRecDepth 10000 in
set_option maxHeartbeats 1000000 in
theorem moveW_any (w : World) (g b : Nat) (l : Lt) (vr vm vc v : Value) (bs : List UInt8) (hin : WIn w g b (ltCells l vr vm vc) v bs) (hl : bs.length ≤ 1099511627700) (h1 : fits l.move.day) (h2 : fits l.move.toDay) (h3 : fits l.move.minute) (h4 : fits l.move.length) :
    Calls Tryz.prog 25 #[pt g] w (NumPost w g (pt b) v (bs ++ mvBytes l.move)) := by
  have HI := Lib.hid hin
  have hc0 := cell_of_row w g 0 _ _ _ hin.st.1
  have hr0 := hin.row.2
  have hblt : b < w.heap.size := hin.row.1
  have hgl : g < w.heap.size := hin.gl
  clear hin
  obtain ⟨dr, hdr⟩ : ∃ x : Bool, l.move.drop = x := ⟨_, rfl⟩
  have HD := Lib.hid hdr
  have g13 : (ltCells l vr vm vc)[13]? = some (.bool dr) := by rw [← hdr]; rfl
  clear hdr
  -- the world in which the variable 'm' lies at the block behind w
  have hnew : WKeep g v w v (w.alloc (.cells #[I l.move.day, .bool dr, I l.move.toDay, I l.move.minute, I l.move.length] 26)) :=
    ⟨rfl, rfl, rfl, by simp, fun k hk _ _ => Below.heap_alloc w _ k hk, .inl rfl⟩
  have hstA : WSt (w.alloc (.cells #[I l.move.day, .bool dr, I l.move.toDay, I l.move.minute, I l.move.length] 26)) g (pt b) v bs :=
    ⟨(Below.heap_alloc w _ g HI.out.gl).trans HI.out.st.1, HI.out.st.2.alloc _⟩
  have HIA := Lib.hid (HI.out.next hstA hnew)
  have HKA := Lib.hid hnew
  have HMV := Lib.hid (Row.new w #[I l.move.day, .bool dr, I l.move.toDay, I l.move.minute, I l.move.length] 26)
  have HFA : Hid (Far (w.alloc (.cells #[I l.move.day, .bool dr, I l.move.toDay, I l.move.minute, I l.move.length] 26)) g v w.heap.size #[I l.move.day, .bool dr, I l.move.toDay, I l.move.minute, I l.move.length]) := Lib.hid ⟨HMV.out, by omega, fun e => by have := own_lt HI.out.st.2 _ e.symm; omega⟩
  have HD1 : fits 1 := by unfold fits; omega
  have HD0 : fits 0 := by unfold fits; omega
  clear hstA hnew
  have len1 : ∀ (xs : List UInt8) (n : Int) (k : Nat), (xs ++ le n k).length = xs.length + k := fun xs n k => by rw [List.length_append, le_length]
  have LEN := Lib.hid len1
  clear len1
  cases dr
  all_goals
    go_enter Tryz.func25, Tryz.ntmps25
    go_wp2_with fail
    refine (number8 _ _ _ _ _ _ h1 (by first | omega | (simp only [LEN.out]; omega)) HIA.out.gl HIA.out.st).mono ?_
    rintro e w1 ⟨rfl, v1, hs1, hk1⟩
    have HI1 := Lib.hid (HIA.out.next hs1 hk1)
    have HK1 := Lib.hid (HKA.out.trans hk1)
    have HF1 := Lib.hid (HFA.out.next hk1)
    have hm1 := HF1.out.row.2
    clear hs1 hk1
    go_wp2_with fail
    refine (number1 _ _ _ _ _ _ (by first | exact HD1 | exact HD0) (by first | omega | (simp only [LEN.out]; omega)) HI1.out.gl HI1.out.st).mono ?_
    rintro e w2 ⟨rfl, v2, hs2, hk2⟩
    have HI2 := Lib.hid (HI1.out.next hs2 hk2)
    have HK2 := Lib.hid (HK1.out.trans hk2)
    have HF2 := Lib.hid (HF1.out.next hk2)
    have hm2 := HF2.out.row.2
    clear hs2 hk2
    go_wp2_with fail
    refine (number8 _ _ _ _ _ _ h2 (by first | omega | (simp only [LEN.out]; omega)) HI2.out.gl HI2.out.st).mono ?_
    rintro e w3 ⟨rfl, v3, hs3, hk3⟩
    have HI3 := Lib.hid (HI2.out.next hs3 hk3)
    have HK3 := Lib.hid (HK2.out.trans hk3)
    have HF3 := Lib.hid (HF2.out.next hk3)
    have hm3 := HF3.out.row.2
    clear hs3 hk3
    go_wp2_with fail
    refine (number8 _ _ _ _ _ _ h3 (by first | omega | (simp only [LEN.out]; omega)) HI3.out.gl HI3.out.st).mono ?_
    rintro e w4 ⟨rfl, v4, hs4, hk4⟩
    have HI4 := Lib.hid (HI3.out.next hs4 hk4)
    have HK4 := Lib.hid (HK3.out.trans hk4)
    have HF4 := Lib.hid (HF3.out.next hk4)
    have hm4 := HF4.out.row.2
    clear hs4 hk4
    go_wp2_with fail
    refine (number8 _ _ _ _ _ _ h4 (by first | omega | (simp only [LEN.out]; omega)) HI4.out.gl HI4.out.st).mono ?_
    rintro e w5 ⟨rfl, v5, hs5, hk5⟩
    have HI5 := Lib.hid (HI4.out.next hs5 hk5)
    have HK5 := Lib.hid (HK4.out.trans hk5)
    have HF5 := Lib.hid (HF4.out.next hk5)
    have hm5 := HF5.out.row.2
    clear hs5 hk5
    go_wp2
    go_end0
    refine ⟨rfl, v5, ?_, HK5.out⟩
    unfold mvBytes
    rw [HD.out]
    first | rw [if_pos rfl] | rw [if_neg (by decide)]
    simpa only [List.append_assoc] using HI5.out.st

def cellBytes (zs : List Int) : List UInt8 := zs.flatMap fun z => le z 1
def CellsRel (w : World) (g b : Nat) (cs : Array Value) (v : Value) (bs : List UInt8) (zs : List Int) (B : Nat) (A : Option Addr) (i : Value) (wr : World) : Prop :=
  ∃ k : Nat, k ≤ zs.length ∧ i = .int .i64 k ∧ ∃ v', WIn wr g b cs v' (bs ++ cellBytes (zs.take k)) ∧ WKeep g v w v' wr ∧ IntsAt wr B A zs
theorem cellBytes_snoc (zs : List Int) (z : Int) : cellBytes (zs ++ [z]) = cellBytes zs ++ le z 1 := by simp [cellBytes]
theorem cellBytes_length (zs : List Int) : (cellBytes zs).length = zs.length := by
  induction zs with
  | nil => rfl
  | cons z zs ih => simp only [cellBytes, List.flatMap_cons, List.length_append, le_length] at ih ⊢; rw [ih]; simp; omega
theorem take_snoc' (zs : List Int) (k : Nat) (h : k < zs.length) : zs.take (k + 1) = zs.take k ++ [zs[k]?.getD 0] := by
  rw [List.take_succ_eq_append_getElem h]; simp [h]
set_option maxRecDepth 10000 in
set_option maxHeartbeats 1000000 in
theorem cellsW_some (w : World) (g b : Nat) (l : Lt) (vr vm v : Value) (bb off c : Nat) (bs : List UInt8) (hin : WIn w g b (ltCells l vr vm (.slice (some ⟨bb, off, none⟩) l.cells.length c)) v bs) (hl : bs.length ≤ 1000000000000) (hz : l.cells.length ≤ 65536)
    (hi : IntsAt w b (some ⟨bb, off, none⟩) l.cells) (hfit : ∀ j, j < l.cells.length → fits (l.cells[j]?.getD 0)) :
    Calls Tryz.prog 28 #[pt g] w (NumPost w g (pt b) v (bs ++ (le l.cells.length 4 ++ cellBytes l.cells))) := by
  have HI := Lib.hid hin
  have HIN := Lib.hid hi
  have HFIT := Lib.hid hfit
  have hc0 := cell_of_row w g 0 _ _ _ hin.st.1
  have hr0 := hin.row.2
  have hfl : fits (l.cells.length : Int) := by unfold fits; omega
  clear hin hi hfit
  go_enter Tryz.func28, Tryz.ntmps28
  go_wp2_with fail
  refine (number4 _ _ _ _ bs _ hfl (by omega) HI.out.gl HI.out.st).mono ?_
  rintro e w1 ⟨rfl, v1, hs1, hk1⟩
  have HI1 := Lib.hid (HI.out.next hs1 hk1)
  have HK1 := Lib.hid hk1
  have hc1 := cell_of_row w1 g 0 _ _ _ hs1.1
  have hr1 := HI1.out.row.2
  have HIN1 := Lib.hid (hk1.ints HI.out.st (Nat.le_of_lt HI.out.lt) HI.out.gl HIN.out)
  clear hs1 hk1
  go_wp2_with fail
  go_loopw [22] (fun i wr => CellsRel w g b (ltCells l vr vm (.slice (some ⟨bb, off, none⟩) l.cells.length c)) v (bs ++ le l.cells.length 4) l.cells b (some ⟨bb, off, none⟩) i wr) (fun i _ => l.cells.length - (intOf i).toNat)
  case atStart => exact ⟨0, Nat.zero_le _, rfl, v1, by simpa [cellBytes] using HI1.out, HK1.out, HIN1.out⟩
  case round =>
    obtain ⟨k, hk, rfl, v2, hw2, hk2, hin2⟩ := hrel
    have HW2 := Lib.hid hw2
    have HK2 := Lib.hid hk2
    have HN2 := Lib.hid hin2
    clear hw2 hk2 hin2
    by_cases hlt : k < l.cells.length
    · obtain ⟨z, hz0⟩ : ∃ z, l.cells[k]?.getD 0 = z := ⟨_, rfl⟩
      have hcell : wr.cell? ⟨bb, off + k, none⟩ = some (I z) := by
        rcases HN2.out with h0 | ⟨b', off', e, _, hc⟩
        · omega
        · injection e with e
          injection e with e1 e2
          subst e1 e2
          rw [hc k hlt, hz0]
      have hfz : fits z := by rw [← hz0]; exact HFIT.out k hlt
      have HZ0 := Lib.hid hz0
      have hlen : ((bs ++ le l.cells.length 4) ++ cellBytes (l.cells.take k)).length ≤ 1099511627776 := by
        rw [List.length_append, List.length_append, le_length, cellBytes_length, List.length_take]; omega
      have HLEN := Lib.hid hlen
      clear hz0 hlen
      go_wp2_with fail
      refine (number1 _ _ _ _ _ _ hfz HLEN.out HW2.out.gl HW2.out.st).mono ?_
      rintro e w3 ⟨rfl, v3, hs3, hk3⟩
      have HI3 := Lib.hid (HW2.out.next hs3 hk3)
      have HK3 := Lib.hid (HK2.out.trans hk3)
      have HN3 := Lib.hid (hk3.ints HW2.out.st (Nat.le_of_lt HW2.out.lt) HW2.out.gl HN2.out)
      clear hs3 hk3
      go_wp2
      go_roundw
      case rel => exact ⟨k + 1, by omega, by go_num, v3, by rw [take_snoc' _ _ hlt, HZ0.out, cellBytes_snoc, ← List.append_assoc]; exact HI3.out, HK3.out, HN3.out⟩
      case measure => simp [intOf]; omega
    · have hke : l.cells.take k = l.cells := List.take_of_length_le (by omega)
      have HKE := Lib.hid hke
      clear hke
      go_wp2
      go_end0
      refine ⟨rfl, v2, ?_, HK2.out⟩
      have := HW2.out.st
      rw [HKE.out, List.append_assoc] at this
      exact this
end Go.Proofs.YthhbbebabmemfaaGreat
