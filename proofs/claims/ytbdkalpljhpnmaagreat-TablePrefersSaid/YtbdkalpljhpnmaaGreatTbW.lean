/- The table's writer: number, length, flag, text. -/
import Derived.Test.YtbdkalpljhpnmaaGreatTbE
import Derived.Test.YtbdkalpljhpnmaaGreatQa
import Derived.BigQuiet
import Derived.Deep.AppendLies
import Derived.Deep.CutBlock
import Derived.Deep.DeepCutAuto
import Derived.Deep.DrawnRows
import Derived.Deep.MidRow
import Derived.Deep.QuietTactic
import Derived.Deep.RegionHeld3
import Derived.Deep.RegionLaw
import Derived.Deep.WholeRow
import Derived.Great.BuildSlice
import Derived.Laws.BytesString
import Derived.Laws.CopyOwn
import Derived.Laws.EntriesVeiled
import Derived.Laws.MakeOwn
import Derived.Laws.ResultCell
import Derived.Laws.Rows
import Derived.Laws.Tables
import Derived.Lib.Hide
import Derived.LoopIn
import Derived.LoopNIn
import Derived.Maps.AppendAt
import Derived.Outline
import Derived.OwnWalkIn
import Derived.RangeFuncBound
import Derived.RangeFuncBox
import Derived.RangeFuncCalls
import Derived.RangeFuncLeaves
import Derived.RangeFuncNested
import Derived.Shelf.Abstract
import Derived.Shelf.Bytes.SlSmallAll
import Derived.Shelf.RegionOpen
import Derived.StillTailTactics
import Derived.Stop.BytesEq
import Derived.TacticsInMore
import Derived.WalkKit
import Derived.WalkLawsBesides
import Derived.WalkSpells
namespace Go.Proofs.YtbdkalpljhpnmaaGreat
open Go Go.RowKit

/-- The table's writer at block g: the bytes written so far in a row of their own. -/
def TWSt (w : World) (g : Nat) (v : Value) (bs : List UInt8) : Prop :=
  w.heap[g]? = some (.cells #[v] 83 (0, 0)) ∧ w.ownsRow (g + 1) 5 1 v bs.length (bs.map Extern.Stop.cell)
/-- One byte more. -/
theorem twst_step {w w1 : World} {g : Nat} {v v' : Value} {bs : List UInt8} {c : UInt8} {o : Obj} (h : TWSt w g v bs) (hg : g < w.heap.size)
    (hown : w1.ownsRow (g + 1) 5 1 v' (bs.length + 1) (bs.map Extern.Stop.cell ++ [Extern.Stop.cell c])) (hgrow : (w.alloc o).grownBy w1 v.ownBlock)
    (hat : v'.ownBlock = v.ownBlock ∨ v'.ownBlock = some (w.heap.size + 1)) :
    w1.heap[g]? = some (.cells #[v] 83 (0, 0)) ∧ TWSt (w1.setCell ⟨g, 0, none⟩ v') g v' (bs ++ [c]) ∧ WKeep g v w v' (w1.setCell ⟨g, 0, none⟩ v') := by
  have hne : some g ≠ v.ownBlock := own_ge h.2 g (Nat.lt_succ_self g)
  have hg1 : w1.heap[g]? = some (.cells #[v] 83 (0, 0)) := by
    rw [hgrow.block g (by simp; omega) hne, Below.heap_alloc w o g hg]; exact h.1
  refine ⟨hg1, ⟨?_, ?_⟩, ?_⟩
  · rw [heap_setCell_same w1 g 0 _ _ v' hg1]; rfl
  · have := ownsRow_far (u := v') (p := ⟨g, 0, none⟩) hown (own_ge hown g (Nat.lt_succ_self g))
    simpa using this
  · refine ⟨hgrow.os, hgrow.tape, hgrow.output, ?_, fun k hk hkg hkv => ?_, ?_⟩
    · have := hgrow.size; simp [World.setCell] at this ⊢; omega
    · rw [heap_setCell_other w1 _ k v' hkg, hgrow.block k (by simp; omega) hkv, Below.heap_alloc w o k hk]
    · rcases hat with e | e
      · exact .inl e
      · exact .inr ⟨_, e, by omega⟩

def TwPost (w : World) (g : Nat) (v : Value) (bs : List UInt8) (e : Ending) (w' : World) : Prop :=
  e = .returned (.tuple #[]) ∧ ∃ v', TWSt w' g v' bs ∧ WKeep g v w v' w'
def TwRel (w : World) (g : Nat) (v : Value) (bs : List UInt8) (n : Int) (size : Nat) (x i : Value) (wr : World) : Prop :=
  ∃ k : Nat, k ≤ size ∧ i = .int .i64 k ∧ x = .int .i64 (shiftBy n k) ∧ ∃ v', TWSt wr g v' (bs ++ le n k) ∧ WKeep g v w v' wr
set_option maxRecDepth 10000 in
set_option maxHeartbeats 1000000 in
theorem tnumber_any (w : World) (g : Nat) (p : Addr) (v : Value) (bs : List UInt8) (n : Int) (size : Nat) (hn0 : -9223372036854775808 ≤ n) (hn1 : n ≤ 9223372036854775807) (hs : size ≤ 8) (hl : bs.length ≤ 1099511627776) (hg : g < w.heap.size) (hst : TWSt w g v bs) (hp : w.cell? p = some (I n)) :
    Calls Tryz.prog 152 #[pt g, .pointer (some p), I size] w (TwPost w g v (bs ++ le n size)) := by
  obtain ⟨i0, hi, hz0, hz1, hz2⟩ := info_parts info_u8
  have HST := Lib.hid hst
  clear hst
  go_enter Tryz.func152, Tryz.ntmps152
  go_wp2
  go_loopw [6, 11] (fun x i wr => TwRel w g v bs n size x i wr) (fun _ i _ => size - (intOf i).toNat)
  case atStart => exact ⟨0, Nat.zero_le _, rfl, rfl, v, by simpa [le] using HST.out, WKeep.refl _ _ _⟩
  case round =>
    obtain ⟨k, hk, rfl, rfl, v1, hw1, hk1⟩ := hrel
    by_cases hlt : k < size
    · obtain ⟨x, hx⟩ : ∃ x, shiftBy n k = x := ⟨_, rfl⟩
      have hbd := shiftBy_bd n k hn0 hn1
      rw [hx] at hbd ⊢
      have HX := Lib.hid hx
      obtain ⟨B, hB⟩ : ∃ B, bs ++ le n k = B := ⟨_, rfl⟩
      have hlen : B.length ≤ 1099511627784 := by rw [← hB, List.length_append, le_length]; omega
      rw [hB] at hw1
      have HBB := Lib.hid hB
      have hc := cell_of_row wr g 0 _ _ _ hw1.1
      have hgr : g < wr.heap.size := Nat.lt_of_lt_of_le hg hk1.size
      have HW := Lib.hid hw1
      have HK := Lib.hid hk1
      have hown := Lib.hid hw1.2
      clear hx hw1 hk1 hB
      go_wp2_with (at_builtin; refine wpList_append_own_at _ rfl _ _ 23 rfl (g + 1) 5 i0 (.int .u8 0) 1 1 Tryz.underlying23 hi hz0 hz1 hz2 rfl (by decide) _ _ _ rfl (hown.out.alloc _) ⟨wr.heap.size, 0, none⟩ 1 1 [Extern.Stop.cell (byteOf x)] rfl rfl ?c1 ?c2 ?c3 ?c4 ?c5 ?_)
      case c1 =>
        rw [byteOf_cell]
        exact cell_one_new _ _ _
      case c2 => intro u hu; simp at hu; subst hu; rfl
      case c3 => unfold maxLen; omega
      case c4 => omega
      case c5 => simp; omega
      intro v' w1 hown' hgrow _ hat
      obtain ⟨hg1, hst1, hkp1⟩ := twst_step HW.out hgr hown' hgrow hat
      obtain ⟨g', cap', rfl, _⟩ := own_form hown' (Nat.succ_pos _)
      have hc1 := cell_of_row w1 g 0 _ _ _ hg1
      have hf1 := frozen_of_row w1 g 0 _ _ hg1
      have HST1 := Lib.hid hst1
      have HKP1 := Lib.hid hkp1
      clear hown' hgrow hat hg1 hst1 hkp1 hc
      go_wp2
      go_roundw
      case rel => exact ⟨k + 1, by omega, by go_num, by unfold shiftBy; rw [HX.out], _, by rw [le_snoc, ← List.append_assoc, HBB.out, HX.out]; exact HST1.out, HK.out.trans HKP1.out⟩
      case measure => simp [intOf]; omega
    · have hke : k = size := by omega
      have HKE := Lib.hid hke
      have HW := Lib.hid hw1
      have HK := Lib.hid hk1
      clear hke hw1 hk1
      go_wp2
      go_end0
      exact ⟨rfl, v1, by rw [← HKE.out]; exact HW.out, HK.out⟩
end Go.Proofs.YtbdkalpljhpnmaaGreat
