/- (*series.reader).bytes where the bytes are there. -/
import Derived.Test.YtoljoigbepdeiaaGreatDoorPm
import Derived.Test.YtoljoigbepdeiaaGreatDoorBytesEq
import Derived.BigQuiet
import Derived.Deep.AppendLies
import Derived.Deep.CutBlock
import Derived.Deep.DeepCutAuto
import Derived.Deep.DrawnRows
import Derived.Deep.MidRow
import Derived.Deep.QuietTactic
import Derived.Deep.RegionHeld3
import Derived.Deep.RegionLaw
import Derived.Deep.WholeRow
import Derived.Great.BuildSlice
import Derived.Laws.BytesString
import Derived.Laws.CopyOwn
import Derived.Laws.Cover3
import Derived.Laws.EntriesVeiled
import Derived.Laws.MakeOwn
import Derived.Laws.ResultCell
import Derived.Laws.Rows
import Derived.Laws.Tables
import Derived.Lib.Hide
import Derived.LoopIn
import Derived.LoopNIn
import Derived.MapKept
import Derived.Maps.AppendAt
import Derived.Outline
import Derived.OwnWalkIn
import Derived.RangeFuncBound
import Derived.RangeFuncBox
import Derived.RangeFuncCalls
import Derived.RangeFuncLeaves
import Derived.RangeFuncNested
import Derived.Shelf.Abstract
import Derived.Shelf.Bytes.SlSmallAll
import Derived.Shelf.RegionOpen
import Derived.StillTailTactics
import Derived.Stop.BytesEq
import Derived.TacticsInMore
import Derived.WalkKit
import Derived.WalkLawsBesides
import Derived.WalkSpells
namespace Go.Proofs.YtoljoigbepdeiaaGreatDoor
open Go Go.RowKit

/-- The series' reader at block rb: the bytes that are left. -/
def SRd (w : World) (rb : Nat) (rest : List UInt8) : Prop :=
  ∃ bb off c, w.heap[rb]? = some (.cells #[.slice (some ⟨bb, off, none⟩) rest.length c] 199 (0, 0)) ∧ rest.length ≤ c ∧ c ≤ 9223372036854775807 ∧ bb < rb ∧ ∀ j, j < rest.length → w.cell? ⟨bb, off + j, none⟩ = some (Extern.Stop.cell (rest[j]?.getD 0))
theorem SRd.lt {w : World} {rb : Nat} {rest : List UInt8} (h : SRd w rb rest) : rb < w.heap.size := by
  obtain ⟨bb, off, c, h1, _⟩ := h
  exact (Array.getElem?_eq_some_iff.1 h1).1
theorem SRd.below {M : Nat} {w w' : World} {rb : Nat} {rest : List UInt8} (h : SRd w rb rest) (hb : Below M w w') (hM : rb < M) : SRd w' rb rest := by
  obtain ⟨bb, off, c, h1, h2, h3, h4, h5⟩ := h
  exact ⟨bb, off, c, (hb.block rb hM).trans h1, h2, h3, h4, fun j hj => (World.cell?_of_block (a := ⟨bb, off + j, none⟩) (hb.block bb (by omega))).trans (h5 j hj)⟩
def GotB (w : World) (rb n : Nat) (rest : List UInt8) (e : Ending) (w' : World) : Prop :=
  ∃ bb off c, e = .returned (.slice (some ⟨bb, off, none⟩) n c) ∧ n ≤ c ∧ c ≤ 9223372036854775807 ∧ BytesAt w' rb (some ⟨bb, off, none⟩) (rest.take n) ∧ SRd w' rb (rest.drop n) ∧ MKeep rb w w'
def GotBytes (w : World) (rb n : Nat) (rest : List UInt8) (e : Ending) (w' : World) : Prop :=
  ∃ A c, e = .returned (.slice A n c) ∧ n ≤ c ∧ c ≤ 9223372036854775807 ∧ BytesAt w' rb A (rest.take n) ∧ SRd w' rb (rest.drop n) ∧ MKeep rb w w'
theorem rd_set {w : World} {rb bb off' c' n : Nat} {rest : List UInt8} {v : Value} (_hl : n ≤ rest.length) (h1 : w.heap[rb]? = some (.cells #[v] 199 (0, 0))) (h2 : rest.length - n ≤ c') (h3 : c' ≤ 9223372036854775807) (h4 : bb < rb)
    (h5 : ∀ j, j < (rest.drop n).length → w.cell? ⟨bb, off' + j, none⟩ = some (Extern.Stop.cell ((rest.drop n)[j]?.getD 0))) :
    SRd (w.setCell ⟨rb, 0, none⟩ (.slice (some ⟨bb, off', none⟩) (rest.length - n) c')) rb (rest.drop n) ∧ MKeep rb w (w.setCell ⟨rb, 0, none⟩ (.slice (some ⟨bb, off', none⟩) (rest.length - n) c')) := by
  have hd : (rest.drop n).length = rest.length - n := List.length_drop
  refine ⟨⟨bb, off', c', ?_, by omega, h3, h4, fun j hj => ?_⟩, ⟨rfl, rfl, rfl, by simp [World.setCell], fun k _ hk => heap_setCell_other w ⟨rb, 0, none⟩ k _ hk⟩⟩
  · rw [heap_setCell_same w rb 0 _ _ _ h1, hd]; rfl
  · exact (World.cell?_of_block (a := ⟨bb, off' + j, none⟩) (heap_setCell_other w ⟨rb, 0, none⟩ bb _ (by show bb ≠ rb; omega))).trans (h5 j hj)
set_option maxRecDepth 10000 in
set_option maxHeartbeats 1000000 in
theorem rbytes_some (w : World) (rb n : Nat) (rest : List UInt8) (hr : SRd w rb rest) (hn : n ≤ rest.length) :
    Calls Tryz.prog 116 #[.pointer (some ⟨rb, 0, none⟩), I n] w (GotB w rb n rest) := by
  obtain ⟨bb, off, c, h1, h2, h3, h4, h5⟩ := hr
  have hc0 : w.cell? ⟨rb, 0, none⟩ = some (.slice (some ⟨bb, off, none⟩) rest.length c) := cell_of_row w rb 0 _ _ _ h1
  have hf0 := frozen_of_row w rb 0 _ _ h1
  have n0 : ¬ (n : Int) < 0 := by omega
  obtain ⟨m, hm⟩ : ∃ m, rest.length = m := ⟨_, rfl⟩
  have HM := Lib.hid hm
  have HT : Hid (BytesAt w rb (some ⟨bb, off, none⟩) (rest.take n)) := Lib.hid (by
    by_cases h0 : n = 0
    · exact .inl (by rw [h0]; simp)
    · refine .inr ⟨bb, off, rfl, h4, fun j hj => ?_⟩
      rw [List.length_take] at hj
      rw [h5 j (by omega), List.getElem?_take_of_lt (by omega)])
  have H5 := Lib.hid h5
  have H1 := Lib.hid h1
  rw [hm] at hc0 hn h2
  clear h1 h5 hm
  have n1 : ¬ (m : Int) < (n : Int) := by omega
  by_cases hcn : c = n
  · have hmn : m = n := by omega
    subst hmn
    subst hcn
    have hS := rd_set (off' := off) (c' := 0) (v := .slice (some ⟨bb, off, none⟩) rest.length c) (by rw [HM.out]; exact Nat.le_refl c : c ≤ rest.length) H1.out (by rw [HM.out]; omega) (by omega) h4 (fun j hj => by rw [List.length_drop, HM.out] at hj; omega)
    rw [HM.out, Nat.sub_self] at hS
    have HSS := Lib.hid hS
    have HT2 : Hid (BytesAt (w.setCell ⟨rb, 0, none⟩ (.slice (some ⟨bb, off, none⟩) 0 0)) rb (some ⟨bb, off, none⟩) (rest.take c)) := Lib.hid (HT.out.keep ((Below.refl rb w).setCell (p := ⟨rb, 0, none⟩) (Nat.le_refl _) _))
    clear hS
    go_enter Tryz.func116, Tryz.ntmps116
    go_wp2
    go_ret
    exact ⟨_, _, _, rfl, Nat.le_refl _, h3, HT2.out, HSS.out.1, HSS.out.2⟩
  · have hcn2 : ¬ n = c := fun h => hcn h.symm
    have hS := rd_set (off' := off + n) (c' := c - n) (v := .slice (some ⟨bb, off, none⟩) rest.length c) (by rw [HM.out]; exact hn : n ≤ rest.length) H1.out (by rw [HM.out]; omega) (by omega) h4 (fun j hj => by
      rw [List.length_drop, HM.out] at hj
      rw [Nat.add_assoc, H5.out (n + j) (by rw [HM.out]; omega), List.getElem?_drop])
    rw [HM.out] at hS
    have HSS := Lib.hid hS
    have HT2 : Hid (BytesAt (w.setCell ⟨rb, 0, none⟩ (.slice (some ⟨bb, off + n, none⟩) (m - n) (c - n))) rb (some ⟨bb, off, none⟩) (rest.take n)) := Lib.hid (HT.out.keep ((Below.refl rb w).setCell (p := ⟨rb, 0, none⟩) (Nat.le_refl _) _))
    clear hS
    go_enter Tryz.func116, Tryz.ntmps116
    go_wp2
    go_ret
    exact ⟨_, _, _, rfl, by omega, h3, HT2.out, HSS.out.1, HSS.out.2⟩
theorem rbytes_yes (w : World) (rb n : Nat) (rest : List UInt8) (hr : SRd w rb rest) (hn : n ≤ rest.length) :
    Calls Tryz.prog 116 #[.pointer (some ⟨rb, 0, none⟩), I n] w (GotBytes w rb n rest) :=
  (rbytes_some w rb n rest hr hn).mono fun _ _ ⟨bb, off, c, h⟩ => ⟨some ⟨bb, off, none⟩, c, h⟩
end Go.Proofs.YtoljoigbepdeiaaGreatDoor
