/- The table's reader: take. -/
import Derived.Test.YtoljoigbepdeiaaGreatDoorPm
import Derived.Test.YtoljoigbepdeiaaGreatDoorBytesEq
import Derived.BigQuiet
import Derived.Deep.AppendLies
import Derived.Deep.CutBlock
import Derived.Deep.DeepCutAuto
import Derived.Deep.DrawnRows
import Derived.Deep.MidRow
import Derived.Deep.QuietTactic
import Derived.Deep.RegionHeld3
import Derived.Deep.RegionLaw
import Derived.Deep.WholeRow
import Derived.Great.BuildSlice
import Derived.Laws.BytesString
import Derived.Laws.CopyOwn
import Derived.Laws.EntriesVeiled
import Derived.Laws.MakeOwn
import Derived.Laws.ResultCell
import Derived.Laws.Rows
import Derived.Laws.Tables
import Derived.Lib.Hide
import Derived.LoopIn
import Derived.LoopNIn
import Derived.Maps.AppendAt
import Derived.Outline
import Derived.OwnWalkIn
import Derived.RangeFuncBound
import Derived.RangeFuncBox
import Derived.RangeFuncCalls
import Derived.RangeFuncLeaves
import Derived.RangeFuncNested
import Derived.Shelf.Abstract
import Derived.Shelf.Bytes.SlSmallAll
import Derived.Shelf.RegionOpen
import Derived.StillTailTactics
import Derived.Stop.BytesEq
import Derived.TacticsInMore
import Derived.WalkKit
import Derived.WalkLawsBesides
import Derived.WalkSpells
namespace Go.Proofs.YtoljoigbepdeiaaGreatDoor
open Go Go.RowKit

/-- The table's reader at block rb: the bytes that are left lie below block M. -/
structure TRd (M : Nat) (w : World) (rb : Nat) (rest : List UInt8) : Prop where
  at_ : ∃ bb off c, w.heap[rb]? = some (.cells #[.slice (some ⟨bb, off, none⟩) rest.length c] 141 (0, 0)) ∧ rest.length ≤ c ∧ c ≤ 9223372036854775807 ∧ bb < M ∧ ∀ j, j < rest.length → w.cell? ⟨bb, off + j, none⟩ = some (Extern.Stop.cell (rest[j]?.getD 0))
  lo : M ≤ rb
theorem TRd.lt {M : Nat} {w : World} {rb : Nat} {rest : List UInt8} (h : TRd M w rb rest) : rb < w.heap.size := by
  obtain ⟨bb, off, c, h1, _⟩ := h.at_
  exact (Array.getElem?_eq_some_iff.1 h1).1
theorem TRd.of {M : Nat} {w w' : World} {rb : Nat} {rest : List UInt8} (h : TRd M w rb rest) (h1 : w'.heap[rb]? = w.heap[rb]?) (h2 : ∀ k, k < M → w'.heap[k]? = w.heap[k]?) : TRd M w' rb rest := by
  obtain ⟨bb, off, c, g1, g2, g3, g4, g5⟩ := h.at_
  exact ⟨⟨bb, off, c, h1.trans g1, g2, g3, g4, fun j hj => (World.cell?_of_block (a := ⟨bb, off + j, none⟩) (h2 bb g4)).trans (g5 j hj)⟩, h.lo⟩
theorem TRd.below {M B : Nat} {w w' : World} {rb : Nat} {rest : List UInt8} (h : TRd M w rb rest) (hb : Below B w w') (hM : rb < B) : TRd M w' rb rest :=
  h.of (hb.block rb hM) fun k hk => hb.block k (by have := h.lo; omega)
theorem TRd.drew {M : Nat} {w : World} {rb : Nat} {rest : List UInt8} (h : TRd M w rb rest) : TRd M w.drew rb rest := h.of rfl fun _ _ => rfl
def GotT (M : Nat) (w : World) (rb n : Nat) (rest : List UInt8) (e : Ending) (w' : World) : Prop :=
  ∃ bb off c, e = .returned (.slice (some ⟨bb, off, none⟩) n c) ∧ n ≤ c ∧ c ≤ 9223372036854775807 ∧ bb < M ∧ (∀ j, j < n → w'.cell? ⟨bb, off + j, none⟩ = some (Extern.Stop.cell ((rest.take n)[j]?.getD 0))) ∧ TRd M w' rb (rest.drop n) ∧ MKeep rb w w'
theorem trd_set {M : Nat} {w : World} {rb bb off' c' n : Nat} {rest : List UInt8} {v : Value} (hM : M ≤ rb) (h1 : w.heap[rb]? = some (.cells #[v] 141 (0, 0))) (h2 : rest.length - n ≤ c') (h3 : c' ≤ 9223372036854775807) (h4 : bb < M)
    (h5 : ∀ j, j < (rest.drop n).length → w.cell? ⟨bb, off' + j, none⟩ = some (Extern.Stop.cell ((rest.drop n)[j]?.getD 0))) :
    TRd M (w.setCell ⟨rb, 0, none⟩ (.slice (some ⟨bb, off', none⟩) (rest.length - n) c')) rb (rest.drop n) ∧ MKeep rb w (w.setCell ⟨rb, 0, none⟩ (.slice (some ⟨bb, off', none⟩) (rest.length - n) c')) := by
  have hd : (rest.drop n).length = rest.length - n := List.length_drop
  refine ⟨⟨⟨bb, off', c', ?_, by omega, h3, h4, fun j hj => ?_⟩, hM⟩, ⟨rfl, rfl, rfl, by simp [World.setCell], fun k _ hk => heap_setCell_other w ⟨rb, 0, none⟩ k _ hk⟩⟩
  · rw [heap_setCell_same w rb 0 _ _ _ h1, hd]; rfl
  · exact (World.cell?_of_block (a := ⟨bb, off' + j, none⟩) (heap_setCell_other w ⟨rb, 0, none⟩ bb _ (by show bb ≠ rb; omega))).trans (h5 j hj)
set_option maxRecDepth 10000 in
set_option maxHeartbeats 1000000 in
theorem ttake_some (M : Nat) (w : World) (rb n : Nat) (rest : List UInt8) (hr : TRd M w rb rest) (hn : n ≤ rest.length) :
    Calls Tryz.prog 199 #[.pointer (some ⟨rb, 0, none⟩), I n] w (GotT M w rb n rest) := by
  obtain ⟨⟨bb, off, c, h1, h2, h3, h4, h5⟩, hM⟩ := hr
  have hc0 : w.cell? ⟨rb, 0, none⟩ = some (.slice (some ⟨bb, off, none⟩) rest.length c) := cell_of_row w rb 0 _ _ _ h1
  have hf0 := frozen_of_row w rb 0 _ _ h1
  obtain ⟨m, hm⟩ : ∃ m, rest.length = m := ⟨_, rfl⟩
  have HM := Lib.hid hm
  have HT : Hid (∀ j, j < n → w.cell? ⟨bb, off + j, none⟩ = some (Extern.Stop.cell ((rest.take n)[j]?.getD 0))) := Lib.hid (fun j hj => by rw [h5 j (by omega), List.getElem?_take_of_lt (by omega)])
  have H5 := Lib.hid h5
  have H1 := Lib.hid h1
  rw [hm] at hc0 hn h2
  clear h1 h5 hm
  have n1 : ¬ (m : Int) < (n : Int) := by omega
  have n2 : (0 : Int) ≤ (n : Int) := by omega
  by_cases hcn : c = n
  · have hmn : m = n := by omega
    subst hmn
    subst hcn
    have hS := trd_set (off' := off) (c' := 0) (n := c) (v := .slice (some ⟨bb, off, none⟩) rest.length c) hM H1.out (by rw [HM.out]; omega) (by omega) h4 (fun j hj => by rw [List.length_drop, HM.out] at hj; omega)
    rw [HM.out, Nat.sub_self] at hS
    have HSS := Lib.hid hS
    have HT2 : Hid (∀ j, j < c → (w.setCell ⟨rb, 0, none⟩ (.slice (some ⟨bb, off, none⟩) 0 0)).cell? ⟨bb, off + j, none⟩ = some (Extern.Stop.cell ((rest.take c)[j]?.getD 0))) := Lib.hid fun j hj => (World.cell?_of_block (a := ⟨bb, off + j, none⟩) (heap_setCell_other w _ bb _ (by show bb ≠ rb; omega))).trans (HT.out j hj)
    clear hS
    go_enter Tryz.func199, Tryz.ntmps199
    go_wp2
    go_ret
    exact ⟨_, _, _, rfl, Nat.le_refl _, h3, h4, HT2.out, HSS.out.1, HSS.out.2⟩
  · have hcn2 : ¬ n = c := fun h => hcn h.symm
    have hS := trd_set (off' := off + n) (c' := c - n) (n := n) (v := .slice (some ⟨bb, off, none⟩) rest.length c) hM H1.out (by rw [HM.out]; omega) (by omega) h4 (fun j hj => by
      rw [List.length_drop, HM.out] at hj
      rw [Nat.add_assoc, H5.out (n + j) (by rw [HM.out]; omega), List.getElem?_drop])
    rw [HM.out] at hS
    have HSS := Lib.hid hS
    have HT2 : Hid (∀ j, j < n → (w.setCell ⟨rb, 0, none⟩ (.slice (some ⟨bb, off + n, none⟩) (m - n) (c - n))).cell? ⟨bb, off + j, none⟩ = some (Extern.Stop.cell ((rest.take n)[j]?.getD 0))) := Lib.hid fun j hj => (World.cell?_of_block (a := ⟨bb, off + j, none⟩) (heap_setCell_other w _ bb _ (by show bb ≠ rb; omega))).trans (HT.out j hj)
    clear hS
    go_enter Tryz.func199, Tryz.ntmps199
    go_wp2
    go_ret
    exact ⟨_, _, _, rfl, by omega, h3, h4, HT2.out, HSS.out.1, HSS.out.2⟩
end Go.Proofs.YtoljoigbepdeiaaGreatDoor
