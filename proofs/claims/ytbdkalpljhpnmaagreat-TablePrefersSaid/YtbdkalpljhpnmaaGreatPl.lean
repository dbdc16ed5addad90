/- Memory, in plain words: ranges of cells kept, numbers in memory of one's own. -/
import Derived.Test.YtbdkalpljhpnmaaGreatQa
import Derived.BigQuiet
import Derived.Deep.AppendLies
import Derived.Deep.CutBlock
import Derived.Deep.DeepCutAuto
import Derived.Deep.DrawnRows
import Derived.Deep.MidRow
import Derived.Deep.QuietTactic
import Derived.Deep.RegionHeld3
import Derived.Deep.RegionLaw
import Derived.Deep.WholeRow
import Derived.Great.BuildSlice
import Derived.Laws.BytesString
import Derived.Laws.CopyOwn
import Derived.Laws.EntriesVeiled
import Derived.Laws.MakeOwn
import Derived.Laws.ResultCell
import Derived.Laws.Rows
import Derived.Laws.Tables
import Derived.Lib.Hide
import Derived.LoopIn
import Derived.LoopNIn
import Derived.Maps.AppendAt
import Derived.Outline
import Derived.OwnWalkIn
import Derived.RangeFuncBound
import Derived.RangeFuncBox
import Derived.RangeFuncCalls
import Derived.RangeFuncLeaves
import Derived.RangeFuncNested
import Derived.Shelf.Abstract
import Derived.Shelf.Bytes.SlSmallAll
import Derived.Shelf.RegionOpen
import Derived.StillTailTactics
import Derived.Stop.BytesEq
import Derived.TacticsInMore
import Derived.WalkKit
import Derived.WalkLawsBesides
import Derived.WalkSpells
namespace Go.Proofs.YtbdkalpljhpnmaaGreat
open Go Go.RowKit

theorem rangeAt_keep {w w' : World} {B b o : Nat} {cs : List Value} (h : w.rangeAt b o cs) (hb : Below B w w') (hB : b < B) : w'.rangeAt b o cs := fun j v hv => (World.cell?_of_block (a := ⟨b, o + j, none⟩) (hb.block b hB)).trans (h j v hv)
/-- Numbers in memory that is not older than block lo. -/
def LI (lo : Nat) (w : World) (A : Option Addr) (zs : List Int) : Prop :=
  zs.length = 0 ∨ ∃ b off, A = some ⟨b, off, none⟩ ∧ lo ≤ b ∧ b < w.heap.size ∧ ∀ j, j < zs.length → w.cell? ⟨b, off + j, none⟩ = some (I (zs[j]?.getD 0))
theorem LI.of_blocks {lo : Nat} {w w' : World} {A : Option Addr} {zs : List Int} (h : LI lo w A zs) (hs : w.heap.size ≤ w'.heap.size) (hb : ∀ k, lo ≤ k → k < w.heap.size → w'.heap[k]? = w.heap[k]?) : LI lo w' A zs := by
  rcases h with h | ⟨b, off, hA, h1, h2, hc⟩
  · exact .inl h
  · exact .inr ⟨b, off, hA, h1, Nat.lt_of_lt_of_le h2 hs, fun j hj => (World.cell?_of_block (a := ⟨b, off + j, none⟩) (hb b h1 h2)).trans (hc j hj)⟩
theorem LI.lower {lo lo' : Nat} {w : World} {A : Option Addr} {zs : List Int} (h : LI lo w A zs) (hl : lo' ≤ lo) : LI lo' w A zs := by
  rcases h with h | ⟨b, off, hA, h1, h2, hc⟩
  · exact .inl h
  · exact .inr ⟨b, off, hA, Nat.le_trans hl h1, h2, hc⟩
theorem LI.ints {lo : Nat} {w : World} {A : Option Addr} {zs : List Int} (h : LI lo w A zs) : IntsAt w w.heap.size A zs := by
  rcases h with h | ⟨b, off, hA, h1, h2, hc⟩
  · exact .inl h
  · exact .inr ⟨b, off, hA, h2, hc⟩
theorem LI.of_owns {lo : Nat} {w : World} {v : Value} {zs : List Int} (h : w.ownsRow lo 3 1 v zs.length (zs.map I)) : ∃ A c, v = .slice A zs.length c ∧ LI lo w A zs := by
  obtain ⟨h0, ⟨rfl, h⟩ | ⟨g, cap, cur, rfl, hg, hb, h1, h2, h3, h4⟩⟩ := h
  · exact ⟨none, 0, by rw [h], .inl h⟩
  · refine ⟨some ⟨g, 0, none⟩, cap, rfl, .inr ⟨g, 0, rfl, hg, (Array.getElem?_eq_some_iff.1 hb).1, fun j hj => ?_⟩⟩
    have h5 : (cur.toList.take (zs.length * 1))[j]? = (zs.map I)[j]? := by rw [h4]
    rw [Nat.mul_one, List.getElem?_take_of_lt hj, List.getElem?_map] at h5
    rw [Nat.zero_add, cell_of_row w g j _ _ _ hb]
    simp only [Array.getElem?_toList] at h5
    rw [h5]
    simp [hj]
theorem ownsRow_blocks {lo e size n : Nat} {w w' : World} {v : Value} {xs : List Value} (h : w.ownsRow lo e size v n xs) (hb : ∀ k, lo ≤ k → k < w.heap.size → w'.heap[k]? = w.heap[k]?) : w'.ownsRow lo e size v n xs := by
  refine ⟨h.1, ?_⟩
  rcases h.2 with h | ⟨g, cap, cur, rfl, hg, hh, hr⟩
  · exact .inl h
  · exact .inr ⟨g, cap, cur, rfl, hg, (hb g hg (Array.getElem?_eq_some_iff.1 hh).1).trans hh, hr⟩
section
variable {P : Program} {ops : Array Oper} {Q : Exit → Act → World → Prop} {a : Act} {w : World} {rest : List Oper} {d : Option Tmp} {t : TypeId} {pos : String} {af : Array Edge} {g : Option (Nat × Bool)}
theorem g_load (ty : TypeId) {x : Operand} (h : wpList P ops Q (⟨d, .load ty x, t, pos, af, g⟩ :: rest) a w) : wpList P ops Q (⟨d, .load ty x, t, pos, af, g⟩ :: rest) a w := h
theorem g_store (ty : TypeId) {x y : Operand} (h : wpList P ops Q (⟨d, .store ty x y, t, pos, af, g⟩ :: rest) a w) : wpList P ops Q (⟨d, .store ty x y, t, pos, af, g⟩ :: rest) a w := h
end
end Go.Proofs.YtbdkalpljhpnmaaGreat
