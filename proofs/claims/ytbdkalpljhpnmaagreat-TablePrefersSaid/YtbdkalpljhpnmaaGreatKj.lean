/- kalendsref13.Made: memory that is not older than a block. -/
import Derived.Test.YtbdkalpljhpnmaaGreatKh
import Derived.BigQuiet
import Derived.Deep.AppendLies
import Derived.Deep.CutBlock
import Derived.Deep.DeepCutAuto
import Derived.Deep.DrawnRows
import Derived.Deep.MidRow
import Derived.Deep.QuietTactic
import Derived.Deep.RegionHeld3
import Derived.Deep.RegionLaw
import Derived.Deep.WholeRow
import Derived.Great.BuildSlice
import Derived.Handy
import Derived.Laws.BytesString
import Derived.Laws.CopyOwn
import Derived.Laws.EntriesVeiled
import Derived.Laws.MakeOwn
import Derived.Laws.ResultCell
import Derived.Laws.Rows
import Derived.Laws.Tables
import Derived.Lib.Hide
import Derived.LoopIn
import Derived.LoopNIn
import Derived.Maps.AppendAt
import Derived.Outline
import Derived.OwnWalkIn
import Derived.RangeFuncBound
import Derived.RangeFuncBox
import Derived.RangeFuncCalls
import Derived.RangeFuncLeaves
import Derived.RangeFuncNested
import Derived.Shelf.Abstract
import Derived.Shelf.Bytes.SlSmallAll
import Derived.Shelf.RegionOpen
import Derived.StillTailTactics
import Derived.Stop.BytesEq
import Derived.TacticsInMore
import Derived.WalkKit
import Derived.WalkLawsBesides
import Derived.WalkSpells
namespace Go.Proofs.YtbdkalpljhpnmaaGreat
open Go Go.RowKit

/-- The list lies in a block that is not older than lo. -/
def LowA (lo : Nat) (A : Option Addr) (cs : List Value) : Prop := cs.length = 0 ∨ ∃ b off, A = some ⟨b, off, none⟩ ∧ lo ≤ b
theorem LZ.low {lo lo' B g : Nat} {w : World} {A : Option Addr} {cs : List Value} (h : LZ lo B g w A cs) (hlo : lo' ≤ lo) : LowA lo' A cs := by
  rcases h with h | ⟨b, off, h1, h0, _⟩
  · exact .inl h
  · exact .inr ⟨b, off, h1, Nat.le_trans hlo h0⟩
def ZnLow (lo : Nat) (s : Zs) (z : Zn) : Prop := LowA lo s.A (z.cal.months.map I) ∧ LowA lo s.B (z.cal.rules.flatMap Lr.cells) ∧ LowA lo s.C (z.trans.flatMap Tr.cells) ∧ LowA lo s.D (z.yearly.flatMap Yr.cells)
def MadeL (w : World) (z : Zn) (e : Ending) (w' : World) : Prop := ∃ s, e = .returned (.agg (znCells z s)) ∧ ZnAt w' w'.heap.size s z ∧ ZnLow w.heap.size s z ∧ Below w.heap.size w w'
theorem zn0_low0 (x : RwZ) {lo cnt : Nat} {s : Zs} (hp : x.cal.toNat % 2 = 0) (hc : mcnt x = cnt) (h1 : LowA lo s.A [I 7, I 6]) (h3 : LowA lo s.C ((mtrs x.gaps x.offs cnt).flatMap Tr.cells)) : ZnLow lo s (zn0 x) := by
  have e : mcal x.cal = ⟨2, [7, 6], -1, []⟩ := by unfold mcal; rw [if_neg (by omega)]
  refine ⟨?_, ?_, ?_, .inl rfl⟩
  · show LowA lo s.A ((mcal x.cal).months.map I)
    rw [e]; exact h1
  · show LowA lo s.B ((mcal x.cal).rules.flatMap Lr.cells)
    rw [e]; exact .inl rfl
  · show LowA lo s.C ((mtrs x.gaps x.offs (mcnt x)).flatMap Tr.cells)
    rw [hc]; exact h3
theorem zn0_low1 (x : RwZ) {lo cnt r : Nat} {s : Zs} (hp : x.cal.toNat % 2 = 1) (hr : x.cal.toNat / 2 % 2 = r) (hc : mcnt x = cnt) (h1 : LowA lo s.A [I 7, I 8]) (h2 : LowA lo s.B [I 2, I (r : Int), .bool true]) (h3 : LowA lo s.C ((mtrs x.gaps x.offs cnt).flatMap Tr.cells)) : ZnLow lo s (zn0 x) := by
  have e : mcal x.cal = ⟨5, [7, 8], 1, [⟨2, (r : Int), true⟩]⟩ := by unfold mcal; rw [if_pos hp, hr]
  refine ⟨?_, ?_, ?_, .inl rfl⟩
  · show LowA lo s.A ((mcal x.cal).months.map I)
    rw [e]; exact h1
  · show LowA lo s.B ((mcal x.cal).rules.flatMap Lr.cells)
    rw [e]; exact h2
  · show LowA lo s.C ((mtrs x.gaps x.offs (mcnt x)).flatMap Tr.cells)
    rw [hc]; exact h3
end Go.Proofs.YtbdkalpljhpnmaaGreat
