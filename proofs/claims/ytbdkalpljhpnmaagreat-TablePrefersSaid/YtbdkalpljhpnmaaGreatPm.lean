/- Memory, in plain words: all but one block kept; rows of one's own. -/
import Derived.Test.YtbdkalpljhpnmaaGreatPl
import Derived.Test.YtbdkalpljhpnmaaGreatQa
import Derived.BigQuiet
import Derived.Deep.AppendLies
import Derived.Deep.CutBlock
import Derived.Deep.DeepCutAuto
import Derived.Deep.DrawnRows
import Derived.Deep.MidRow
import Derived.Deep.QuietTactic
import Derived.Deep.RegionHeld3
import Derived.Deep.RegionLaw
import Derived.Deep.WholeRow
import Derived.Great.BuildSlice
import Derived.Laws.BytesString
import Derived.Laws.CopyOwn
import Derived.Laws.EntriesVeiled
import Derived.Laws.MakeOwn
import Derived.Laws.ResultCell
import Derived.Laws.Rows
import Derived.Laws.Tables
import Derived.Lib.Hide
import Derived.LoopIn
import Derived.LoopNIn
import Derived.Maps.AppendAt
import Derived.Outline
import Derived.OwnWalkIn
import Derived.RangeFuncBound
import Derived.RangeFuncBox
import Derived.RangeFuncCalls
import Derived.RangeFuncLeaves
import Derived.RangeFuncNested
import Derived.Shelf.Abstract
import Derived.Shelf.Bytes.SlSmallAll
import Derived.Shelf.RegionOpen
import Derived.StillTailTactics
import Derived.Stop.BytesEq
import Derived.TacticsInMore
import Derived.WalkKit
import Derived.WalkLawsBesides
import Derived.WalkSpells
namespace Go.Proofs.YtbdkalpljhpnmaaGreat
open Go Go.RowKit

/-- Only the maker's block and new blocks have changed. -/
structure MKeep (mb : Nat) (w w' : World) : Prop where
  os : w'.os = w.os
  tape : w'.tape = w.tape
  output : w'.output = w.output
  size : w.heap.size ≤ w'.heap.size
  block : ∀ k, k < w.heap.size → k ≠ mb → w'.heap[k]? = w.heap[k]?
theorem MKeep.refl (mb : Nat) (w : World) : MKeep mb w w := ⟨rfl, rfl, rfl, Nat.le_refl _, fun _ _ _ => rfl⟩
theorem MKeep.trans {mb : Nat} {w w1 w2 : World} (h : MKeep mb w w1) (k : MKeep mb w1 w2) : MKeep mb w w2 :=
  ⟨k.os.trans h.os, k.tape.trans h.tape, k.output.trans h.output, Nat.le_trans h.size k.size, fun b hb hn => (k.block b (Nat.lt_of_lt_of_le hb h.size) hn).trans (h.block b hb hn)⟩
theorem MKeep.of_below {mb : Nat} {w w' : World} (h : Below w.heap.size w w') : MKeep mb w w' := ⟨h.os, h.tape, h.output, h.size, fun k hk _ => h.block k hk⟩
theorem MKeep.below {mb B : Nat} {w w' : World} (h : MKeep mb w w') (hB : B ≤ mb) (hs : B ≤ w.heap.size) : Below B w w' := ⟨h.os, h.tape, h.output, h.size, fun k hk => h.block k (by omega) (by omega)⟩
theorem MKeep.set {mb : Nat} {w w1 : World} (h : MKeep mb w w1) (o : Nat) (u : Value) : MKeep mb w (w1.setCell ⟨mb, o, none⟩ u) :=
  ⟨h.os, h.tape, h.output, by simpa [World.setCell] using h.size, fun b hb hn => (heap_setCell_other w1 _ b u hn).trans (h.block b hb hn)⟩
theorem MKeep.draws {mb : Nat} {w w1 : World} (h : MKeep mb w w1) (n : Nat) : MKeep mb w (w1.drewN n) := ⟨h.os, h.tape, h.output, h.size, h.block⟩
theorem MKeep.draw {mb : Nat} {w w1 : World} (h : MKeep mb w w1) : MKeep mb w w1.drew := ⟨h.os, h.tape, h.output, h.size, h.block⟩
theorem ownsRow_base' {w : World} {base base' e size n : Nat} {v : Value} {xs : List Value} (h : w.ownsRow base e size v n xs) (hb : base' ≤ base) : w.ownsRow base' e size v n xs := by
  refine ⟨h.1, ?_⟩
  rcases h.2 with h | ⟨g, cap, cur, rfl, hg, hh⟩
  · exact .inl h
  · exact .inr ⟨g, cap, cur, rfl, Nat.le_trans hb hg, hh⟩
theorem addr_add (g j : Nat) : (⟨g, 0, none⟩ : Addr).add j = ⟨g, j, none⟩ := by unfold Addr.add; split <;> simp_all
theorem info_int : (Tryz.prog.info? 3).map (fun i => (i.zero, i.size, i.bytes)) = some (some (.int .i64 0), 1, 8) := by kernel_rfl
theorem ownsRow_mkeep {mb base e size n : Nat} {w w' : World} {v : Value} {xs : List Value} (h : w.ownsRow base e size v n xs) (hk : MKeep mb w w') (hb : mb < base) : w'.ownsRow base e size v n xs := by
  refine ⟨h.1, ?_⟩
  rcases h.2 with h | ⟨g, cap, cur, rfl, hg, hh, hr⟩
  · exact .inl h
  · exact .inr ⟨g, cap, cur, rfl, hg, (hk.block g (Array.getElem?_eq_some_iff.1 hh).1 (by omega)).trans hh, hr⟩
theorem grown_low {W W' : World} {base e size n : Nat} {v : Value} {ys : List Value} {o : Obj} (hown : W.ownsRow base e size v n ys) (hg : (W.alloc o).grownBy W' v.ownBlock) (k : Nat) (hk : k < W.heap.size) (hkb : k < base) : W'.heap[k]? = W.heap[k]? := by
  rw [hg.block k (by simp; omega) (own_ge hown k hkb), Below.heap_alloc W o k hk]
theorem take_next {α : Type} (xs : List α) (k : Nat) (x : α) (h : xs[k]? = some x) : xs.take (k + 1) = xs.take k ++ [x] := by rw [List.take_add_one, h]; rfl
end Go.Proofs.YtbdkalpljhpnmaaGreat
