/- A node under way: the maker, the result's variable, the node's variable. -/
import Derived.Test.YthhbbebabmemfaaGreatPl
import Derived.Test.YthhbbebabmemfaaGreatRise
import Derived.BigQuiet
import Derived.Deep.AppendLies
import Derived.Deep.CutBlock
import Derived.Deep.DeepCutAuto
import Derived.Deep.DrawnRows
import Derived.Deep.MidRow
import Derived.Deep.QuietTactic
import Derived.Deep.RegionHeld3
import Derived.Deep.RegionLaw
import Derived.Deep.WholeRow
import Derived.Great.BuildSlice
import Derived.Laws.BytesString
import Derived.Laws.CopyOwn
import Derived.Laws.EntriesVeiled
import Derived.Laws.MakeOwn
import Derived.Laws.ResultCell
import Derived.Laws.Rows
import Derived.Laws.Tables
import Derived.Lib.Hide
import Derived.LoopIn
import Derived.LoopNIn
import Derived.Maps.AppendAt
import Derived.Outline
import Derived.OwnWalkIn
import Derived.RangeFuncBound
import Derived.RangeFuncBox
import Derived.RangeFuncCalls
import Derived.RangeFuncLeaves
import Derived.RangeFuncNested
import Derived.Shelf.Abstract
import Derived.Shelf.Bytes.SlSmallAll
import Derived.Shelf.RegionOpen
import Derived.StillTailTactics
import Derived.Stop.BytesEq
import Derived.TacticsInMore
import Derived.WalkKit
import Derived.WalkLawsBesides
import Derived.WalkSpells
namespace Go.Proofs.YthhbbebabmemfaaGreat
open Go Go.RowKit

def ndCells (d : Nd) (A : Option Addr) (c : Nat) : Array Value := #[I d.kind, I d.cal, I d.l, I d.r, I d.n, I d.m, .slice A d.list.length c, .string d.name]
def zNode : Array Value := #[I 0, I 0, I 0, I 0, I 0, I 0, .slice none 0 0, .string ⟨#[]⟩]
theorem node_zero : (Tryz.prog.info? 75).map (fun i => (i.zero, i.size)) = some (some (.agg zNode), zNode.size) := by kernel_rfl
theorem nd_size (d : Nd) (A : Option Addr) (c : Nat) : (Tryz.prog.info? 75).map (·.size) = some (ndCells d A c).size := by kernel_rfl
theorem nd_one (d : Nd) (A : Option Addr) (c : Nat) : (ndCells d A c).all (·.oneCell') = true := by kernel_rfl
theorem LI.mkeep {lo mb : Nat} {w w' : World} {A : Option Addr} {zs : List Int} (h : LI lo w A zs) (hk : MKeep mb w w') (hm : mb < lo) : LI lo w' A zs := h.of_blocks hk.size fun k h1 h2 => hk.block k h2 (by omega)
structure LS (w0 : World) (mb : Nat) (xs : List Int) (a nd b4 b6 : Nat) (cs : Array Value) (W : World) : Prop where
  hm : mb < w0.heap.size
  mkr : MkSt W mb xs a nd
  keep : MKeep mb w0 W
  lo : w0.heap.size ≤ b4
  ne : b4 < b6
  res : W.heap[b4]? = some (.cells zNode 75 (0, 0))
  var : W.heap[b6]? = some (.cells cs 75 (0, 0))
theorem LS.lt {w0 W : World} {mb a nd b4 b6 : Nat} {xs : List Int} {cs : Array Value} (h : LS w0 mb xs a nd b4 b6 cs W) : b6 < W.heap.size := (Array.getElem?_eq_some_iff.1 h.var).1
theorem LS.cell {w0 W : World} {mb a nd b4 b6 : Nat} {xs : List Int} {cs : Array Value} (h : LS w0 mb xs a nd b4 b6 cs W) : ∀ i, W.cell? ⟨b6, i, none⟩ = cs[i]? := fun i => cell_of_row W b6 i _ _ _ h.var
theorem LS.froz {w0 W : World} {mb a nd b4 b6 : Nat} {xs : List Int} {cs : Array Value} (h : LS w0 mb xs a nd b4 b6 cs W) : ∀ i, W.frozen? ⟨b6, i, none⟩ = false := fun i => frozen_of_row W b6 i _ _ h.var
theorem LS.step {w0 W W' : World} {mb a a' nd nd' b4 b6 : Nat} {xs : List Int} {cs : Array Value} (h : LS w0 mb xs a nd b4 b6 cs W) (hm : MkSt W' mb xs a' nd') (hk : MKeep mb W W') : LS w0 mb xs a' nd' b4 b6 cs W' :=
  have h1 := h.hm
  have h2 := h.lo
  have h3 := h.ne
  have h4 := h.lt
  ⟨h.hm, hm, h.keep.trans hk, h.lo, h.ne, (hk.block b4 (by omega) (by omega)).trans h.res, (hk.block b6 (by omega) (by omega)).trans h.var⟩
theorem LS.pick {w0 W : World} {mb a nd b4 b6 : Nat} {xs : List Int} {cs : Array Value} (h : LS w0 mb xs a nd b4 b6 cs W) (hx : XsOK xs) (n : Int) (ha : a ≤ 1000000000) (hn : 0 < n) (hn2 : n ≤ 1000000000000000000) :
    Calls Tryz.prog 30 #[pt mb, I n] W fun e W' => ∃ r, e = .returned (I r) ∧ 0 ≤ r ∧ r < n ∧ LS w0 mb xs (a + 1) nd b4 b6 cs W' :=
  (pick_any W mb xs a nd n h.mkr hx ha hn hn2).mono fun _ _ ⟨r, h1, h2, h3, h4, h5⟩ => ⟨r, h1, h2, h3, h.step h4 h5⟩
theorem LS.rise {w0 W : World} {mb a nd b4 b6 : Nat} {xs : List Int} {cs : Array Value} (h : LS w0 mb xs a nd b4 b6 cs W) (hx : XsOK xs) (low high : Int) (ha : a ≤ 100000000) (h1 : -1000 ≤ low) (h2 : low ≤ high) (h3 : high ≤ 1000) (h4 : 0 < high) :
    Calls Tryz.prog 88 #[pt mb, I low, I high] W fun e W' => ∃ zs A c a', e = .returned (.slice A zs.length c) ∧ Rising low high zs ∧ LI W.heap.size W' A zs ∧ a' ≤ a + 6 ∧ LS w0 mb xs a' nd b4 b6 cs W' :=
  (rising_any W mb xs a nd low high h.mkr hx ha h1 h2 h3 h4).mono fun _ _ ⟨zs, v, a', e1, e2, e3, e4, e5, e6⟩ => by
    obtain ⟨A, c, rfl, hli⟩ := LI.of_owns e3
    exact ⟨zs, A, c, a', e1, e2, hli, e5, h.step e4 e6⟩
theorem MkSt.far {w : World} {mb : Nat} {xs : List Int} {a n : Nat} (h : MkSt w mb xs a n) (p : Addr) (v : Value) (hp : mb < p.block) : MkSt (w.setCell p v) mb xs a n := by
  obtain ⟨A, c, h1, h2⟩ := h
  exact ⟨A, c, (heap_setCell_other w p mb v (by omega)).trans h1, h2.keep ((Below.refl mb w).setCell (p := p) (by omega) _)⟩
theorem LS.store {w0 W : World} {mb a nd b4 b6 : Nat} {xs : List Int} {cs : Array Value} (h : LS w0 mb xs a nd b4 b6 cs W) (o : Nat) (v : Value) : LS w0 mb xs a nd b4 b6 (cs.setIfInBounds o v) (W.setCell ⟨b6, o, none⟩ v) := by
  have h1 := h.hm
  have h2 := h.lo
  have h3 := h.ne
  have hb : Below b6 W (W.setCell ⟨b6, o, none⟩ v) := (Below.refl b6 W).setCell (p := ⟨b6, o, none⟩) (Nat.le_refl _) _
  refine ⟨h.hm, h.mkr.far _ _ (by show mb < b6; omega), ?_, h.lo, h.ne, (hb.block b4 (by omega)).trans h.res, heap_setCell_same W b6 o _ _ _ h.var⟩
  exact ⟨hb.os.trans h.keep.os, hb.tape.trans h.keep.tape, hb.output.trans h.keep.output, Nat.le_trans h.keep.size hb.size, fun k hk hn => (hb.block k (by omega)).trans (h.keep.block k hk hn)⟩
theorem LS.start {w w1 : World} {mb a nd : Nat} {xs : List Int} {cs : Array Value} (hm : MkSt w1 mb xs a nd) (hml : mb < w.heap.size) (hk : MKeep mb (w.alloc (.cells zNode 75)) w1) :
    LS w mb xs a nd w.heap.size w1.heap.size cs (w1.alloc (.cells cs 75)) := by
  have hs := hk.size
  rw [World.size_alloc] at hs
  have hk0 : MKeep mb w w1 := (MKeep.of_below (below_var w (.cells zNode 75))).trans hk
  refine ⟨hml, hm.grow (below_var w1 _), hk0.trans (MKeep.of_below (below_var w1 _)), Nat.le_refl _, by omega, ?_, heap_alloc_last w1 _⟩
  rw [Below.heap_alloc w1 _ _ (by omega), hk.block _ (by simp) (by omega), heap_alloc_last]
/-- What 'leaf' gives: a node, its list in memory of the call's own. -/
def Leafed (w : World) (mb : Nat) (xs : List Int) (at_ nodes : Nat) (P : Nd → Prop) (e : Ending) (w' : World) : Prop :=
  ∃ d A c a', e = .returned (.agg (ndCells d A c)) ∧ P d ∧ LI w.heap.size w' A d.list ∧ MkSt w' mb xs a' nodes ∧ a' ≤ at_ + 12 ∧ MKeep mb w w'
theorem LS.done {w0 W : World} {mb a nd b4 b6 : Nat} {xs : List Int} {d : Nd} {A : Option Addr} {c : Nat} (h : LS w0 mb xs a nd b4 b6 (ndCells d A c) W) (at_ : Nat) (ha : a ≤ at_ + 12) (P : Nd → Prop) (hP : P d) (hl : LI (b6 + 1) W A d.list) :
    Leafed w0 mb xs at_ nd P (.returned (.agg (ndCells d A c))) (W.setRow b4 (ndCells d A c)) := by
  have h1 := h.hm
  have h2 := h.lo
  have h3 := h.ne
  have hb : Below b4 W (W.setRow b4 (ndCells d A c)) := below_setRow (Below.refl b4 W) (Nat.le_refl _) _
  refine ⟨d, A, c, a, rfl, hP, ?_, ?_, ha, ?_⟩
  · refine (hl.of_blocks (by simp) fun k hk1 hk2 => setRow_other W b4 k _ (by omega)).lower (by omega)
  · obtain ⟨A', c', g1, g2⟩ := h.mkr
    exact ⟨A', c', (setRow_other W b4 mb _ (by omega)).trans g1, g2.keep (hb.mono (by omega))⟩
  · exact ⟨hb.os.trans h.keep.os, hb.tape.trans h.keep.tape, hb.output.trans h.keep.output, Nat.le_trans h.keep.size hb.size, fun k hk hn => (setRow_other W b4 k _ (by omega)).trans (h.keep.block k hk hn)⟩
end Go.Proofs.YthhbbebabmemfaaGreat
