/- A node under way: the maker, the result's variable, the node's variable. -/
import Derived.Test.YtenbgpcdoljkgaaGreatDoorDec
import Derived.Test.YtenbgpcdoljkgaaGreatDoorValid
import Derived.Laws.CopyOwn
namespace Go.Proofs.YtenbgpcdoljkgaaGreatDoor
open Go Go.RowKit

def ndCells (d : Nd) (A : Option Addr) (c : Nat) : Array Value := #[I d.kind, I d.cal, I d.l, I d.r, I d.n, I d.m, .slice A d.list.length c, .string d.name]
def zNode : Array Value := #[I 0, I 0, I 0, I 0, I 0, I 0, .slice none 0 0, .string ⟨#[]⟩]
theorem node_zero : (Tryz.prog.info? 85).map (fun i => (i.zero, i.size)) = some (some (.agg zNode), zNode.size) := by kernel_rfl
theorem nd_size (d : Nd) (A : Option Addr) (c : Nat) : (Tryz.prog.info? 85).map (·.size) = some (ndCells d A c).size := by kernel_rfl
theorem nd_one (d : Nd) (A : Option Addr) (c : Nat) : (ndCells d A c).all (·.oneCell') = true := by kernel_rfl
/-- Numbers in memory that is not older than block lo. -/
def LI (lo : Nat) (w : World) (A : Option Addr) (zs : List Int) : Prop :=
  zs.length = 0 ∨ ∃ b off, A = some ⟨b, off, none⟩ ∧ lo ≤ b ∧ b < w.heap.size ∧ ∀ j, j < zs.length → w.cell? ⟨b, off + j, none⟩ = some (I (zs[j]?.getD 0))
theorem LI.of_blocks {lo : Nat} {w w' : World} {A : Option Addr} {zs : List Int} (h : LI lo w A zs) (hs : w.heap.size ≤ w'.heap.size) (hb : ∀ k, lo ≤ k → k < w.heap.size → w'.heap[k]? = w.heap[k]?) : LI lo w' A zs := by
  rcases h with h | ⟨b, off, hA, h1, h2, hc⟩
  · exact .inl h
  · exact .inr ⟨b, off, hA, h1, Nat.lt_of_lt_of_le h2 hs, fun j hj => (World.cell?_of_block (a := ⟨b, off + j, none⟩) (hb b h1 h2)).trans (hc j hj)⟩
theorem LI.mkeep {lo mb : Nat} {w w' : World} {A : Option Addr} {zs : List Int} (h : LI lo w A zs) (hk : MKeep mb w w') (hm : mb < lo) : LI lo w' A zs := h.of_blocks hk.size fun k h1 h2 => hk.block k h2 (by omega)
theorem LI.lower {lo lo' : Nat} {w : World} {A : Option Addr} {zs : List Int} (h : LI lo w A zs) (hl : lo' ≤ lo) : LI lo' w A zs := by
  rcases h with h | ⟨b, off, hA, h1, h2, hc⟩
  · exact .inl h
  · exact .inr ⟨b, off, hA, Nat.le_trans hl h1, h2, hc⟩
theorem LI.ints {lo : Nat} {w : World} {A : Option Addr} {zs : List Int} (h : LI lo w A zs) : IntsAt w w.heap.size A zs := by
  rcases h with h | ⟨b, off, hA, h1, h2, hc⟩
  · exact .inl h
  · exact .inr ⟨b, off, hA, h2, hc⟩
theorem LI.of_owns {lo : Nat} {w : World} {v : Value} {zs : List Int} (h : w.ownsRow lo 3 1 v zs.length (zs.map I)) : ∃ A c, v = .slice A zs.length c ∧ LI lo w A zs := by
  obtain ⟨h0, ⟨rfl, h⟩ | ⟨g, cap, cur, rfl, hg, hb, h1, h2, h3, h4⟩⟩ := h
  · exact ⟨none, 0, by rw [h], .inl h⟩
  · refine ⟨some ⟨g, 0, none⟩, cap, rfl, .inr ⟨g, 0, rfl, hg, (Array.getElem?_eq_some_iff.1 hb).1, fun j hj => ?_⟩⟩
    have h5 : (cur.toList.take (zs.length * 1))[j]? = (zs.map I)[j]? := by rw [h4]
    rw [Nat.mul_one, List.getElem?_take_of_lt hj, List.getElem?_map] at h5
    rw [Nat.zero_add, cell_of_row w g j _ _ _ hb]
    simp only [Array.getElem?_toList] at h5
    rw [h5]
    simp [hj]
structure LS (w0 : World) (mb : Nat) (xs : List Int) (a nd b4 b6 : Nat) (cs : Array Value) (W : World) : Prop where
  hm : mb < w0.heap.size
  mkr : MkSt W mb xs a nd
  keep : MKeep mb w0 W
  lo : w0.heap.size ≤ b4
  ne : b4 < b6
  res : W.heap[b4]? = some (.cells zNode 85 (0, 0))
  var : W.heap[b6]? = some (.cells cs 85 (0, 0))
theorem LS.lt {w0 W : World} {mb a nd b4 b6 : Nat} {xs : List Int} {cs : Array Value} (h : LS w0 mb xs a nd b4 b6 cs W) : b6 < W.heap.size := (Array.getElem?_eq_some_iff.1 h.var).1
theorem LS.cell {w0 W : World} {mb a nd b4 b6 : Nat} {xs : List Int} {cs : Array Value} (h : LS w0 mb xs a nd b4 b6 cs W) : ∀ i, W.cell? ⟨b6, i, none⟩ = cs[i]? := fun i => cell_of_row W b6 i _ _ _ h.var
theorem LS.froz {w0 W : World} {mb a nd b4 b6 : Nat} {xs : List Int} {cs : Array Value} (h : LS w0 mb xs a nd b4 b6 cs W) : ∀ i, W.frozen? ⟨b6, i, none⟩ = false := fun i => frozen_of_row W b6 i _ _ h.var
theorem LS.step {w0 W W' : World} {mb a a' nd nd' b4 b6 : Nat} {xs : List Int} {cs : Array Value} (h : LS w0 mb xs a nd b4 b6 cs W) (hm : MkSt W' mb xs a' nd') (hk : MKeep mb W W') : LS w0 mb xs a' nd' b4 b6 cs W' :=
  have h1 := h.hm
  have h2 := h.lo
  have h3 := h.ne
  have h4 := h.lt
  ⟨h.hm, hm, h.keep.trans hk, h.lo, h.ne, (hk.block b4 (by omega) (by omega)).trans h.res, (hk.block b6 (by omega) (by omega)).trans h.var⟩
theorem LS.pick {w0 W : World} {mb a nd b4 b6 : Nat} {xs : List Int} {cs : Array Value} (h : LS w0 mb xs a nd b4 b6 cs W) (hx : XsOK xs) (n : Int) (ha : a ≤ 1000000000) (hn : 0 < n) (hn2 : n ≤ 1000000000000000000) :
    Calls Tryz.prog 26 #[pt mb, I n] W fun e W' => ∃ r, e = .returned (I r) ∧ 0 ≤ r ∧ r < n ∧ LS w0 mb xs (a + 1) nd b4 b6 cs W' :=
  (pick_any W mb xs a nd n h.mkr hx ha hn hn2).mono fun _ _ ⟨r, h1, h2, h3, h4, h5⟩ => ⟨r, h1, h2, h3, h.step h4 h5⟩
theorem LS.rise {w0 W : World} {mb a nd b4 b6 : Nat} {xs : List Int} {cs : Array Value} (h : LS w0 mb xs a nd b4 b6 cs W) (hx : XsOK xs) (low high : Int) (ha : a ≤ 100000000) (h1 : -1000 ≤ low) (h2 : low ≤ high) (h3 : high ≤ 1000) (h4 : 0 < high) :
    Calls Tryz.prog 82 #[pt mb, I low, I high] W fun e W' => ∃ zs A c a', e = .returned (.slice A zs.length c) ∧ Rising low high zs ∧ LI W.heap.size W' A zs ∧ a' ≤ a + 6 ∧ LS w0 mb xs a' nd b4 b6 cs W' :=
  (rising_any W mb xs a nd low high h.mkr hx ha h1 h2 h3 h4).mono fun _ _ ⟨zs, v, a', e1, e2, e3, e4, e5, e6⟩ => by
    obtain ⟨A, c, rfl, hli⟩ := LI.of_owns e3
    exact ⟨zs, A, c, a', e1, e2, hli, e5, h.step e4 e6⟩
theorem MkSt.far {w : World} {mb : Nat} {xs : List Int} {a n : Nat} (h : MkSt w mb xs a n) (p : Addr) (v : Value) (hp : mb < p.block) : MkSt (w.setCell p v) mb xs a n := by
  obtain ⟨A, c, h1, h2⟩ := h
  exact ⟨A, c, (heap_setCell_other w p mb v (by omega)).trans h1, h2.keep ((Below.refl mb w).setCell (p := p) (by omega) _)⟩
theorem LS.store {w0 W : World} {mb a nd b4 b6 : Nat} {xs : List Int} {cs : Array Value} (h : LS w0 mb xs a nd b4 b6 cs W) (o : Nat) (v : Value) : LS w0 mb xs a nd b4 b6 (cs.setIfInBounds o v) (W.setCell ⟨b6, o, none⟩ v) := by
  have h1 := h.hm
  have h2 := h.lo
  have h3 := h.ne
  have hb : Below b6 W (W.setCell ⟨b6, o, none⟩ v) := (Below.refl b6 W).setCell (p := ⟨b6, o, none⟩) (Nat.le_refl _) _
  refine ⟨h.hm, h.mkr.far _ _ (by show mb < b6; omega), ?_, h.lo, h.ne, (hb.block b4 (by omega)).trans h.res, heap_setCell_same W b6 o _ _ _ h.var⟩
  exact ⟨hb.os.trans h.keep.os, hb.tape.trans h.keep.tape, hb.output.trans h.keep.output, Nat.le_trans h.keep.size hb.size, fun k hk hn => (hb.block k (by omega)).trans (h.keep.block k hk hn)⟩
theorem LS.start {w w1 : World} {mb a nd : Nat} {xs : List Int} {cs : Array Value} (hm : MkSt w1 mb xs a nd) (hml : mb < w.heap.size) (hk : MKeep mb (w.alloc (.cells zNode 85)) w1) :
    LS w mb xs a nd w.heap.size w1.heap.size cs (w1.alloc (.cells cs 85)) := by
  have hs := hk.size
  rw [World.size_alloc] at hs
  have hk0 : MKeep mb w w1 := (MKeep.of_below (below_var w (.cells zNode 85))).trans hk
  refine ⟨hml, hm.grow (below_var w1 _), hk0.trans (MKeep.of_below (below_var w1 _)), Nat.le_refl _, by omega, ?_, heap_alloc_last w1 _⟩
  rw [Below.heap_alloc w1 _ _ (by omega), hk.block _ (by simp) (by omega), heap_alloc_last]
/-- What 'leaf' gives: a node, its list in memory of the call's own. -/
def Leafed (w : World) (mb : Nat) (xs : List Int) (at_ nodes : Nat) (P : Nd → Prop) (e : Ending) (w' : World) : Prop :=
  ∃ d A c a', e = .returned (.agg (ndCells d A c)) ∧ P d ∧ LI w.heap.size w' A d.list ∧ MkSt w' mb xs a' nodes ∧ a' ≤ at_ + 12 ∧ MKeep mb w w'
theorem LS.done {w0 W : World} {mb a nd b4 b6 : Nat} {xs : List Int} {d : Nd} {A : Option Addr} {c : Nat} (h : LS w0 mb xs a nd b4 b6 (ndCells d A c) W) (at_ : Nat) (ha : a ≤ at_ + 12) (P : Nd → Prop) (hP : P d) (hl : LI (b6 + 1) W A d.list) :
    Leafed w0 mb xs at_ nd P (.returned (.agg (ndCells d A c))) (W.setRow b4 (ndCells d A c)) := by
  have h1 := h.hm
  have h2 := h.lo
  have h3 := h.ne
  have hb : Below b4 W (W.setRow b4 (ndCells d A c)) := below_setRow (Below.refl b4 W) (Nat.le_refl _) _
  refine ⟨d, A, c, a, rfl, hP, ?_, ?_, ha, ?_⟩
  · refine (hl.of_blocks (by simp) fun k hk1 hk2 => setRow_other W b4 k _ (by omega)).lower (by omega)
  · obtain ⟨A', c', g1, g2⟩ := h.mkr
    exact ⟨A', c', (setRow_other W b4 mb _ (by omega)).trans g1, g2.keep (hb.mono (by omega))⟩
  · exact ⟨hb.os.trans h.keep.os, hb.tape.trans h.keep.tape, hb.output.trans h.keep.output, Nat.le_trans h.keep.size hb.size, fun k hk hn => (setRow_other W b4 k _ (by omega)).trans (h.keep.block k hk hn)⟩
end Go.Proofs.YtenbgpcdoljkgaaGreatDoor
