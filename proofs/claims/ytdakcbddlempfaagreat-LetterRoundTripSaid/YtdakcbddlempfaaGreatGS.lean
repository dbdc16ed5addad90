/- A struct under way beside the maker, of any type; kalendsref20.MadeMove. -/
import Derived.Test.YtdakcbddlempfaaGreatRule
namespace Go.Proofs.YtdakcbddlempfaaGreat
open Go Go.RowKit

/-- The result's variable at b4 (zero), a variable of the same type at b6. -/
structure GS (t : TypeId) (z : Array Value) (w0 : World) (mb : Nat) (xs : List Int) (a nd b4 b6 : Nat) (cs : Array Value) (W : World) : Prop where
  hm : mb < w0.heap.size
  mkr : MkSt W mb xs a nd
  keep : MKeep mb w0 W
  lo : w0.heap.size ≤ b4
  ne : b4 < b6
  res : W.heap[b4]? = some (.cells z t (0, 0))
  var : W.heap[b6]? = some (.cells cs t (0, 0))
section
variable {t : TypeId} {z : Array Value} {w0 W W' : World} {mb a a' nd nd' b4 b6 : Nat} {xs : List Int} {cs : Array Value}
theorem GS.lt (h : GS t z w0 mb xs a nd b4 b6 cs W) : b6 < W.heap.size := (Array.getElem?_eq_some_iff.1 h.var).1
theorem GS.cell (h : GS t z w0 mb xs a nd b4 b6 cs W) : ∀ i, W.cell? ⟨b6, i, none⟩ = cs[i]? := fun i => cell_of_row W b6 i _ _ _ h.var
theorem GS.froz (h : GS t z w0 mb xs a nd b4 b6 cs W) : ∀ i, W.frozen? ⟨b6, i, none⟩ = false := fun i => frozen_of_row W b6 i _ _ h.var
theorem GS.row (h : GS t z w0 mb xs a nd b4 b6 cs W) : Row W b6 cs := ⟨h.lt, h.cell⟩
theorem GS.step (h : GS t z w0 mb xs a nd b4 b6 cs W) (hm : MkSt W' mb xs a' nd') (hk : MKeep mb W W') : GS t z w0 mb xs a' nd' b4 b6 cs W' :=
  have h1 := h.hm
  have h2 := h.lo
  have h3 := h.ne
  have h4 := h.lt
  ⟨h.hm, hm, h.keep.trans hk, h.lo, h.ne, (hk.block b4 (by omega) (by omega)).trans h.res, (hk.block b6 (by omega) (by omega)).trans h.var⟩
theorem GS.pick (h : GS t z w0 mb xs a nd b4 b6 cs W) (hx : XsOK xs) (n : Int) (ha : a ≤ 1000000000) (hn : 0 < n) (hn2 : n ≤ 1000000000000000000) :
    Calls Tryz.prog 19 #[pt mb, I n] W fun e W' => ∃ r, e = .returned (I r) ∧ 0 ≤ r ∧ r < n ∧ MKeep mb W W' ∧ GS t z w0 mb xs (a + 1) nd b4 b6 cs W' :=
  (pick_any W mb xs a nd n h.mkr hx ha hn hn2).mono fun _ _ ⟨r, h1, h2, h3, h4, h5⟩ => ⟨r, h1, h2, h3, h5, h.step h4 h5⟩
theorem GS.store (h : GS t z w0 mb xs a nd b4 b6 cs W) (o : Nat) (v : Value) : GS t z w0 mb xs a nd b4 b6 (cs.setIfInBounds o v) (W.setCell ⟨b6, o, none⟩ v) := by
  have h1 := h.hm
  have h2 := h.lo
  have h3 := h.ne
  have hb : Below b6 W (W.setCell ⟨b6, o, none⟩ v) := (Below.refl b6 W).setCell (p := ⟨b6, o, none⟩) (Nat.le_refl _) _
  refine ⟨h.hm, h.mkr.far _ _ (by show mb < b6; omega), ?_, h.lo, h.ne, (hb.block b4 (by omega)).trans h.res, heap_setCell_same W b6 o _ _ _ h.var⟩
  exact ⟨hb.os.trans h.keep.os, hb.tape.trans h.keep.tape, hb.output.trans h.keep.output, Nat.le_trans h.keep.size hb.size, fun k hk hn => (hb.block k (by omega)).trans (h.keep.block k hk hn)⟩
theorem GS.start {w w1 : World} (hm : MkSt w1 mb xs a nd) (hml : mb < w.heap.size) (hk : MKeep mb (w.alloc (.cells z t)) w1) :
    GS t z w mb xs a nd w.heap.size w1.heap.size cs (w1.alloc (.cells cs t)) := by
  have hs := hk.size
  rw [World.size_alloc] at hs
  have hk0 : MKeep mb w w1 := (MKeep.of_below (below_var w (.cells z t))).trans hk
  refine ⟨hml, hm.grow (below_var w1 _), hk0.trans (MKeep.of_below (below_var w1 _)), Nat.le_refl _, by omega, ?_, heap_alloc_last w1 _⟩
  rw [Below.heap_alloc w1 _ _ (by omega), hk.block _ (by simp) (by omega), heap_alloc_last]
/-- Behind the store of the result. -/
theorem GS.fin (h : GS t z w0 mb xs a nd b4 b6 cs W) : MkSt (W.setRow b4 cs) mb xs a nd ∧ MKeep mb w0 (W.setRow b4 cs) := by
  have h1 := h.hm
  have h2 := h.lo
  have hb : Below b4 W (W.setRow b4 cs) := below_setRow (Below.refl b4 W) (Nat.le_refl _) _
  refine ⟨?_, ?_⟩
  · obtain ⟨A', c', g1, g2⟩ := h.mkr
    exact ⟨A', c', (setRow_other W b4 mb _ (by omega)).trans g1, g2.keep (hb.mono (by omega))⟩
  · exact ⟨hb.os.trans h.keep.os, hb.tape.trans h.keep.tape, hb.output.trans h.keep.output, Nat.le_trans h.keep.size hb.size, fun k hk hn => (setRow_other W b4 k _ (by omega)).trans (h.keep.block k hk hn)⟩
end
def MoveOK (day : Int) (m : Mv) : Prop := m.day = day ∧ ((m.drop = true ∧ m.toDay = 0 ∧ m.minute = 0 ∧ m.length = 0) ∨ (m.drop = false ∧ 0 ≤ m.toDay ∧ m.toDay < 60 ∧ 0 ≤ m.minute ∧ m.minute < 1440 ∧ 1 ≤ m.length ∧ m.length ≤ 300))
def Moved1 (w : World) (mb : Nat) (xs : List Int) (at_ nodes : Nat) (day : Int) (e : Ending) (w' : World) : Prop :=
  ∃ m a', e = .returned (.agg (mvCells m)) ∧ MoveOK day m ∧ MkSt w' mb xs a' nodes ∧ a' ≤ at_ + 4 ∧ MKeep mb w w'
def zMove : Array Value := #[I 0, .bool false, I 0, I 0, I 0]
theorem mv_size (m : Mv) : (Tryz.prog.info? 26).map (·.size) = some (mvCells m).size := by kernel_rfl
theorem mv_one (m : Mv) : (mvCells m).all (·.oneCell') = true := by kernel_rfl
set_option maxRecDepth 10000 in
set_option maxHeartbeats 1000000 in
theorem madeMove_any (w : World) (mb : Nat) (xs : List Int) (at_ nodes : Nat) (day : Int) (h : MkSt w mb xs at_ nodes) (hx : XsOK xs) (hat : at_ ≤ 10000000) :
    Calls Tryz.prog 54 #[pt mb, I day] w (Moved1 w mb xs at_ nodes day) := by
  have HM0 := Lib.hid (h.grow (below_var w (.cells zMove 26)))
  have hml := h.lt
  clear h
  go_enter Tryz.func54, Tryz.ntmps54
  go_wp2_with fail
  refine (pick_any _ mb xs at_ nodes 3 HM0.out hx (by omega) (by omega) (by omega)).mono ?_
  rintro e w1 ⟨r, rfl, hr1, hr2, hm1, hk1⟩
  have HM1 := Lib.hid hm1
  have HK1 := Lib.hid hk1
  clear hm1 hk1 HM0
  by_cases hr : r = 1
  · subst hr
    clear hr1 hr2
    have hres : w1.heap[w.heap.size]? = some (.cells zMove 26 (0, 0)) := (HK1.out.block _ (by simp) (by omega)).trans (heap_alloc_last w _)
    have HRES := Lib.hid hres
    clear hres
    go_wp2_with (with_reducible refine g_store 26 ?_; refine wpList_store_row rfl _ _ _ rfl w.heap.size (mvCells ⟨day, true, 0, 0, 0⟩) rfl rfl 26 zMove HRES.out (mv_size _) rfl (mv_one _) ?_)
    have hb : Below w.heap.size w1 (w1.setRow w.heap.size (mvCells ⟨day, true, 0, 0, 0⟩)) := below_setRow (Below.refl _ w1) (Nat.le_refl _) _
    have hk0 : MKeep mb w w1 := (MKeep.of_below (below_var w (.cells zMove 26))).trans HK1.out
    refine bodyPost_ret (v := .agg (mvCells ⟨day, true, 0, 0, 0⟩)) (results_cell_row rfl _ _ w.heap.size _ (mvCells ⟨day, true, 0, 0, 0⟩) (0, 0) _ rfl (setRow_heap _ _ _ _ _ _ HRES.out) Tryz.underlying26 rfl (mv_size _)) rfl ⟨⟨day, true, 0, 0, 0⟩, at_ + 1, rfl, ⟨rfl, .inl ⟨rfl, rfl, rfl, rfl⟩⟩, ?_, by omega, ?_⟩
    · obtain ⟨A', c', g1, g2⟩ := HM1.out
      exact ⟨A', c', (setRow_other w1 w.heap.size mb _ (by omega)).trans g1, g2.keep (hb.mono (by omega))⟩
    · exact ⟨hb.os.trans hk0.os, hb.tape.trans hk0.tape, hb.output.trans hk0.output, Nat.le_trans hk0.size hb.size, fun k hk hn => (setRow_other w1 w.heap.size k _ (by omega)).trans (hk0.block k hk hn)⟩
  · go_wp2_with fail
    refine (pick_any _ mb xs (at_ + 1) nodes 60 HM1.out hx (by omega) (by omega) (by omega)).mono ?_
    rintro e w2 ⟨d, rfl, hd1, hd2, hm2, hk2⟩
    have HM2 := Lib.hid hm2
    have HK2 := Lib.hid (HK1.out.trans hk2)
    clear hm2 hk2 HM1 HK1 hr hr1 hr2
    have G0 : Hid (GS 26 zMove w mb xs (at_ + 1 + 1) nodes w.heap.size w2.heap.size #[I day, .bool false, I d, I 0, I 0] (w2.alloc (.cells #[I day, .bool false, I d, I 0, I 0] 26))) := Lib.hid (GS.start HM2.out hml HK2.out)
    go_wp2_with fail
    refine (G0.out.pick hx 1440 (by omega) (by omega) (by omega)).mono ?_
    rintro e w3 ⟨m, rfl, m1, m2, _, g1⟩
    have g1c := g1.cell
    have g1f := g1.froz
    have G1 := Lib.hid (g1.store 3 (I m))
    clear g1
    go_wp2_with fail
    clear g1c g1f
    refine (G1.out.pick hx 300 (by omega) (by omega) (by omega)).mono ?_
    rintro e w4 ⟨n, rfl, n1, n2, _, g2⟩
    have g2c := g2.cell
    have g2f := g2.froz
    have G2 : Hid (GS 26 zMove w mb xs _ nodes w.heap.size w2.heap.size (mvCells ⟨day, false, d, m, 1 + n⟩) _) := Lib.hid (g2.store 4 (I (1 + n)))
    clear g2
    have HRW := Lib.hid G2.out.row
    go_wp2_with (first
      | (with_reducible refine g_load 26 ?_; refine wpList_load_Row rfl _ _ rfl w2.heap.size rfl (mvCells ⟨day, false, d, m, 1 + n⟩) HRW.out _ Tryz.underlying26 rfl (mv_size _) ?_)
      | (with_reducible refine g_store 26 ?_; refine wpList_store_row rfl _ _ _ rfl w.heap.size (mvCells ⟨day, false, d, m, 1 + n⟩) rfl rfl 26 zMove G2.out.res (mv_size _) rfl (mv_one _) ?_))
    exact bodyPost_ret (v := .agg (mvCells ⟨day, false, d, m, 1 + n⟩)) (results_cell_row rfl _ _ w.heap.size _ (mvCells ⟨day, false, d, m, 1 + n⟩) (0, 0) _ rfl (setRow_heap _ _ _ _ _ _ G2.out.res) Tryz.underlying26 rfl (mv_size _)) rfl ⟨⟨day, false, d, m, 1 + n⟩, _, rfl, ⟨rfl, .inr ⟨rfl, hd1, hd2, m1, m2, by show 1 ≤ 1 + n; omega, by show 1 + n ≤ 300; omega⟩⟩, G2.out.fin.1, by omega, G2.out.fin.2⟩
end Go.Proofs.YtdakcbddlempfaaGreat
