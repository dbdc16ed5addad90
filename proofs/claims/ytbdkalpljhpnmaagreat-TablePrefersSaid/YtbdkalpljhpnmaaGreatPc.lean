/- table.clonedZone and table.cloned for any zones. -/
import Derived.Test.YtbdkalpljhpnmaaGreatPb
import Derived.BigQuiet
import Derived.Deep.AppendLies
import Derived.Deep.CutBlock
import Derived.Deep.DeepCutAuto
import Derived.Deep.DrawnRows
import Derived.Deep.MidRow
import Derived.Deep.QuietTactic
import Derived.Deep.RegionHeld3
import Derived.Deep.RegionLaw
import Derived.Deep.WholeRow
import Derived.Great.BuildSlice
import Derived.Laws.BytesString
import Derived.Laws.CopyOwn
import Derived.Laws.EntriesVeiled
import Derived.Laws.MakeOwn
import Derived.Laws.ResultCell
import Derived.Laws.Rows
import Derived.Laws.Tables
import Derived.Lib.Hide
import Derived.LoopIn
import Derived.LoopNIn
import Derived.Maps.AppendAt
import Derived.Outline
import Derived.OwnWalkIn
import Derived.RangeFuncBound
import Derived.RangeFuncBox
import Derived.RangeFuncCalls
import Derived.RangeFuncLeaves
import Derived.RangeFuncNested
import Derived.Shelf.Abstract
import Derived.Shelf.Bytes.SlSmallAll
import Derived.Shelf.RegionOpen
import Derived.StillTailTactics
import Derived.Stop.BytesEq
import Derived.TacticsInMore
import Derived.WalkKit
import Derived.WalkLawsBesides
import Derived.WalkSpells
namespace Go.Proofs.YtbdkalpljhpnmaaGreat
open Go Go.RowKit

/-- Cells in a block that is not older than lo and is not g. -/
def CX (lo g : Nat) (w : World) (A : Option Addr) (cs : List Value) : Prop :=
  cs.length = 0 ∨ ∃ b off, A = some ⟨b, off, none⟩ ∧ lo ≤ b ∧ b < w.heap.size ∧ b ≠ g ∧ ∀ j u, cs[j]? = some u → w.cell? ⟨b, off + j, none⟩ = some u
theorem CX.of_blocks {lo g : Nat} {w w' : World} {A : Option Addr} {cs : List Value} (h : CX lo g w A cs) (hs : w.heap.size ≤ w'.heap.size) (hb : ∀ k, lo ≤ k → k < w.heap.size → k ≠ g → w'.heap[k]? = w.heap[k]?) : CX lo g w' A cs := by
  rcases h with h | ⟨b, off, h1, h2, h3, h4, h5⟩
  · exact .inl h
  · exact .inr ⟨b, off, h1, h2, Nat.lt_of_lt_of_le h3 hs, h4, fun j u hu => (World.cell?_of_block (a := ⟨b, off + j, none⟩) (hb b h2 h3 h4)).trans (h5 j u hu)⟩
theorem CX.off {lo g g' : Nat} {w : World} {A : Option Addr} {cs : List Value} (h : CX lo g w A cs) (hg : g' < lo) : CX lo g' w A cs := by
  rcases h with h | ⟨b, off, h1, h2, h3, _, h5⟩
  · exact .inl h
  · exact .inr ⟨b, off, h1, h2, h3, by omega, h5⟩
theorem CX.lower {lo lo' g : Nat} {w : World} {A : Option Addr} {cs : List Value} (h : CX lo g w A cs) (hl : lo' ≤ lo) : CX lo' g w A cs := by
  rcases h with h | ⟨b, off, h1, h2, h3, h4, h5⟩
  · exact .inl h
  · exact .inr ⟨b, off, h1, by omega, h3, h4, h5⟩
theorem CX.of_own {B g e size n c : Nat} {A : Option Addr} {w : World} {cs : List Value} (h : w.ownsRow B e size (.slice A n c) n cs) (hg : g < B) : CX B g w A cs := by
  rcases h.2 with ⟨hv, hn⟩ | ⟨b, cap, cur, hv, hb, hh, _⟩
  · refine .inl ?_
    rw [h.1, hn, Nat.zero_mul]
  · injection hv with h1 _ _
    subst h1
    exact .inr ⟨b, 0, rfl, hb, (Array.getElem?_eq_some_iff.1 hh).1, by omega, fun j u hu => by rw [Nat.zero_add, ← addr_add]; exact h.cells (g := b) rfl j u hu⟩
theorem CX.at {lo g : Nat} {w : World} {A : Option Addr} {cs : List Value} (h : CX lo g w A cs) : CellsAt w w.heap.size A cs := by
  rcases h with h | ⟨b, off, h1, _, h3, _, h5⟩
  · exact .inl h
  · exact .inr ⟨b, off, h1, h3, h5⟩
/-- A zone's lists in blocks that are not older than lo and are not g. -/
structure ZnX (lo g : Nat) (w : World) (s : Zs) (z : Zn) : Prop where
  months : CX lo g w s.A (z.cal.months.map I)
  rules : CX lo g w s.B (z.cal.rules.flatMap Lr.cells)
  trans : CX lo g w s.C (z.trans.flatMap Tr.cells)
  yearly : CX lo g w s.D (z.yearly.flatMap Yr.cells)
section
variable {lo lo' g g' : Nat} {w w' : World} {s : Zs} {z : Zn}
theorem ZnX.of_blocks (h : ZnX lo g w s z) (hs : w.heap.size ≤ w'.heap.size) (hb : ∀ k, lo ≤ k → k < w.heap.size → k ≠ g → w'.heap[k]? = w.heap[k]?) : ZnX lo g w' s z :=
  ⟨h.months.of_blocks hs hb, h.rules.of_blocks hs hb, h.trans.of_blocks hs hb, h.yearly.of_blocks hs hb⟩
theorem ZnX.off (h : ZnX lo g w s z) (hg : g' < lo) : ZnX lo g' w s z := ⟨h.months.off hg, h.rules.off hg, h.trans.off hg, h.yearly.off hg⟩
theorem ZnX.lower (h : ZnX lo g w s z) (hl : lo' ≤ lo) : ZnX lo' g w s z := ⟨h.months.lower hl, h.rules.lower hl, h.trans.lower hl, h.yearly.lower hl⟩
theorem ZnX.at (h : ZnX lo g w s z) : ZnAt w w.heap.size s z := ⟨h.months.at, h.rules.at, h.trans.at, h.yearly.at⟩
end
/-- How long a zone's lists are. -/
structure ZnLen (z : Zn) : Prop where
  months : z.cal.months.length ≤ 10000
  rules : z.cal.rules.length ≤ 10000
  trans : z.trans.length ≤ 10000
  yearly : z.yearly.length ≤ 10000
def zZn : Array Value := #[I 0, .slice none 0 0, I 0, .slice none 0 0, I 0, .slice none 0 0, I 0, .slice none 0 0]
/-- table.clonedZone under way. -/
structure CzS (w : World) (cs : Array Value) (W : World) : Prop where
  var : W.heap[w.heap.size]? = some (.cells cs 41 (0, 0))
  res : W.heap[w.heap.size + 1]? = some (.cells zZn 41 (0, 0))
  up : Below w.heap.size w W
section
variable {w W W' : World} {cs : Array Value}
theorem CzS.lt (h : CzS w cs W) : w.heap.size + 1 < W.heap.size := (Array.getElem?_eq_some_iff.1 h.res).1
theorem CzS.grow (h : CzS w cs W) (hb : Below W.heap.size W W') : CzS w cs W' :=
  ⟨(hb.block _ (by have := h.lt; omega)).trans h.var, (hb.block _ h.lt).trans h.res, below_trans h.up hb⟩
theorem CzS.store (h : CzS w cs W) (o : Nat) (v : Value) : CzS w (cs.setIfInBounds o v) (W.setCell ⟨w.heap.size, o, none⟩ v) :=
  ⟨heap_setCell_same W _ o _ _ _ h.var, (heap_setCell_other W _ _ v (by show w.heap.size + 1 ≠ w.heap.size; omega)).trans h.res, h.up.setCell (p := ⟨w.heap.size, o, none⟩) (Nat.le_refl _) _⟩
theorem CzS.start (w : World) (cs : Array Value) : CzS w cs ((w.alloc (.cells cs 41)).alloc (.cells zZn 41)) :=
  ⟨heap_alloc2_old w _ _, heap_alloc2_new w _ _, below_trans (below_var w _) (below_var _ _)⟩
theorem CzS.row (h : CzS w cs W) : Row W w.heap.size cs := ⟨by have := h.lt; omega, fun i => cell_of_row W _ i _ _ _ h.var⟩
end
theorem own_set {w W : World} {o : Nat} {v : Value} {lo g : Nat} {A : Option Addr} {cs : List Value} (h : CX lo g W A cs) (hlo : w.heap.size + 2 ≤ lo) : CX lo g (W.setCell ⟨w.heap.size, o, none⟩ v) A cs :=
  h.of_blocks (by simp [World.setCell]) fun k h1 _ _ => heap_setCell_other W _ k _ (by show k ≠ w.heap.size; omega)
def CzQ (w : World) (z : Zn) (e : Ending) (w' : World) : Prop := ∃ s, e = .returned (.agg (znCells z s)) ∧ ZnX w.heap.size w.heap.size w' s z ∧ Below w.heap.size w w'
theorem zn_store0 (z : Zn) (s : Zs) (A : Option Addr) (n a : Nat) (h : z.cal.months.length = n) : (znCells z s).setIfInBounds 1 (.slice A n a) = znCells z { s with A := A, a := a } := by subst h; rfl
theorem zn_store1 (z : Zn) (s : Zs) (A : Option Addr) (n a : Nat) (h : z.cal.rules.length = n) : (znCells z s).setIfInBounds 3 (.slice A n a) = znCells z { s with B := A, b := a } := by subst h; rfl
theorem zn_store2 (z : Zn) (s : Zs) (A : Option Addr) (n a : Nat) (h : z.trans.length = n) : (znCells z s).setIfInBounds 5 (.slice A n a) = znCells z { s with C := A, c := a } := by subst h; rfl
theorem zn_store3 (z : Zn) (s : Zs) (A : Option Addr) (n a : Nat) (h : z.yearly.length = n) : (znCells z s).setIfInBounds 7 (.slice A n a) = znCells z { s with D := A, d := a } := by subst h; rfl
theorem zn_get1 (z : Zn) (s : Zs) : (znCells z s)[1]? = some (.slice s.A z.cal.months.length s.a) := rfl
theorem zn_get3 (z : Zn) (s : Zs) : (znCells z s)[3]? = some (.slice s.B z.cal.rules.length s.b) := rfl
theorem zn_get5 (z : Zn) (s : Zs) : (znCells z s)[5]? = some (.slice s.C z.trans.length s.c) := rfl
theorem zn_get7 (z : Zn) (s : Zs) : (znCells z s)[7]? = some (.slice s.D z.yearly.length s.d) := rfl
attribute [local go_sem] zn_get1 zn_get3 zn_get5 zn_get7
set_option maxRecDepth 10000 in
set_option maxHeartbeats 2000000 in
theorem clonedZone_any (z : Zn) (s : Zs) (w : World) (hL : ZnLen z) (hA : ZnAt w w.heap.size s z) : Calls Tryz.prog 24 #[.agg (znCells z s)] w (CzQ w z) := by
  have HS := Lib.hid (CzS.start w (znCells z s))
  have HL := Lib.hid hL
  have HA := Lib.hid hA
  clear hL hA
  go_enter Tryz.func24, Tryz.ntmps24
  go_wp2_with (with_reducible refine g_alloc 41 ?_; refine wpList_alloc_as rfl _ rfl zZn (by kernel_rfl) ?_)
  generalize (w.alloc (.cells (znCells z s) 41)).alloc (.cells zZn 41) = W0 at HS ⊢
  have HS0 := HS
  have c0 : W0.cell? ⟨w.heap.size, 1, none⟩ = some (.slice s.A z.cal.months.length s.a) := HS0.out.row.2 1
  have f0 : ∀ i, W0.frozen? ⟨w.heap.size, i, none⟩ = false := fun i => frozen_of_row _ _ i _ _ HS0.out.var
  refine (show Calls Tryz.prog _ _ W0 _ from clI_any s.A s.a z.cal.months.length (z.cal.months.map I) W0 (HA.out.months.keep HS0.out.up |>.more HS0.out.up.size) (by rw [List.length_map]; omega) (by intro u hu; obtain ⟨q, _, rfl⟩ := List.mem_map.1 hu; rfl) HL.out.months).mono ?_
  rintro e w1 ⟨A1, a1, rfl, hown, hb⟩
  have HS1' := Lib.hid (HS0.out.grow hb)
  have hr1 : ∀ i, w1.cell? ⟨w.heap.size, i, none⟩ = _ := HS1'.out.row.2
  have hf1 : ∀ i, w1.frozen? ⟨w.heap.size, i, none⟩ = false := fun i => frozen_of_row _ _ i _ _ HS1'.out.var
  have v1 : w1.cell? ⟨w.heap.size, 1, none⟩ = some (.slice s.A z.cal.months.length s.a) := hr1 1
  have hlt1 := HS0.out.lt
  have n1 : w1.cell? ⟨w.heap.size, 3, none⟩ = some (.slice s.B z.cal.rules.length s.b) := hr1 3
  have HX1_1' : Hid (CX (w.heap.size + 2) w.heap.size (w1.setCell ⟨w.heap.size, 1, none⟩ (.slice A1 z.cal.months.length a1)) A1 (z.cal.months.map I)) := Lib.hid (own_set ((CX.of_own hown (by omega)).lower (by omega)) (Nat.le_refl _))
  have HSS : Hid (CzS w (znCells z ⟨A1, a1, s.B, s.b, s.C, s.c, s.D, s.d⟩) (w1.setCell ⟨w.heap.size, 1, none⟩ (.slice A1 z.cal.months.length a1))) := Lib.hid (HS1'.out.store 1 (.slice A1 z.cal.months.length a1))
  clear hown hb hr1 c0 f0
  go_wp2_with fail
  generalize hW1 : w1.setCell ⟨w.heap.size, 1, none⟩ (.slice A1 z.cal.months.length a1) = W1 at HSS HX1_1' ⊢
  have HS1 := HSS
  have HX1_1 := HX1_1'
  have c1 : W1.cell? ⟨w.heap.size, 3, none⟩ = some (.slice s.B z.cal.rules.length s.b) := HS1.out.row.2 3
  have f1 : ∀ i, W1.frozen? ⟨w.heap.size, i, none⟩ = false := fun i => frozen_of_row _ _ i _ _ HS1.out.var
  clear v1 n1 hf1 hlt1 HSS HS1' hW1 HX1_1'
  refine (show Calls Tryz.prog _ _ W1 _ from clL_any s.B s.b z.cal.rules.length (z.cal.rules.flatMap Lr.cells) W1 (HA.out.rules.keep HS1.out.up |>.more HS1.out.up.size) (by rw [flat_len (s := 3) Lr.cells _ fun _ _ => rfl]) (flat_ok Lr.cells _ fun x _ => lrs_one x) HL.out.rules).mono ?_
  rintro e w2 ⟨A2, a2, rfl, hown, hb⟩
  have HS2' := Lib.hid (HS1.out.grow hb)
  have hr2 : ∀ i, w2.cell? ⟨w.heap.size, i, none⟩ = _ := HS2'.out.row.2
  have hf2 : ∀ i, w2.frozen? ⟨w.heap.size, i, none⟩ = false := fun i => frozen_of_row _ _ i _ _ HS2'.out.var
  have v2 : w2.cell? ⟨w.heap.size, 3, none⟩ = some (.slice s.B z.cal.rules.length s.b) := hr2 3
  have hlt2 := HS1.out.lt
  have n2 : w2.cell? ⟨w.heap.size, 5, none⟩ = some (.slice s.C z.trans.length s.c) := hr2 5
  have HX1_2' := Lib.hid (own_set (o := 3) (v := .slice A2 z.cal.rules.length a2) (HX1_1.out.of_blocks hb.size fun k _ h2 _ => hb.block k h2) (Nat.le_refl _))
  have HX2_2' : Hid (CX (w.heap.size + 2) w.heap.size (w2.setCell ⟨w.heap.size, 3, none⟩ (.slice A2 z.cal.rules.length a2)) A2 (z.cal.rules.flatMap Lr.cells)) := Lib.hid (own_set ((CX.of_own hown (by omega)).lower (by omega)) (Nat.le_refl _))
  have HSS : Hid (CzS w (znCells z ⟨A1, a1, A2, a2, s.C, s.c, s.D, s.d⟩) (w2.setCell ⟨w.heap.size, 3, none⟩ (.slice A2 z.cal.rules.length a2))) := Lib.hid (HS2'.out.store 3 (.slice A2 z.cal.rules.length a2))
  clear hown hb hr2 c1 f1
  go_wp2_with fail
  generalize hW2 : w2.setCell ⟨w.heap.size, 3, none⟩ (.slice A2 z.cal.rules.length a2) = W2 at HSS HX1_2' HX2_2' ⊢
  have HS2 := HSS
  have HX1_2 := HX1_2'
  have HX2_2 := HX2_2'
  have c2 : W2.cell? ⟨w.heap.size, 5, none⟩ = some (.slice s.C z.trans.length s.c) := HS2.out.row.2 5
  have f2 : ∀ i, W2.frozen? ⟨w.heap.size, i, none⟩ = false := fun i => frozen_of_row _ _ i _ _ HS2.out.var
  clear v2 n2 hf2 hlt2 HSS HS2' hW2 HX1_2' HX2_2'
  refine (show Calls Tryz.prog _ _ W2 _ from clT_any s.C s.c z.trans.length (z.trans.flatMap Tr.cells) W2 (HA.out.trans.keep HS2.out.up |>.more HS2.out.up.size) (by rw [flat_len (s := 2) Tr.cells _ fun _ _ => rfl]) (flat_ok Tr.cells _ fun x _ => tr_one x) HL.out.trans).mono ?_
  rintro e w3 ⟨A3, a3, rfl, hown, hb⟩
  have HS3' := Lib.hid (HS2.out.grow hb)
  have hr3 : ∀ i, w3.cell? ⟨w.heap.size, i, none⟩ = _ := HS3'.out.row.2
  have hf3 : ∀ i, w3.frozen? ⟨w.heap.size, i, none⟩ = false := fun i => frozen_of_row _ _ i _ _ HS3'.out.var
  have v3 : w3.cell? ⟨w.heap.size, 5, none⟩ = some (.slice s.C z.trans.length s.c) := hr3 5
  have hlt3 := HS2.out.lt
  have n3 : w3.cell? ⟨w.heap.size, 7, none⟩ = some (.slice s.D z.yearly.length s.d) := hr3 7
  have HX1_3' := Lib.hid (own_set (o := 5) (v := .slice A3 z.trans.length a3) (HX1_2.out.of_blocks hb.size fun k _ h2 _ => hb.block k h2) (Nat.le_refl _))
  have HX2_3' := Lib.hid (own_set (o := 5) (v := .slice A3 z.trans.length a3) (HX2_2.out.of_blocks hb.size fun k _ h2 _ => hb.block k h2) (Nat.le_refl _))
  have HX3_3' : Hid (CX (w.heap.size + 2) w.heap.size (w3.setCell ⟨w.heap.size, 5, none⟩ (.slice A3 z.trans.length a3)) A3 (z.trans.flatMap Tr.cells)) := Lib.hid (own_set ((CX.of_own hown (by omega)).lower (by omega)) (Nat.le_refl _))
  have HSS : Hid (CzS w (znCells z ⟨A1, a1, A2, a2, A3, a3, s.D, s.d⟩) (w3.setCell ⟨w.heap.size, 5, none⟩ (.slice A3 z.trans.length a3))) := Lib.hid (HS3'.out.store 5 (.slice A3 z.trans.length a3))
  clear hown hb hr3 c2 f2
  go_wp2_with fail
  generalize hW3 : w3.setCell ⟨w.heap.size, 5, none⟩ (.slice A3 z.trans.length a3) = W3 at HSS HX1_3' HX2_3' HX3_3' ⊢
  have HS3 := HSS
  have HX1_3 := HX1_3'
  have HX2_3 := HX2_3'
  have HX3_3 := HX3_3'
  have c3 : W3.cell? ⟨w.heap.size, 7, none⟩ = some (.slice s.D z.yearly.length s.d) := HS3.out.row.2 7
  have f3 : ∀ i, W3.frozen? ⟨w.heap.size, i, none⟩ = false := fun i => frozen_of_row _ _ i _ _ HS3.out.var
  clear v3 n3 hf3 hlt3 HSS HS3' hW3 HX1_3' HX2_3' HX3_3'
  refine (show Calls Tryz.prog _ _ W3 _ from clY_any s.D s.d z.yearly.length (z.yearly.flatMap Yr.cells) W3 (HA.out.yearly.keep HS3.out.up |>.more HS3.out.up.size) (by rw [flat_len (s := 5) Yr.cells _ fun _ _ => rfl]) (flat_ok Yr.cells _ fun x _ => yr_one x) HL.out.yearly).mono ?_
  rintro e w4 ⟨A4, a4, rfl, hown, hb⟩
  have HS4' := Lib.hid (HS3.out.grow hb)
  have hr4 : ∀ i, w4.cell? ⟨w.heap.size, i, none⟩ = _ := HS4'.out.row.2
  have hf4 : ∀ i, w4.frozen? ⟨w.heap.size, i, none⟩ = false := fun i => frozen_of_row _ _ i _ _ HS4'.out.var
  have v4 : w4.cell? ⟨w.heap.size, 7, none⟩ = some (.slice s.D z.yearly.length s.d) := hr4 7
  have hlt4 := HS3.out.lt
  have HX1_4' := Lib.hid (own_set (o := 7) (v := .slice A4 z.yearly.length a4) (HX1_3.out.of_blocks hb.size fun k _ h2 _ => hb.block k h2) (Nat.le_refl _))
  have HX2_4' := Lib.hid (own_set (o := 7) (v := .slice A4 z.yearly.length a4) (HX2_3.out.of_blocks hb.size fun k _ h2 _ => hb.block k h2) (Nat.le_refl _))
  have HX3_4' := Lib.hid (own_set (o := 7) (v := .slice A4 z.yearly.length a4) (HX3_3.out.of_blocks hb.size fun k _ h2 _ => hb.block k h2) (Nat.le_refl _))
  have HX4_4' : Hid (CX (w.heap.size + 2) w.heap.size (w4.setCell ⟨w.heap.size, 7, none⟩ (.slice A4 z.yearly.length a4)) A4 (z.yearly.flatMap Yr.cells)) := Lib.hid (own_set ((CX.of_own hown (by omega)).lower (by omega)) (Nat.le_refl _))
  have HSS : Hid (CzS w (znCells z ⟨A1, a1, A2, a2, A3, a3, A4, a4⟩) (w4.setCell ⟨w.heap.size, 7, none⟩ (.slice A4 z.yearly.length a4))) := Lib.hid (HS4'.out.store 7 (.slice A4 z.yearly.length a4))
  clear hown hb hr4 c3 f3
  go_wp2_with (first
    | (with_reducible refine g_load 41 ?_; refine wpList_load_Row rfl _ _ rfl w.heap.size rfl (znCells z ⟨A1, a1, A2, a2, A3, a3, A4, a4⟩) HSS.out.row _ Tryz.underlying41 rfl (zn_size _ _) ?_)
    | (with_reducible refine g_store 41 ?_; refine wpList_store_row rfl _ _ _ rfl (w.heap.size + 1) (znCells z ⟨A1, a1, A2, a2, A3, a3, A4, a4⟩) rfl rfl 41 zZn HSS.out.res (zn_size _ _) rfl (zn_one _ _) ?_))
  refine bodyPost_ret (v := .agg (znCells z ⟨A1, a1, A2, a2, A3, a3, A4, a4⟩)) (results_cell_row rfl _ _ (w.heap.size + 1) _ (znCells z ⟨A1, a1, A2, a2, A3, a3, A4, a4⟩) (0, 0) _ rfl (setRow_heap _ _ _ _ _ _ HSS.out.res) Tryz.underlying41 rfl (zn_size _ _)) rfl ?_
  have hb : ∀ (W : World) (cs : Array Value) (k : Nat), w.heap.size + 2 ≤ k → (W.setRow (w.heap.size + 1) cs).heap[k]? = W.heap[k]? := fun W cs k hk => setRow_other _ _ k _ (by omega)
  have hX : ∀ {A : Option Addr} {cs : List Value} {W : World} {rc : Array Value}, CX (w.heap.size + 2) w.heap.size W A cs → CX w.heap.size w.heap.size (W.setRow (w.heap.size + 1) rc) A cs := fun h => (h.of_blocks (by simp [World.setRow]) fun k h1 _ _ => hb _ _ k h1).lower (by omega)
  exact ⟨⟨A1, a1, A2, a2, A3, a3, A4, a4⟩, rfl, ⟨hX HX1_4'.out, hX HX2_4'.out, hX HX3_4'.out, hX HX4_4'.out⟩, below_setRow HSS.out.up (Nat.le_succ _) _⟩
end Go.Proofs.YtbdkalpljhpnmaaGreat
