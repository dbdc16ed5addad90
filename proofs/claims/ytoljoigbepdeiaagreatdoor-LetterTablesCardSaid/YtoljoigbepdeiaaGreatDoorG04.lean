/- The texts TbK, TbR, TbY, TbY2, TrI, TrC, in this order. -/
import Derived.Test.YtoljoigbepdeiaaGreatDoorG03
import Derived.Test.YtoljoigbepdeiaaGreatDoorPm
import Derived.BigQuiet
import Derived.Deep.AppendLies
import Derived.Deep.CutBlock
import Derived.Deep.DeepCutAuto
import Derived.Deep.DrawnRows
import Derived.Deep.MidRow
import Derived.Deep.QuietTactic
import Derived.Deep.RegionHeld3
import Derived.Deep.RegionLaw
import Derived.Deep.WholeRow
import Derived.Great.BuildSlice
import Derived.Laws.BytesString
import Derived.Laws.CopyOwn
import Derived.Laws.EntriesVeiled
import Derived.Laws.MakeOwn
import Derived.Laws.ResultCell
import Derived.Laws.Rows
import Derived.Laws.Tables
import Derived.Lib.Hide
import Derived.LoopIn
import Derived.LoopNIn
import Derived.Maps.AppendAt
import Derived.Outline
import Derived.OwnWalkIn
import Derived.RangeFuncBound
import Derived.RangeFuncBox
import Derived.RangeFuncCalls
import Derived.RangeFuncLeaves
import Derived.RangeFuncNested
import Derived.Shelf.Abstract
import Derived.Shelf.Bytes.SlSmallAll
import Derived.Shelf.RegionOpen
import Derived.StillTailTactics
import Derived.Stop.BytesEq
import Derived.TacticsInMore
import Derived.WalkKit
import Derived.WalkLawsBesides
import Derived.WalkSpells
/- slices.Clone of a zone's lists and of zones; table.clonedZone at flat zones. -/
namespace Go.Proofs.YtoljoigbepdeiaaGreatDoor
open Go Go.RowKit

set_option maxRecDepth 10000 in
theorem cloneLeap_nil (c : Nat) (w : World) : Calls Tryz.prog 75 #[.slice none 0 c] w fun e w' => e = .returned (.slice none 0 0) ∧ w' = w := by
  have heq : ∀ W, (binOp .eql 32 (.slice none 0 c) (.slice none 0 0)).run Tryz.prog W = .ok (.bool true) W := fun W => by simp [binOp, run_equal_slice_nil W 32 163 none 0 c Tryz.underlying32]
  go_enter Tryz.func75, Tryz.ntmps75
  go_wp2
  go_ret
  exact ⟨rfl, rfl⟩
set_option maxRecDepth 10000 in
theorem cloneTrans_nil (c : Nat) (w : World) : Calls Tryz.prog 76 #[.slice none 0 c] w fun e w' => e = .returned (.slice none 0 0) ∧ w' = w := by
  have heq : ∀ W, (binOp .eql 35 (.slice none 0 c) (.slice none 0 0)).run Tryz.prog W = .ok (.bool true) W := fun W => by simp [binOp, run_equal_slice_nil W 35 166 none 0 c Tryz.underlying35]
  go_enter Tryz.func76, Tryz.ntmps76
  go_wp2
  go_ret
  exact ⟨rfl, rfl⟩
set_option maxRecDepth 10000 in
theorem cloneYear_nil (c : Nat) (w : World) : Calls Tryz.prog 77 #[.slice none 0 c] w fun e w' => e = .returned (.slice none 0 0) ∧ w' = w := by
  have heq : ∀ W, (binOp .eql 36 (.slice none 0 c) (.slice none 0 0)).run Tryz.prog W = .ok (.bool true) W := fun W => by simp [binOp, run_equal_slice_nil W 36 169 none 0 c Tryz.underlying36]
  go_enter Tryz.func77, Tryz.ntmps77
  go_wp2
  go_ret
  exact ⟨rfl, rfl⟩
set_option maxRecDepth 10000 in
theorem cloneZe_nil (c : Nat) (w : World) : Calls Tryz.prog 53 #[.slice none 0 c] w fun e w' => e = .returned (.slice none 0 0) ∧ w' = w := by
  have heq : ∀ W, (binOp .eql 28 (.slice none 0 c) (.slice none 0 0)).run Tryz.prog W = .ok (.bool true) W := fun W => by simp [binOp, run_equal_slice_nil W 28 40 none 0 c Tryz.underlying28]
  go_enter Tryz.func53, Tryz.ntmps53
  go_wp2
  go_ret
  exact ⟨rfl, rfl⟩
theorem below_grown' {w W w' : World} {base e size n : Nat} {v : Value} {ys : List Value} (hb : Below base w W) (hown : W.ownsRow base e size v n ys) (hle : base ≤ W.heap.size) (hg : W.grownBy w' v.ownBlock) : Below base w w' :=
  ⟨hg.os.trans hb.os, hg.tape.trans hb.tape, hg.output.trans hb.output, Nat.le_trans hb.size hg.size, fun k hk => (hg.block k (by omega) (own_ge hown k hk)).trans (hb.block k hk)⟩
theorem own_emptyE (w : World) (e size : Nat) : (w.alloc (.cells #[] e)).ownsRow w.heap.size e size (.slice (some ⟨w.heap.size, 0, none⟩) 0 0) 0 [] :=
  ⟨by simp, .inr ⟨w.heap.size, 0, #[], rfl, Nat.le_refl _, heap_alloc_last w _, Nat.le_refl _, Nat.zero_le _, by simp, by simp⟩⟩
def ClI (w : World) (zs : List Int) (n : Nat) (e : Ending) (w' : World) : Prop :=
  ∃ g c, e = .returned (.slice (some ⟨g, 0, none⟩) n c) ∧ w'.ownsRow w.heap.size 3 1 (.slice (some ⟨g, 0, none⟩) n c) n (zs.map I) ∧ Below w.heap.size w w'
set_option maxRecDepth 10000 in
set_option maxHeartbeats 2000000 in
theorem cloneI_some (b off c : Nat) (zs : List Int) (n : Nat) (w : World) (hA : ∀ j, j < zs.length → w.cell? ⟨b, off + j, none⟩ = some (I (zs[j]?.getD 0))) (hb : b < w.heap.size) (hl : zs.length = n) (h0 : 0 < n) (hn : n ≤ 10000) :
    Calls Tryz.prog 74 #[.slice (some ⟨b, off, none⟩) n c] w (ClI w zs n) := by
  have HN : Hid (∀ j u, (zs.map I)[j]? = some u → (w.alloc (.cells #[] 3)).cell? ((⟨b, off, none⟩ : Addr).add j) = some u) := Lib.hid fun j u hu => by
    rw [List.getElem?_map] at hu
    obtain ⟨z, hz, rfl⟩ := Option.map_eq_some_iff.1 hu
    have hj : j < zs.length := (List.getElem?_eq_some_iff.1 hz).1
    rw [Addr.add_mid, World.cell?_of_block (Below.heap_alloc w _ b hb), hA j hj, hz]; rfl
  have HO := Lib.hid (own_emptyE w 3 1)
  have HL := Lib.hid hl
  have HB := Lib.hid (below_var w (.cells #[] 3))
  obtain ⟨i0, hi, hz0, hz1, hz2⟩ := info_parts info_int
  have HI := Lib.hid hi
  have HZ0 := Lib.hid hz0
  have HZ1 := Lib.hid hz1
  have HZ2 := Lib.hid hz2
  have heq : ∀ W, (binOp .eql 31 (.slice (some ⟨b, off, none⟩) n c) (.slice none 0 0)).run Tryz.prog W = .ok (.bool false) W := fun W => by simp [binOp, run_equal_slice_nil W 31 3 (some ⟨b, off, none⟩) n c Tryz.underlying31]
  clear hA hl hi hz0 hz1 hz2
  go_enter Tryz.func74, Tryz.ntmps74
  go_wp2_with (at_builtin; refine wpList_append_own_at _ rfl _ _ 31 rfl w.heap.size 3 i0 (.int .i64 0) 1 8 Tryz.underlying31 HI.out HZ0.out HZ1.out HZ2.out rfl (by decide) _ 0 [] rfl HO.out ⟨b, off, none⟩ n c (zs.map I) rfl (by rw [List.length_map, HL.out]; omega) HN.out (by intro u hu; obtain ⟨z, _, rfl⟩ := List.mem_map.1 hu; rfl) (by unfold maxLen; omega) (by omega) (by simp) ?_)
  intro v' w' hown hg _ _
  have HB2 := Lib.hid (below_grown' HB.out HO.out (by simp) hg)
  obtain ⟨g, cap, rfl, _⟩ := own_form hown h0
  have HOW := Lib.hid hown
  clear hown hg
  go_wp2_with fail
  go_ret
  exact ⟨g, cap, rfl, HOW.out, HB2.out⟩
/-- The zones' cells, one behind the other. -/
def zecells (zs : List ZeV) : List Value := zs.flatMap fun x => x.cells.toList
theorem zecells_len (zs : List ZeV) : (zecells zs).length = zs.length * 9 := by
  induction zs with
  | nil => rfl
  | cons x zs ih => unfold zecells at ih ⊢; rw [List.flatMap_cons, List.length_append, ih, List.length_cons]; show 9 + zs.length * 9 = _; omega
theorem zecells_ok (zs : List ZeV) : ∀ u ∈ zecells zs, u.oneCell' = true := by
  intro u hu
  unfold zecells at hu
  obtain ⟨x, _, hx⟩ := List.mem_flatMap.1 hu
  have h : x.cells.all (·.oneCell') = true := by kernel_rfl
  rw [Array.all_eq_true_iff_forall_mem] at h
  exact h u (by simpa using hx)
theorem zecells_get (zs : List ZeV) (k j : Nat) (x : ZeV) (hx : zs[k]? = some x) (hj : j < 9) : (zecells zs)[k * 9 + j]? = x.cells[j]? := by
  induction zs generalizing k with
  | nil => cases hx
  | cons y zs ih =>
    unfold zecells at ih ⊢
    rw [List.flatMap_cons]
    have h9 : y.cells.toList.length = 9 := rfl
    cases k with
    | zero =>
      injection hx with hx
      subst hx
      rw [Nat.zero_mul, Nat.zero_add, List.getElem?_append_left (by omega)]
      simp
    | succ k =>
      rw [List.getElem?_append_right (by omega), h9, show (k + 1) * 9 + j - 9 = k * 9 + j by omega]
      exact ih k hx
def zZe : Array Value := #[.string ⟨#[]⟩, I 0, .slice none 0 0, I 0, .slice none 0 0, I 0, .slice none 0 0, I 0, .slice none 0 0]
theorem info_ze : (Tryz.prog.info? 40).map (fun i => (i.zero, i.size, i.bytes)) = some (some (.agg zZe), 9, 144) := by kernel_rfl
def ClZ (w : World) (zs : List ZeV) (n : Nat) (e : Ending) (w' : World) : Prop :=
  ∃ g c, e = .returned (.slice (some ⟨g, 0, none⟩) n c) ∧ w'.ownsRow w.heap.size 40 9 (.slice (some ⟨g, 0, none⟩) n c) n (zecells zs) ∧ Below w.heap.size w w'
set_option maxRecDepth 10000 in
set_option maxHeartbeats 2000000 in
theorem cloneZe_some (b c : Nat) (zs : List ZeV) (n : Nat) (w : World) (hA : ∀ j u, (zecells zs)[j]? = some u → w.cell? ⟨b, j, none⟩ = some u) (hb : b < w.heap.size) (hl : zs.length = n) (h0 : 0 < n) (hn : n ≤ 10000) :
    Calls Tryz.prog 53 #[.slice (some ⟨b, 0, none⟩) n c] w (ClZ w zs n) := by
  have HN : Hid (∀ j u, (zecells zs)[j]? = some u → (w.alloc (.cells #[] 40)).cell? ((⟨b, 0, none⟩ : Addr).add j) = some u) := Lib.hid fun j u hu => by
    rw [addr_add, World.cell?_of_block (Below.heap_alloc w _ b hb)]; exact hA j u hu
  have HO := Lib.hid (own_emptyE w 40 9)
  have HL := Lib.hid (show (zecells zs).length = n * 9 by rw [zecells_len, hl])
  have HB := Lib.hid (below_var w (.cells #[] 40))
  obtain ⟨i0, hi, hz0, hz1, hz2⟩ := info_parts info_ze
  have HI := Lib.hid hi
  have HZ0 := Lib.hid hz0
  have HZ1 := Lib.hid hz1
  have HZ2 := Lib.hid hz2
  have heq : ∀ W, (binOp .eql 28 (.slice (some ⟨b, 0, none⟩) n c) (.slice none 0 0)).run Tryz.prog W = .ok (.bool false) W := fun W => by simp [binOp, run_equal_slice_nil W 28 40 (some ⟨b, 0, none⟩) n c Tryz.underlying28]
  clear hA hl hi hz0 hz1 hz2
  go_enter Tryz.func53, Tryz.ntmps53
  go_wp2_with (at_builtin; refine wpList_append_own_at _ rfl _ _ 28 rfl w.heap.size 40 i0 (.agg zZe) 9 144 Tryz.underlying28 HI.out HZ0.out HZ1.out HZ2.out rfl (by decide) _ 0 [] rfl HO.out ⟨b, 0, none⟩ n c (zecells zs) rfl HL.out HN.out (zecells_ok zs) (by unfold maxLen; omega) (by omega) (by simp) ?_)
  intro v' w' hown hg _ _
  have HB2 := Lib.hid (below_grown' HB.out HO.out (by simp) hg)
  obtain ⟨g, cap, rfl, _⟩ := own_form hown h0
  have HOW := Lib.hid hown
  clear hown hg
  go_wp2_with fail
  go_ret
  exact ⟨g, cap, rfl, HOW.out, HB2.out⟩
/-- A zone whose other lists are nil. -/
structure ZsNil (s : Zs) : Prop where
  B : s.B = none ∧ s.b = 0
  C : s.C = none ∧ s.c = 0
  D : s.D = none ∧ s.d = 0
def CzP (w : World) (z : Zn) (e : Ending) (w' : World) : Prop :=
  ∃ g c, e = .returned (.agg (znCells z ⟨some ⟨g, 0, none⟩, c, none, 0, none, 0, none, 0⟩)) ∧ w'.ownsRow w.heap.size 3 1 (.slice (some ⟨g, 0, none⟩) z.cal.months.length c) z.cal.months.length (z.cal.months.map I) ∧ Below w.heap.size w w'
set_option maxRecDepth 10000 in
set_option maxHeartbeats 400000 in
theorem clonedZone_flat (z : Zn) (s : Zs) (w : World) (h : ZnFlat z) (hs : ZsNil s) (hA : IntsAt w w.heap.size s.A z.cal.months) : Calls Tryz.prog 54 #[.agg (znCells z s)] w (CzP w z) := by
  obtain ⟨n, hn⟩ : ∃ n, z.cal.months.length = n := ⟨_, rfl⟩
  have hn0 : 0 < n := by have := h.cal.mo.1; omega
  have hn1 : n ≤ 16 := by have := h.cal.mo.2; omega
  obtain ⟨b, off, hb0, hb, hc⟩ : ∃ b off, s.A = some ⟨b, off, none⟩ ∧ b < w.heap.size ∧ ∀ j, j < z.cal.months.length → w.cell? ⟨b, off + j, none⟩ = some (I (z.cal.months[j]?.getD 0)) := by
    rcases hA with h1 | h1
    · omega
    · exact h1
  have e0 : znCells z s = #[I z.cal.epoch, .slice (some ⟨b, off, none⟩) n s.a, I z.cal.leap, .slice none 0 0, I z.start, .slice none 0 0, I z.hor, .slice none 0 0] := by
    unfold znCells
    rw [hb0, hn, hs.B.1, hs.B.2, hs.C.1, hs.C.2, hs.D.1, hs.D.2, h.cal.ru, h.trans, h.yearly]; rfl
  have HCL : Hid (∀ w', Below w.heap.size w w' → Calls Tryz.prog 74 #[.slice (some ⟨b, off, none⟩) n s.a] w' (ClI w' z.cal.months n)) := Lib.hid fun w' hb2 =>
    cloneI_some b off s.a z.cal.months n w' (fun j hj => (hb2.cell (p := ⟨b, off + j, none⟩) hb).trans (hc j hj)) (by have := hb2.size; omega) hn hn0 (by omega)
  have HFL : Hid (z.cal.rules = [] ∧ z.trans = [] ∧ z.yearly = []) := Lib.hid ⟨h.cal.ru, h.trans, h.yearly⟩
  have HN := Lib.hid hn
  rw [e0]
  clear h hs hA hb0 hc e0 hn
  have HA0 := Lib.hid (below_trans (below_var w (.cells #[I z.cal.epoch, .slice (some ⟨b, off, none⟩) n s.a, I z.cal.leap, .slice none 0 0, I z.start, .slice none 0 0, I z.hor, .slice none 0 0] 38)) (below_var _ (.cells #[I 0, .slice none 0 0, I 0, .slice none 0 0, I 0, .slice none 0 0, I 0, .slice none 0 0] 38)))
  have HR0 := Lib.hid (heap_alloc2_old w (.cells #[I z.cal.epoch, .slice (some ⟨b, off, none⟩) n s.a, I z.cal.leap, .slice none 0 0, I z.start, .slice none 0 0, I z.hor, .slice none 0 0] 38) (.cells #[I 0, .slice none 0 0, I 0, .slice none 0 0, I 0, .slice none 0 0, I 0, .slice none 0 0] 38))
  have HR1 := Lib.hid (heap_alloc2_new w (.cells #[I z.cal.epoch, .slice (some ⟨b, off, none⟩) n s.a, I z.cal.leap, .slice none 0 0, I z.start, .slice none 0 0, I z.hor, .slice none 0 0] 38) (.cells #[I 0, .slice none 0 0, I 0, .slice none 0 0, I 0, .slice none 0 0, I 0, .slice none 0 0] 38))
  go_enter Tryz.func54, Tryz.ntmps54
  go_wp2_with fail
  refine (HCL.out _ HA0.out).mono ?_
  rintro e w1 ⟨g, c, rfl, hown, hb1⟩
  have hsz : ((w.alloc (.cells #[I z.cal.epoch, .slice (some ⟨b, off, none⟩) n s.a, I z.cal.leap, .slice none 0 0, I z.start, .slice none 0 0, I z.hor, .slice none 0 0] 38)).alloc (.cells #[I 0, .slice none 0 0, I 0, .slice none 0 0, I 0, .slice none 0 0, I 0, .slice none 0 0] 38)).heap.size = w.heap.size + 2 := by simp
  rw [hsz] at hb1 hown
  have hr1 : w1.heap[w.heap.size]? = some (.cells #[I z.cal.epoch, .slice (some ⟨b, off, none⟩) n s.a, I z.cal.leap, .slice none 0 0, I z.start, .slice none 0 0, I z.hor, .slice none 0 0] 38 (0, 0)) := (hb1.block _ (by omega)).trans HR0.out
  have hr2 : w1.heap[w.heap.size + 1]? = some (.cells #[I 0, .slice none 0 0, I 0, .slice none 0 0, I 0, .slice none 0 0, I 0, .slice none 0 0] 38 (0, 0)) := (hb1.block _ (by omega)).trans HR1.out
  have hg : w.heap.size + 2 ≤ g := by
    rcases hown.2 with ⟨h, _⟩ | ⟨g', c', cur, h, hg, _⟩
    · cases h
    · injection h with h _ _; injection h with h; injection h with h; omega
  have k1 : ∀ i, w1.cell? ⟨w.heap.size, i, none⟩ = (#[I z.cal.epoch, .slice (some ⟨b, off, none⟩) n s.a, I z.cal.leap, .slice none 0 0, I z.start, .slice none 0 0, I z.hor, .slice none 0 0] : Array Value)[i]? := fun i => cell_of_row w1 _ i _ _ _ hr1
  have f1 : ∀ i, w1.frozen? ⟨w.heap.size, i, none⟩ = false := fun i => frozen_of_row w1 _ i _ _ hr1
  have hW2 : (w1.setCell ⟨w.heap.size, 1, none⟩ (.slice (some ⟨g, 0, none⟩) n c)).heap[w.heap.size]? = some (.cells #[I z.cal.epoch, .slice (some ⟨g, 0, none⟩) n c, I z.cal.leap, .slice none 0 0, I z.start, .slice none 0 0, I z.hor, .slice none 0 0] 38 (0, 0)) := by
    rw [heap_setCell_same w1 _ 1 _ _ _ hr1]; rfl
  have k2 : ∀ i, (w1.setCell ⟨w.heap.size, 1, none⟩ (.slice (some ⟨g, 0, none⟩) n c)).cell? ⟨w.heap.size, i, none⟩ = (#[I z.cal.epoch, .slice (some ⟨g, 0, none⟩) n c, I z.cal.leap, .slice none 0 0, I z.start, .slice none 0 0, I z.hor, .slice none 0 0] : Array Value)[i]? := fun i => cell_of_row _ _ i _ _ _ hW2
  have s3 : (w1.setCell ⟨w.heap.size, 1, none⟩ (.slice (some ⟨g, 0, none⟩) n c)).setCell ⟨w.heap.size, 3, none⟩ (.slice none 0 0) = (w1.setCell ⟨w.heap.size, 1, none⟩ (.slice (some ⟨g, 0, none⟩) n c)) := setCell_same (v := .slice none 0 0) (k2 3)
  have s5 : (w1.setCell ⟨w.heap.size, 1, none⟩ (.slice (some ⟨g, 0, none⟩) n c)).setCell ⟨w.heap.size, 5, none⟩ (.slice none 0 0) = (w1.setCell ⟨w.heap.size, 1, none⟩ (.slice (some ⟨g, 0, none⟩) n c)) := setCell_same (v := .slice none 0 0) (k2 5)
  have s7 : (w1.setCell ⟨w.heap.size, 1, none⟩ (.slice (some ⟨g, 0, none⟩) n c)).setCell ⟨w.heap.size, 7, none⟩ (.slice none 0 0) = (w1.setCell ⟨w.heap.size, 1, none⟩ (.slice (some ⟨g, 0, none⟩) n c)) := setCell_same (v := .slice none 0 0) (k2 7)
  have HX2 : Hid (Row (w1.setCell ⟨w.heap.size, 1, none⟩ (.slice (some ⟨g, 0, none⟩) n c)) w.heap.size #[I z.cal.epoch, .slice (some ⟨g, 0, none⟩) n c, I z.cal.leap, .slice none 0 0, I z.start, .slice none 0 0, I z.hor, .slice none 0 0]) := Lib.hid ⟨(Array.getElem?_eq_some_iff.1 hW2).1, k2⟩
  have HY2 : Hid ((w1.setCell ⟨w.heap.size, 1, none⟩ (.slice (some ⟨g, 0, none⟩) n c)).heap[w.heap.size + 1]? = some (.cells #[I 0, .slice none 0 0, I 0, .slice none 0 0, I 0, .slice none 0 0, I 0, .slice none 0 0] 38 (0, 0))) := Lib.hid ((heap_setCell_other w1 _ _ _ (by show w.heap.size + 1 ≠ w.heap.size; omega)).trans hr2)
  have hb2 : Below (w.heap.size + 2) w1 w1 := Below.refl _ _
  have HB2 : Hid (Below w.heap.size w (w1.setCell ⟨w.heap.size, 1, none⟩ (.slice (some ⟨g, 0, none⟩) n c))) := Lib.hid ((HA0.out.trans (hb1.mono (by omega))).setCell (p := ⟨w.heap.size, 1, none⟩) (Nat.le_refl _) _)
  have HOW := Lib.hid (ownsRow_far (u := .slice (some ⟨g, 0, none⟩) n c) (p := ⟨w.heap.size, 1, none⟩) hown (by intro h; injection h with h; simp only at h; omega))
  have HG := Lib.hid hg
  clear hsz hb1 hown hr1 hr2 hg hW2 hb2 HR0 HR1 HCL HA0 k2
  go_wp2_with (first
    | (go_at_call 75; refine (cloneLeap_nil _ _).mono ?_; rintro e w2 ⟨rfl, rfl⟩)
    | (go_at_call 76; refine (cloneTrans_nil _ _).mono ?_; rintro e w2 ⟨rfl, rfl⟩)
    | (go_at_call 77; refine (cloneYear_nil _ _).mono ?_; rintro e w2 ⟨rfl, rfl⟩)
    | (with_reducible refine g_load 38 ?_; refine wpList_load_Row rfl _ _ rfl w.heap.size rfl #[I z.cal.epoch, .slice (some ⟨g, 0, none⟩) n c, I z.cal.leap, .slice none 0 0, I z.start, .slice none 0 0, I z.hor, .slice none 0 0] HX2.out _ Tryz.underlying38 rfl (by kernel_rfl) ?_)
    | (with_reducible refine g_store 38 ?_; refine wpList_store_row rfl _ _ _ rfl (w.heap.size + 1) #[I z.cal.epoch, .slice (some ⟨g, 0, none⟩) n c, I z.cal.leap, .slice none 0 0, I z.start, .slice none 0 0, I z.hor, .slice none 0 0] rfl rfl 38 #[I 0, .slice none 0 0, I 0, .slice none 0 0, I 0, .slice none 0 0, I 0, .slice none 0 0] HY2.out (by kernel_rfl) rfl (by kernel_rfl) ?_))
  refine bodyPost_ret (v := .agg #[I z.cal.epoch, .slice (some ⟨g, 0, none⟩) n c, I z.cal.leap, .slice none 0 0, I z.start, .slice none 0 0, I z.hor, .slice none 0 0]) (results_cell_row rfl _ _ (w.heap.size + 1) _ #[I z.cal.epoch, .slice (some ⟨g, 0, none⟩) n c, I z.cal.leap, .slice none 0 0, I z.start, .slice none 0 0, I z.hor, .slice none 0 0] (0, 0) _ rfl (setRow_heap _ _ _ _ _ _ HY2.out) Tryz.underlying38 rfl (by kernel_rfl)) rfl ?_
  refine ⟨g, c, ?_, ?_, below_setRow HB2.out (Nat.le_succ _) _⟩
  · unfold znCells
    rw [HN.out, HFL.out.1, HFL.out.2.1, HFL.out.2.2]; rfl
  · rw [HN.out]
    exact ownsRow_base' (ownsRow_blocks HOW.out fun k h1 _ => setRow_other _ _ k _ (by omega)) (by omega)
end Go.Proofs.YtoljoigbepdeiaaGreatDoor

/- Rows of one's own in which cells are stored in place; the cells of zones. -/
namespace Go.Proofs.YtoljoigbepdeiaaGreatDoor
open Go Go.RowKit

theorem own_inv {W : World} {lo e size g n m cap : Nat} {xs : List Value} (h : W.ownsRow lo e size (.slice (some ⟨g, 0, none⟩) n cap) m xs) :
    ∃ cur, W.heap[g]? = some (.cells cur e (0, 0)) ∧ lo ≤ g ∧ m ≤ cap ∧ cap ≤ maxLen ∧ cur.size = cap * size ∧ cur.toList.take (m * size) = xs ∧ xs.length = m * size ∧ n = m := by
  obtain ⟨h0, ⟨h1, _⟩ | ⟨g', cap', cur, h1, h2, h3, h4, h5, h6, h7⟩⟩ := h
  · cases h1
  · injection h1 with e1 e2 e3
    injection e1 with e1
    injection e1 with e1
    subst e1 e2 e3
    exact ⟨cur, h3, h2, h4, h5, h6, h7, h0, rfl⟩
theorem own_mk {W : World} {lo e size g n cap : Nat} {xs : List Value} {cur : Array Value} (h1 : W.heap[g]? = some (.cells cur e (0, 0))) (h2 : lo ≤ g) (h3 : n ≤ cap) (h4 : cap ≤ maxLen) (h5 : cur.size = cap * size) (h6 : cur.toList.take (n * size) = xs) (h7 : xs.length = n * size) : W.ownsRow lo e size (.slice (some ⟨g, 0, none⟩) n cap) n xs :=
  ⟨h7, .inr ⟨g, cap, cur, rfl, h2, h1, h3, h4, h5, h6⟩⟩
theorem own_cell {W : World} {lo e size g n m cap : Nat} {xs : List Value} (h : W.ownsRow lo e size (.slice (some ⟨g, 0, none⟩) n cap) m xs) (j : Nat) (u : Value) (hu : xs[j]? = some u) : W.cell? ⟨g, j, none⟩ = some u := by
  obtain ⟨cur, h1, h2, h3, h4, h5, h6, h7, _⟩ := own_inv h
  rw [cell_of_row W g j _ _ _ h1]
  rw [← h6] at hu
  rw [List.getElem?_take] at hu
  split at hu
  · simpa using hu
  · cases hu
theorem own_free {W : World} {lo e size g n m cap : Nat} {xs : List Value} (h : W.ownsRow lo e size (.slice (some ⟨g, 0, none⟩) n cap) m xs) (j : Nat) : W.frozen? ⟨g, j, none⟩ = false := by
  obtain ⟨cur, h1, _⟩ := own_inv h
  exact frozen_of_row W g j _ _ h1
theorem own_low {W : World} {lo e size g n m cap : Nat} {xs : List Value} (h : W.ownsRow lo e size (.slice (some ⟨g, 0, none⟩) n cap) m xs) : lo ≤ g ∧ g < W.heap.size := by
  obtain ⟨cur, h1, h2, _⟩ := own_inv h
  exact ⟨h2, (Array.getElem?_eq_some_iff.1 h1).1⟩
/-- One cell stored in place. -/
theorem own_put {W : World} {lo e size g n m cap : Nat} {xs : List Value} (h : W.ownsRow lo e size (.slice (some ⟨g, 0, none⟩) n cap) m xs) (o : Nat) (v : Value) : (W.setCell ⟨g, o, none⟩ v).ownsRow lo e size (.slice (some ⟨g, 0, none⟩) n cap) m (xs.set o v) := by
  obtain ⟨cur, h1, h2, h3, h4, h5, h6, h7, rfl⟩ := own_inv h
  refine own_mk (heap_setCell_same W g o cur e v h1) h2 h3 h4 (by rw [Array.size_setIfInBounds]; exact h5) ?_ (by rw [List.length_set]; exact h7)
  rw [Array.toList_setIfInBounds, List.take_set, h6]
def putL (xs : List Value) (o : Nat) : List Value → List Value
  | [] => xs
  | v :: r => putL (xs.set o v) (o + 1) r
theorem own_puts {lo e size g n m cap : Nat} : ∀ (vs : List Value) (o : Nat) (xs : List Value) (W : World), W.ownsRow lo e size (.slice (some ⟨g, 0, none⟩) n cap) m xs → (W.setCells g o vs).ownsRow lo e size (.slice (some ⟨g, 0, none⟩) n cap) m (putL xs o vs)
  | [], _, _, _, h => h
  | v :: r, o, xs, _, h => own_puts r (o + 1) (xs.set o v) _ (own_put h o v)
theorem set_mid (ls bs cs : List Value) (j : Nat) (v : Value) (hj : j < bs.length) : (ls ++ (bs ++ cs)).set (ls.length + j) v = ls ++ (bs.set j v ++ cs) := by
  rw [List.set_append_right _ _ (by omega), List.set_append_left _ _ (by omega)]
  simp
theorem putL_length (vs : List Value) : ∀ (o : Nat) (xs : List Value), (putL xs o vs).length = xs.length := by
  induction vs with
  | nil => exact fun _ _ => rfl
  | cons v r ih => intro o xs; show (putL (xs.set o v) (o + 1) r).length = _; rw [ih, List.length_set]
theorem putL_mid (ls cs : List Value) : ∀ (vs bs : List Value) (j : Nat), j + vs.length ≤ bs.length → putL (ls ++ (bs ++ cs)) (ls.length + j) vs = ls ++ (putL bs j vs ++ cs)
  | [], _, _, _ => rfl
  | v :: r, bs, j, h => by
    rw [List.length_cons] at h
    show putL ((ls ++ (bs ++ cs)).set (ls.length + j) v) (ls.length + j + 1) r = _
    rw [set_mid ls bs cs j v (by omega), Nat.add_assoc]
    exact putL_mid ls cs r (bs.set j v) (j + 1) (by rw [List.length_set]; omega)
theorem sc_other : ∀ (vs : List Value) (w : World) (b o k : Nat), k ≠ b → (w.setCells b o vs).heap[k]? = w.heap[k]?
  | [], _, _, _, _, _ => rfl
  | v :: r, w, b, o, k, h => (sc_other r _ b (o + 1) k h).trans (heap_setCell_other w _ k v h)
theorem sc_size : ∀ (vs : List Value) (w : World) (b o : Nat), (w.setCells b o vs).heap.size = w.heap.size
  | [], _, _, _ => rfl
  | v :: r, w, b, o => (sc_size r _ b (o + 1)).trans (by simp [World.setCell])
theorem sc_below {B : Nat} {w0 : World} : ∀ (vs : List Value) (w : World) (b o : Nat), Below B w0 w → B ≤ b → Below B w0 (w.setCells b o vs)
  | [], _, _, _, h, _ => h
  | v :: r, _, b, o, h, hb => sc_below r _ b (o + 1) (h.setCell (p := ⟨b, o, none⟩) hb v) hb
theorem zecells_app (xs ys : List ZeV) : zecells (xs ++ ys) = zecells xs ++ zecells ys := by simp [zecells]
theorem zecells_mid (ys : List ZeV) (x : ZeV) (rest : List ZeV) : zecells (ys ++ x :: rest) = zecells ys ++ (x.cells.toList ++ zecells rest) := by simp [zecells]
/-- A zone stored behind a name. -/
theorem zecells_zone (ys : List ZeV) (x : ZeV) (rest : List ZeV) (s : Zs) : putL (zecells (ys ++ x :: rest)) (ys.length * 9 + 1) (znCells x.e.z s).toList = zecells (ys ++ ⟨x.e, s⟩ :: rest) := by
  rw [zecells_mid, zecells_mid, ← zecells_len, putL_mid _ _ _ _ _ (by show 1 + 8 ≤ 9; omega)]
  rfl
/-- Zones in a row of one's own, their months as well. -/
structure ZsOwn (lo : Nat) (w : World) (v : Value) (zs : List ZeV) : Prop where
  row : w.ownsRow lo 40 9 v zs.length (zecells zs)
  months : ∀ x ∈ zs, LI lo w x.s.A x.e.z.cal.months
  nils : ∀ x ∈ zs, ZsNil x.s
  nil : zs.length = 0 → v = .slice none 0 0
theorem ZsOwn.of_blocks {lo : Nat} {w w' : World} {v : Value} {zs : List ZeV} (h : ZsOwn lo w v zs) (hs : w.heap.size ≤ w'.heap.size) (hb : ∀ k, lo ≤ k → k < w.heap.size → w'.heap[k]? = w.heap[k]?) : ZsOwn lo w' v zs :=
  ⟨ownsRow_blocks h.row hb, fun x hx => (h.months x hx).of_blocks hs hb, h.nils, h.nil⟩
theorem ZsOwn.below {lo : Nat} {w w' : World} {v : Value} {zs : List ZeV} (h : ZsOwn lo w v zs) (hb : Below w.heap.size w w') : ZsOwn lo w' v zs := h.of_blocks hb.size fun k _ hk => hb.block k hk
theorem ZsOwn.lower {lo lo' : Nat} {w : World} {v : Value} {zs : List ZeV} (h : ZsOwn lo w v zs) (hl : lo' ≤ lo) : ZsOwn lo' w v zs :=
  ⟨ownsRow_base' h.row hl, fun x hx => (h.months x hx).lower hl, h.nils, h.nil⟩
theorem ZsOwn.form {lo : Nat} {w : World} {v : Value} {zs : List ZeV} (h : ZsOwn lo w v zs) : (zs = [] ∧ v = .slice none 0 0) ∨ (0 < zs.length ∧ ∃ g c, v = .slice (some ⟨g, 0, none⟩) zs.length c ∧ lo ≤ g ∧ g < w.heap.size) := by
  by_cases h0 : zs.length = 0
  · exact .inl ⟨List.eq_nil_of_length_eq_zero h0, h.nil h0⟩
  · obtain ⟨g, c, h1, h2⟩ := own_form h.row (by omega)
    refine .inr ⟨by omega, g, c, h1, ?_, h2⟩
    have hr := h.row
    rw [h1] at hr
    exact (own_low hr).1
theorem ZsOwn.zes {lo : Nat} {w : World} {A : Option Addr} {n c : Nat} {zs : List ZeV} (h : ZsOwn lo w (.slice A n c) zs) : ZesAt w w.heap.size A zs := by
  rcases h.form with ⟨h1, _⟩ | ⟨_, g, c', h1, h2, h3⟩
  · exact .inl (by rw [h1]; rfl)
  · injection h1 with e1 e2 e3
    subst e1
    have hr := h.row
    refine .inr ⟨g, rfl, h3, fun k x hx => ⟨fun j u hu => ?_, (h.months x (List.mem_of_getElem? hx)).ints⟩⟩
    have hj : j < 9 := (List.getElem?_eq_some_iff.1 hu).1
    exact own_cell hr _ u (by rw [zecells_get zs k j x hx hj]; simpa using hu)
end Go.Proofs.YtoljoigbepdeiaaGreatDoor

/- table.calendar with the writer. -/
namespace Go.Proofs.YtoljoigbepdeiaaGreatDoor
open Go Go.RowKit

attribute [local go_sem] m_w_number n_w_number m_w_offset n_w_offset m_w_text n_w_text m_w_digest n_w_digest m_w_length n_w_length
theorem TWSt.drew {w : World} {g : Nat} {v : Value} {bs : List UInt8} (h : TWSt w g v bs) : TWSt w.drew g v bs := ⟨h.1, h.2.drew⟩
theorem wkeep_drew {g : Nat} {v v' : Value} {w w' : World} (h : WKeep g v w.drew v' w') : WKeep g v w v' w' := ⟨h.os, h.tape, h.output, h.size, h.block, h.own⟩
theorem tw_below {w w' : World} {g : Nat} {v v' : Value} {bs : List UInt8} (h : TWSt w g v bs) (hk : WKeep g v w v' w') : Below g w w' :=
  ⟨hk.os, hk.tape, hk.output, hk.size, fun k hb => hk.block k (by have := h.lt; omega) (by omega) (own_ge h.2 k (by omega))⟩
set_option maxRecDepth 10000 in
set_option maxHeartbeats 1000000 in
theorem wmonth_any (w : World) (g : Nat) (p : Addr) (v : Value) (bs : List UInt8) (n : Int) (hf : fits n) (hl : bs.length ≤ 1000000000) (hst : TWSt w g v bs) (hp : w.cell? p = some (I n)) :
    Calls Tryz.prog 112 #[.iface 76 (pt g), .pointer (some p)] w (TwPost w g v (bs ++ le n 1)) := by
  have HC := Lib.hid (tnumber_any w g p v bs n 1 hf.1 hf.2 (by omega) (by omega) hst.lt hst hp)
  clear hst hp
  go_enter Tryz.func112, Tryz.ntmps112
  go_wp2_with fail
  refine HC.out.mono ?_
  rintro e w1 ⟨rfl, h⟩
  have H := Lib.hid h
  clear h HC
  go_wp2_with fail
  go_end0
  exact ⟨rfl, H.out⟩
def WlRel (w : World) (g : Nat) (v : Value) (bs : List UInt8) (n : Nat) (zs : List Int) (i : Value) (wr : World) : Prop :=
  ∃ k : Nat, k ≤ n ∧ i = .int .i64 k ∧ ∃ v', TWSt wr g v' (bs ++ (le n 1 ++ cellBytes (zs.take k))) ∧ WKeep g v w v' wr
set_option maxRecDepth 10000 in
set_option maxHeartbeats 2000000 in
theorem wlistInt_any (w : World) (g lb lo : Nat) (A : Option Addr) (n c : Nat) (zs : List Int) (v : Value) (bs : List UInt8) (hn : zs.length = n) (hn2 : n ≤ 100000) (hp : w.cell? ⟨lb, lo, none⟩ = some (.slice A n c)) (hlg : lb < g) (hA : IntsAt w g A zs) (hfit : ∀ z ∈ zs, fits z)
    (hl : bs.length ≤ 100000000) (hst : TWSt w g v bs) :
    Calls Tryz.prog 111 #[.iface 76 (pt g), .pointer (some ⟨lb, lo, none⟩), I 1, .func (.func 112) #[] #[]] w (TwPost w g v (bs ++ (le n 1 ++ cellBytes zs))) := by
  have HC := Lib.hid (tlength_any w.drew g v bs n 1 (by omega) (by omega) (by omega) (by omega) hst.drew)
  have HST := Lib.hid hst
  have HN := Lib.hid hn
  have HF := Lib.hid hfit
  have HA := Lib.hid hA
  have HP := Lib.hid hp
  have hgl := hst.lt
  clear hst hn hfit hA
  go_enter Tryz.func111, Tryz.ntmps111
  go_wp2_with fail
  go_still_tail 9, (by kernel_rfl)
  go_wp2_with fail
  refine HC.out.mono ?_
  rintro e w1 ⟨rfl, v1, hs1, hk1⟩
  have HS1 := Lib.hid hs1
  have HK1 := Lib.hid (wkeep_drew hk1)
  clear hs1 hk1 HC hp
  go_wp2_with fail
  go_loopw [22] (fun i wr => WlRel w g v bs n zs i wr) (fun i _ => n - (intOf i).toNat)
  case atStart => exact ⟨0, Nat.zero_le _, rfl, v1, by simpa [cellBytes] using HS1.out, HK1.out⟩
  case round =>
    obtain ⟨k, hk, rfl, v2, hs2, hk2⟩ := hrel
    have hb2 := tw_below HST.out hk2
    have HB2 := Lib.hid hb2
    have HS2 := Lib.hid hs2
    have HK2 := Lib.hid hk2
    have hp2 : wr.cell? ⟨lb, lo, none⟩ = some (.slice A n c) := (hb2.cell (p := ⟨lb, lo, none⟩) hlg).trans HP.out
    clear hs2 hk2 hb2 HS1 HK1
    by_cases hlt : k < n
    · have hkz : k < zs.length := by rw [HN.out]; exact hlt
      obtain ⟨b, off, rfl, hbg, hc0⟩ : ∃ b off, A = some ⟨b, off, none⟩ ∧ b < g ∧ ∀ j, j < zs.length → w.cell? ⟨b, off + j, none⟩ = some (I (zs[j]?.getD 0)) := by
        rcases HA.out with h | h
        · omega
        · exact h
      obtain ⟨z, hz⟩ : ∃ z, zs[k]? = some z := ⟨_, List.getElem?_eq_getElem hkz⟩
      have hcz : wr.cell? ⟨b, off + k, none⟩ = some (I z) := (HB2.out.cell (p := ⟨b, off + k, none⟩) hbg).trans (by rw [hc0 k hkz, hz]; rfl)
      have hlen : (bs ++ (le (n : Int) 1 ++ cellBytes (zs.take k))).length ≤ 1000000000 := by
        rw [List.length_append, List.length_append, le_length, cellBytes_length, List.length_take]; omega
      have HM := Lib.hid (wmonth_any wr g ⟨b, off + k, none⟩ v2 _ z (HF.out z (List.mem_of_getElem? hz)) hlen HS2.out hcz)
      have HZ := Lib.hid hz
      have i0 : (0 : Int) ≤ (k : Int) := by omega
      have i1 : (k : Int) < (n : Int) := by omega
      have i2 : ((k : Int) == (n : Int)) = false := by simp; omega
      clear hkz hc0 hz hlen hcz
      go_wp2_with fail
      refine HM.out.mono ?_
      rintro e w3 ⟨rfl, v3, hs3, hk3⟩
      have HS3 := Lib.hid hs3
      have HK3 := Lib.hid (HK2.out.trans hk3)
      clear hs3 hk3 hp2
      go_wp2_with fail
      go_roundw
      case rel => exact ⟨k + 1, by omega, by go_num, v3, by rw [take_next zs k z HZ.out, cellBytes_snoc, ← List.append_assoc (le _ _), ← List.append_assoc]; exact HS3.out, HK3.out⟩
      case measure => simp [intOf]; omega
    · have hkn : k = n := by omega
      have HKN := Lib.hid hkn
      clear hkn
      go_wp2_with fail
      go_end0
      exact ⟨rfl, v2, by have h := HS2.out; rwa [HKN.out, List.take_of_length_le (by rw [HN.out]; exact Nat.le_refl _)] at h, HK2.out⟩
set_option maxRecDepth 10000 in
set_option maxHeartbeats 1000000 in
theorem wlistLeap_none (w : World) (g lb lo : Nat) (A : Option Addr) (c : Nat) (v : Value) (bs : List UInt8) (hp : w.cell? ⟨lb, lo, none⟩ = some (.slice A 0 c)) (hl : bs.length ≤ 100000000) (hst : TWSt w g v bs) :
    Calls Tryz.prog 113 #[.iface 76 (pt g), .pointer (some ⟨lb, lo, none⟩), I 1, .func (.func 114) #[] #[]] w (TwPost w g v (bs ++ le 0 1)) := by
  have HC := Lib.hid (tlength_any w.drew g v bs 0 1 (by omega) (by omega) (by omega) (by omega) hst.drew)
  clear hst
  go_enter Tryz.func113, Tryz.ntmps113
  go_wp2_with fail
  go_still_tail 9, (by kernel_rfl)
  go_wp2_with fail
  refine HC.out.mono ?_
  rintro e w1 ⟨rfl, v1, hs1, hk1⟩
  have HS1 := Lib.hid hs1
  have HK1 := Lib.hid (wkeep_drew hk1)
  clear hs1 hk1 HC hp
  go_wp2_with fail
  go_loop [22] (fun i => i = .int .i64 0) (fun _ => 0)
  case atStart => rfl
  case round =>
    subst hrel
    go_wp2_with fail
    go_end0
    exact ⟨rfl, v1, HS1.out, HK1.out⟩
set_option maxRecDepth 10000 in
set_option maxHeartbeats 1000000 in
theorem wlistTrans_none (w : World) (g lb lo : Nat) (A : Option Addr) (c : Nat) (v : Value) (bs : List UInt8) (hp : w.cell? ⟨lb, lo, none⟩ = some (.slice A 0 c)) (hl : bs.length ≤ 100000000) (hst : TWSt w g v bs) :
    Calls Tryz.prog 80 #[.iface 76 (pt g), .pointer (some ⟨lb, lo, none⟩), I 2, .func (.func 81) #[] #[]] w (TwPost w g v (bs ++ le 0 2)) := by
  have HC := Lib.hid (tlength_any w.drew g v bs 0 2 (by omega) (by omega) (by omega) (by omega) hst.drew)
  clear hst
  go_enter Tryz.func80, Tryz.ntmps80
  go_wp2_with fail
  go_still_tail 9, (by kernel_rfl)
  go_wp2_with fail
  refine HC.out.mono ?_
  rintro e w1 ⟨rfl, v1, hs1, hk1⟩
  have HS1 := Lib.hid hs1
  have HK1 := Lib.hid (wkeep_drew hk1)
  clear hs1 hk1 HC hp
  go_wp2_with fail
  go_loop [22] (fun i => i = .int .i64 0) (fun _ => 0)
  case atStart => rfl
  case round =>
    subst hrel
    go_wp2_with fail
    go_end0
    exact ⟨rfl, v1, HS1.out, HK1.out⟩
set_option maxRecDepth 10000 in
set_option maxHeartbeats 1000000 in
theorem wlistYear_none (w : World) (g lb lo : Nat) (A : Option Addr) (c : Nat) (v : Value) (bs : List UInt8) (hp : w.cell? ⟨lb, lo, none⟩ = some (.slice A 0 c)) (hl : bs.length ≤ 100000000) (hst : TWSt w g v bs) :
    Calls Tryz.prog 82 #[.iface 76 (pt g), .pointer (some ⟨lb, lo, none⟩), I 1, .func (.func 83) #[] #[]] w (TwPost w g v (bs ++ le 0 1)) := by
  have HC := Lib.hid (tlength_any w.drew g v bs 0 1 (by omega) (by omega) (by omega) (by omega) hst.drew)
  clear hst
  go_enter Tryz.func82, Tryz.ntmps82
  go_wp2_with fail
  go_still_tail 9, (by kernel_rfl)
  go_wp2_with fail
  refine HC.out.mono ?_
  rintro e w1 ⟨rfl, v1, hs1, hk1⟩
  have HS1 := Lib.hid hs1
  have HK1 := Lib.hid (wkeep_drew hk1)
  clear hs1 hk1 HC hp
  go_wp2_with fail
  go_loop [22] (fun i => i = .int .i64 0) (fun _ => 0)
  case atStart => rfl
  case round =>
    subst hrel
    go_wp2_with fail
    go_end0
    exact ⟨rfl, v1, HS1.out, HK1.out⟩
end Go.Proofs.YtoljoigbepdeiaaGreatDoor

/- table.calendar and table.entry with the writer, at flat zones. -/
namespace Go.Proofs.YtoljoigbepdeiaaGreatDoor
open Go Go.RowKit

attribute [local go_sem] m_w_number n_w_number m_w_offset n_w_offset m_w_text n_w_text m_w_digest n_w_digest m_w_length n_w_length
def calBytes (c : Cal) : List UInt8 := le c.epoch 4 ++ ((le c.months.length 1 ++ cellBytes c.months) ++ (le 0 1 ++ le 0 1))
theorem calBytes_length (c : Cal) : (calBytes c).length = 7 + c.months.length := by simp [calBytes, le_length, cellBytes_length]; omega
set_option maxRecDepth 10000 in
set_option maxHeartbeats 2000000 in
theorem wcalendar_flat (w : World) (g cb co : Nat) (c : Cal) (A : Option Addr) (a : Nat) (B : Option Addr) (b : Nat) (v : Value) (bs : List UInt8) (hc : CalFlat c) (hr : w.rangeAt cb co (calCells c A a B b).toList) (hfz : w.frozen? ⟨cb, co + 2, none⟩ = false) (hcb : cb < g) (hA : IntsAt w g A c.months)
    (hl : bs.length ≤ 10000000) (hst : TWSt w g v bs) :
    Calls Tryz.prog 79 #[.iface 76 (pt g), .pointer (some ⟨cb, co, none⟩)] w (TwPost w g v (bs ++ calBytes c)) := by
  have hgl := hst.lt
  have c0 : w.cell? ⟨cb, co, none⟩ = some (I c.epoch) := hr 0 _ rfl
  have c1 : w.cell? ⟨cb, co + 1, none⟩ = some (.slice A c.months.length a) := hr 1 _ rfl
  have c2 : w.cell? ⟨cb, co + 2, none⟩ = some (I (-1)) := (hr 2 _ rfl).trans (by rw [hc.le])
  have c3 : w.cell? ⟨cb, co + 3, none⟩ = some (.slice B 0 b) := (hr 3 _ rfl).trans (by rw [hc.ru]; rfl)
  obtain ⟨n, hn⟩ : ∃ n, c.months.length = n := ⟨_, rfl⟩
  rw [hn] at c1
  have hn2 : n ≤ 16 := by have := hc.mo.2; omega
  have hN1 : (bs ++ le c.epoch 4).length ≤ 10000004 := by rw [List.length_append, le_length]; omega
  have HE := Lib.hid hc.ep
  have HN := Lib.hid hn
  have HM : Hid (∀ z ∈ c.months, fits z) := Lib.hid fun z hz => by have := hc.all z hz; unfold fits; omega
  have HC1 := Lib.hid (tnumber_any w.drew g ⟨cb, co, none⟩ v bs c.epoch 4 (by have := hc.ep; omega) (by have := hc.ep; omega) (by omega) (by omega) hst.lt hst.drew c0)
  have HST := Lib.hid hst
  have HA := Lib.hid hA
  clear hc hr hst hA hn
  go_enter Tryz.func79, Tryz.ntmps79
  go_wp2_with fail
  go_still_tail 7, (by kernel_rfl)
  go_wp2_with fail
  refine HC1.out.mono ?_
  rintro e w1 ⟨rfl, v1, hs1, hk1⟩
  have hb1 := tw_below HST.out (wkeep_drew hk1)
  have HB1 := Lib.hid hb1
  have HS1 := Lib.hid hs1
  have HK1 := Lib.hid (wkeep_drew hk1)
  have d1 : w1.cell? ⟨cb, co + 1, none⟩ = some (.slice A n a) := (hb1.cell (p := ⟨cb, co + 1, none⟩) hcb).trans c1
  have hcb1 : cb < w1.heap.size := by have := hs1.lt; omega
  have HL := Lib.hid (wlistInt_any w1 g cb (co + 1) A n a c.months v1 _ HN.out (by omega) d1 hcb (HA.out.keep hb1) HM.out (by omega) hs1)
  have hN2 : (bs ++ le c.epoch 4 ++ (le (n : Int) 1 ++ cellBytes c.months)).length ≤ 10000040 := by
    simp only [List.length_append, le_length, cellBytes_length, HN.out]; omega
  clear hs1 hk1 hb1 HC1 c0 d1
  go_wp2_with fail
  refine HL.out.mono ?_
  rintro e w2 ⟨rfl, v2, hs2, hk2⟩
  have hb2 := HB1.out.trans (tw_below HS1.out hk2)
  have HB2 := Lib.hid hb2
  have HS2 := Lib.hid hs2
  have HK2 := Lib.hid (HK1.out.trans hk2)
  have d2 : w2.cell? ⟨cb, co + 2, none⟩ = some (I (-1)) := (hb2.cell (p := ⟨cb, co + 2, none⟩) hcb).trans c2
  obtain ⟨h1, h2⟩ := hs2.grow (below_var w2 (.cells #[I 0] 3))
  have HG1 := Lib.hid h1
  have HG2 := Lib.hid h2
  have HNE := Lib.hid hs2.new_ne
  have HBL := Lib.hid (heap_alloc_last w2 (.cells #[I 0] 3))
  have HC2 := Lib.hid (tnumber_any (w2.alloc (.cells #[I 0] 3)) g ⟨w2.heap.size, 0, none⟩ v2 _ 0 1 (by omega) (by omega) (by omega) (by omega) h1.lt h1 ((Row.new w2 #[I 0] 3).2 0))
  clear hs2 hk2 hb2 HL h1 h2
  go_wp2_with fail
  refine HC2.out.mono ?_
  rintro e w3 ⟨rfl, v3, hs3, hk3⟩
  have hb3 := tw_below HG1.out hk3
  have d3 : w3.cell? ⟨w2.heap.size, 0, none⟩ = some (I 0) := cell_of_row w3 _ 0 _ _ _ ((HG1.out.far hk3 w2.heap.size (by simp) HNE.out.1 HNE.out.2).trans HBL.out)
  have hb3' : Below g w w3 := (HB2.out.trans ((below_var w2 (.cells #[I 0] 3)).mono (by have := HS2.out.lt; omega))).trans hb3
  have HB3 := Lib.hid hb3'
  have e3 : w3.cell? ⟨cb, co + 2, none⟩ = some (I (-1)) := (hb3'.cell (p := ⟨cb, co + 2, none⟩) hcb).trans c2
  have f3 : w3.frozen? ⟨cb, co + 2, none⟩ = false := (hb3'.frozen (p := ⟨cb, co + 2, none⟩) hcb).trans hfz
  have e4 : w3.cell? ⟨cb, co + 3, none⟩ = some (.slice B 0 b) := (hb3'.cell (p := ⟨cb, co + 3, none⟩) hcb).trans c3
  have hsame := setCell_same e3
  have HS3 := Lib.hid hs3
  have HK3 := Lib.hid ((HK2.out.trans HG2.out).trans hk3)
  have hN3 : (bs ++ le c.epoch 4 ++ (le (n : Int) 1 ++ cellBytes c.months) ++ le 0 1).length ≤ 10000041 := by rw [List.length_append]; simp only [le_length]; omega
  have HLL := Lib.hid (wlistLeap_none w3 g cb (co + 3) B b v3 _ e4 (by omega) hs3)
  clear hs3 hk3 hb3 hb3' HC2 d2 HBL
  go_wp2_with fail
  refine HLL.out.mono ?_
  rintro e w4 ⟨rfl, v4, hs4, hk4⟩
  have HS4 := Lib.hid hs4
  have HK4 := Lib.hid (HK3.out.trans hk4)
  clear hs4 hk4 HLL hsame d3 e3 f3 e4
  go_wp2_with fail
  go_end0
  exact ⟨rfl, v4, by unfold calBytes; rw [HN.out]; have h := HS4.out; simpa [List.append_assoc] using h, HK4.out⟩
def zeBytes (e : Ze) : List UInt8 := (le e.name.size 1 ++ e.name.data.toList) ++ (calBytes e.z.cal ++ (le e.z.start 2 ++ (le 0 2 ++ (le e.z.hor 8 ++ le 0 1))))
theorem zeBytes_length (e : Ze) (h : ZnFlat e.z) (hs : e.name.size ≤ 32) : (zeBytes e).length ≤ 69 := by
  have h1 := calBytes_length e.z.cal
  have h2 := h.cal.mo.2
  have h3 : e.name.data.toList.length = e.name.size := by rw [Array.length_toList]; rfl
  simp only [zeBytes, List.length_append, le_length, h1, h3]
  omega
set_option maxRecDepth 10000 in
set_option maxHeartbeats 2000000 in
theorem wentry_flat (w : World) (g eb eo : Nat) (x : ZeV) (v : Value) (bs : List UInt8) (h : ZnFlat x.e.z) (hs : x.e.name.size ≤ 32) (hr : w.rangeAt eb eo x.cells.toList) (hfz : w.frozen? ⟨eb, eo + 1 + 2, none⟩ = false) (heb : eb < g) (hA : IntsAt w g x.s.A x.e.z.cal.months)
    (hl : bs.length ≤ 9000000) (hst : TWSt w g v bs) :
    Calls Tryz.prog 57 #[.iface 76 (pt g), .pointer (some ⟨eb, eo, none⟩)] w (TwPost w g v (bs ++ zeBytes x.e)) := by
  have hgl := hst.lt
  have c0 : w.cell? ⟨eb, eo, none⟩ = some (.string x.e.name) := hr 0 _ rfl
  have HCAL : Hid (w.rangeAt eb (eo + 1) (calCells x.e.z.cal x.s.A x.s.a x.s.B x.s.b).toList) := Lib.hid fun j u hu => by
    have hj : j < 4 := (List.getElem?_eq_some_iff.1 hu).1
    rw [show eo + 1 + j = eo + (j + 1) by omega]
    refine hr (j + 1) u ?_
    match j, hj with
    | 0, _ => exact hu
    | 1, _ => exact hu
    | 2, _ => exact hu
    | 3, _ => exact hu
  have c5 : w.cell? ⟨eb, eo + 1 + 4, none⟩ = some (I x.e.z.start) := hr 5 _ rfl
  have c6 : w.cell? ⟨eb, eo + 1 + 5, none⟩ = some (.slice x.s.C 0 x.s.c) := (hr 6 _ rfl).trans (by rw [h.trans]; rfl)
  have c7 : w.cell? ⟨eb, eo + 1 + 6, none⟩ = some (I x.e.z.hor) := hr 7 _ rfl
  have c8 : w.cell? ⟨eb, eo + 1 + 7, none⟩ = some (.slice x.s.D 0 x.s.d) := (hr 8 _ rfl).trans (by rw [h.yearly]; rfl)
  have hnl : x.e.name.data.toList.length = x.e.name.size := by rw [Array.length_toList]; rfl
  have hcl := calBytes_length x.e.z.cal
  have hml := h.cal.mo.2
  have HC1 := Lib.hid (ttext_any w.drew g ⟨eb, eo, none⟩ v bs x.e.name (by omega) (by omega) hst.drew c0 (by show eb ≠ g; omega) (own_ge hst.2 eb (by omega)) (by show eb < w.heap.size; omega))
  have HST := Lib.hid hst
  have HF := Lib.hid h
  have HA := Lib.hid hA
  have HCC : Hid (∀ j u, Below g w u → u.cell? ⟨eb, j, none⟩ = w.cell? ⟨eb, j, none⟩) := Lib.hid fun j u hb => hb.cell (p := ⟨eb, j, none⟩) heb
  have HL : Hid (x.e.name.data.toList.length = x.e.name.size ∧ (calBytes x.e.z.cal).length = 7 + x.e.z.cal.months.length ∧ x.e.z.cal.months.length ≤ 16 ∧ x.e.name.size ≤ 32 ∧ bs.length ≤ 9000000) := Lib.hid ⟨hnl, hcl, hml, hs, hl⟩
  clear h hr hst hA hnl hcl hml hs hl
  go_enter Tryz.func57, Tryz.ntmps57
  go_wp2_with fail
  go_still_tail 7, (by kernel_rfl)
  go_wp2_with fail
  refine HC1.out.mono ?_
  rintro e w1 ⟨rfl, v1, hs1, hk1⟩
  obtain ⟨B1, hB1⟩ : ∃ B, bs ++ (le x.e.name.size 1 ++ x.e.name.data.toList) = B := ⟨_, rfl⟩
  have hl1 : B1.length ≤ 9000040 := by rw [← hB1]; have := HL.out; simp only [List.length_append, le_length]; omega
  rw [hB1] at hs1
  have hb1 := tw_below HST.out (wkeep_drew hk1)
  have HB1 := Lib.hid hb1
  have HS1 := Lib.hid hs1
  have HK1 := Lib.hid (wkeep_drew hk1)
  have HQ1 := Lib.hid hB1
  have HC2 := Lib.hid (wcalendar_flat w1 g eb (eo + 1) x.e.z.cal x.s.A x.s.a x.s.B x.s.b v1 B1 HF.out.cal (fun j u hu => (hb1.cell (p := ⟨eb, eo + 1 + j, none⟩) heb).trans (HCAL.out j u hu)) ((hb1.frozen (p := ⟨eb, eo + 1 + 2, none⟩) heb).trans hfz) heb (HA.out.keep hb1) (by omega) hs1)
  clear hs1 hk1 hb1 HC1 hB1 c0
  go_wp2_with fail
  refine HC2.out.mono ?_
  rintro e w2 ⟨rfl, v2, hs2, hk2⟩
  obtain ⟨B2, hB2⟩ : ∃ B, B1 ++ calBytes x.e.z.cal = B := ⟨_, rfl⟩
  have hl2 : B2.length ≤ 9000070 := by rw [← hB2]; have := HL.out; simp only [List.length_append]; omega
  rw [hB2] at hs2
  have hb2 := HB1.out.trans (tw_below HS1.out hk2)
  have HB2 := Lib.hid hb2
  have HS2 := Lib.hid hs2
  have HK2 := Lib.hid (HK1.out.trans hk2)
  have HQ2 := Lib.hid hB2
  have hst0 := HF.out.start
  have HC3 := Lib.hid (toffset_any w2.drew g ⟨eb, eo + 1 + 4, none⟩ v2 B2 x.e.z.start (by omega) (by omega) (by omega) hs2.drew ((HCC.out _ _ hb2).trans c5))
  clear hs2 hk2 hb2 HC2 hB2 c5 hst0
  go_wp2_with fail
  go_still_tail 7, (by kernel_rfl)
  go_wp2_with fail
  refine HC3.out.mono ?_
  rintro e w3 ⟨rfl, v3, hs3, hk3⟩
  obtain ⟨B3, hB3⟩ : ∃ B, B2 ++ le x.e.z.start 2 = B := ⟨_, rfl⟩
  have hl3 : B3.length ≤ 9000080 := by rw [← hB3]; simp only [List.length_append, le_length]; omega
  rw [hB3] at hs3
  have hb3 := HB2.out.trans (tw_below HS2.out (wkeep_drew hk3))
  have HB3 := Lib.hid hb3
  have HS3 := Lib.hid hs3
  have HK3 := Lib.hid (HK2.out.trans (wkeep_drew hk3))
  have HQ3 := Lib.hid hB3
  have HC4 := Lib.hid (wlistTrans_none w3 g eb (eo + 1 + 5) x.s.C x.s.c v3 B3 ((HCC.out _ _ hb3).trans c6) (by omega) hs3)
  clear hs3 hk3 hb3 HC3 hB3 c6
  go_wp2_with fail
  refine HC4.out.mono ?_
  rintro e w4 ⟨rfl, v4, hs4, hk4⟩
  obtain ⟨B4, hB4⟩ : ∃ B, B3 ++ le 0 2 = B := ⟨_, rfl⟩
  have hl4 : B4.length ≤ 9000090 := by rw [← hB4]; simp only [List.length_append, le_length]; omega
  rw [hB4] at hs4
  have hb4 := HB3.out.trans (tw_below HS3.out hk4)
  have HB4 := Lib.hid hb4
  have HS4 := Lib.hid hs4
  have HK4 := Lib.hid (HK3.out.trans hk4)
  have HQ4 := Lib.hid hB4
  have hh0 := HF.out.hor
  have HC5 := Lib.hid (tnumber_any w4.drew g ⟨eb, eo + 1 + 6, none⟩ v4 B4 x.e.z.hor 8 (by omega) (by omega) (by omega) (by omega) hs4.lt hs4.drew ((HCC.out _ _ hb4).trans c7))
  clear hs4 hk4 hb4 HC4 hB4 c7 hh0
  go_wp2_with fail
  go_still_tail 7, (by kernel_rfl)
  go_wp2_with fail
  refine HC5.out.mono ?_
  rintro e w5 ⟨rfl, v5, hs5, hk5⟩
  obtain ⟨B5, hB5⟩ : ∃ B, B4 ++ le x.e.z.hor 8 = B := ⟨_, rfl⟩
  have hl5 : B5.length ≤ 9000100 := by rw [← hB5]; simp only [List.length_append, le_length]; omega
  rw [hB5] at hs5
  have hb5 := HB4.out.trans (tw_below HS4.out (wkeep_drew hk5))
  have HS5 := Lib.hid hs5
  have HK5 := Lib.hid (HK4.out.trans (wkeep_drew hk5))
  have HQ5 := Lib.hid hB5
  have HC6 := Lib.hid (wlistYear_none w5 g eb (eo + 1 + 7) x.s.D x.s.d v5 B5 ((HCC.out _ _ hb5).trans c8) (by omega) hs5)
  clear hs5 hk5 hb5 HC5 hB5 c8
  go_wp2_with fail
  refine HC6.out.mono ?_
  rintro e w6 ⟨rfl, v6, hs6, hk6⟩
  have HS6 := Lib.hid hs6
  have HK6 := Lib.hid (HK5.out.trans hk6)
  clear hs6 hk6 HC6
  go_wp2_with fail
  go_end0
  refine ⟨rfl, v6, ?_, HK6.out⟩
  have h := HS6.out
  rw [← HQ5.out, ← HQ4.out, ← HQ3.out, ← HQ2.out, ← HQ1.out] at h
  unfold zeBytes
  simpa only [List.append_assoc] using h
end Go.Proofs.YtoljoigbepdeiaaGreatDoor

/- The table's reader: the lists of a zone. -/
namespace Go.Proofs.YtoljoigbepdeiaaGreatDoor
open Go Go.RowKit

attribute [local go_sem] m_r_number n_r_number m_r_offset n_r_offset m_r_text n_r_text m_r_digest n_r_digest m_r_length n_r_length
set_option maxRecDepth 10000 in
theorem trmonth_le (M : Nat) (w : World) (rb pb po : Nat) (t : TypeId) (cs : Array Value) (n : Int) (R : List UInt8) (hr : TRd M w rb (le n 1 ++ R)) (h0 : 0 ≤ n) (h1 : n < 256) (hp : w.heap[pb]? = some (.cells cs t (0, 0))) (hpo : po < cs.size) (hMp : M ≤ pb) (hne : pb ≠ rb) :
    Calls Tryz.prog 112 #[.iface 140 (pt rb), .pointer (some ⟨pb, po, none⟩)] w (TNumR M w rb pb po t cs n R) := by
  have HC := Lib.hid (trnum_le M w rb pb po 1 t cs n n R hr (by omega) (rdN_1 n h0 h1 R) hp hpo hMp hne)
  clear hr hp
  go_enter Tryz.func112, Tryz.ntmps112
  go_wp2_with fail
  refine HC.out.mono ?_
  rintro e w1 ⟨rfl, h⟩
  have H := Lib.hid h
  clear h HC
  go_wp2_with fail
  go_end0
  exact ⟨rfl, H.out⟩
theorem own_tput {W W' : World} {lo e size g n m cap rb o : Nat} {xs : List Value} {v : Value} {cur : Array Value} (h : W.ownsRow lo e size (.slice (some ⟨g, 0, none⟩) n cap) m xs) (hg : W.heap[g]? = some (.cells cur e (0, 0))) (hp : TPut W rb g e (cur.setIfInBounds o v) W') :
    W'.ownsRow lo e size (.slice (some ⟨g, 0, none⟩) n cap) m (xs.set o v) := by
  obtain ⟨cur', h1, h2, h3, h4, h5, h6, h7, rfl⟩ := own_inv h
  rw [hg] at h1
  injection h1 with h1
  injection h1 with h1
  subst h1
  exact own_mk hp.tgt h2 h3 h4 (by rw [Array.size_setIfInBounds]; exact h5) (by rw [Array.toList_setIfInBounds, List.take_set, h6]) (by rw [List.length_set]; exact h7)
theorem ints_set (zs : List Int) (z : Int) : ((zs.map I) ++ [I 0]).set zs.length (I z) = (zs ++ [z]).map I := by
  rw [List.set_append_right _ _ (by simp)]
  simp
def RlRel (M : Nat) (w : World) (rb pb po : Nat) (t : TypeId) (cs : Array Value) (n : Nat) (zs : List Int) (R : List UInt8) (i : Value) (wr : World) : Prop :=
  ∃ (k : Nat) (A : Option Addr) (c : Nat), k ≤ n ∧ i = .int .i64 k ∧ TRd M wr rb (cellBytes (zs.drop k) ++ R) ∧ TPut w rb pb t (cs.setIfInBounds po (.slice A k c)) wr ∧ wr.ownsRow w.heap.size 3 1 (.slice A k c) k ((zs.take k).map I)
def TLiR (M : Nat) (w : World) (rb pb po : Nat) (t : TypeId) (cs : Array Value) (zs : List Int) (n : Nat) (R : List UInt8) (e : Ending) (w' : World) : Prop :=
  e = .returned (.tuple #[]) ∧ ∃ A c, TRd M w' rb R ∧ TPut w rb pb t (cs.setIfInBounds po (.slice A n c)) w' ∧ w'.ownsRow w.heap.size 3 1 (.slice A n c) n (zs.map I)
set_option maxRecDepth 10000 in
set_option maxHeartbeats 4000000 in
theorem trlistInt (M : Nat) (w : World) (rb pb po n : Nat) (t : TypeId) (cs : Array Value) (zs : List Int) (R : List UInt8) (hn : zs.length = n) (hn2 : n ≤ 100) (hfit : ∀ z ∈ zs, 0 ≤ z ∧ z < 256) (hr : TRd M w rb ((le n 1 ++ cellBytes zs) ++ R)) (hp : w.heap[pb]? = some (.cells cs t (0, 0))) (hpo : cs[po]? = some (.slice none 0 0)) (hMp : M ≤ pb) (hne : pb ≠ rb) :
    Calls Tryz.prog 111 #[.iface 140 (pt rb), .pointer (some ⟨pb, po, none⟩), I 1, .func (.func 112) #[] #[]] w (TLiR M w rb pb po t cs zs n R) := by
  rw [List.append_assoc] at hr
  have hpl : pb < w.heap.size := (Array.getElem?_eq_some_iff.1 hp).1
  have hlo := hr.lo
  have hrl := hr.lt
  have hcs : cs.setIfInBounds po (.slice none 0 0) = cs := by
    apply Array.ext_getElem?
    intro i
    rw [Array.getElem?_setIfInBounds]
    split
    · rename_i e; subst e
      split
      · exact hpo.symm
      · rename_i e2; rw [Array.getElem?_eq_none (by omega)] at hpo; cases hpo
    · rfl
  have hc0 : w.cell? ⟨pb, po, none⟩ = some (.slice none 0 0) := (cell_of_row w pb po _ _ _ hp).trans hpo
  have hpos : po < cs.size := (Array.getElem?_eq_some_iff.1 hpo).1
  have HC := Lib.hid (trlength_le M w.drew rb 1 0 n n (cellBytes zs ++ R) hr.drew (by omega) (rdN_1 _ (by omega) (by omega) _))
  have HP : Hid (TPut w rb pb t (cs.setIfInBounds po (.slice none 0 0)) w) := Lib.hid (by rw [hcs]; exact TPut.refl hp)
  have HN := Lib.hid hn
  have HF := Lib.hid hfit
  clear hr hp hpo hcs hn hfit
  obtain ⟨i0, hi, hz0, hz1, hz2⟩ := info_parts info_int
  go_enter Tryz.func111, Tryz.ntmps111
  go_wp2_with fail
  go_still_tail 9, (by kernel_rfl)
  go_wp2_with fail
  refine HC.out.mono ?_
  rintro e w1 ⟨rfl, hr1, hk1⟩
  have HR1 := Lib.hid hr1
  have HP1 := Lib.hid (HP.out.drew.mkeep hk1 hpl hne)
  clear hr1 hk1 HC hc0
  go_wp2_with fail
  go_loopw [22] (fun i wr => RlRel M w rb pb po t cs n zs R i wr) (fun i _ => n - (intOf i).toNat)
  case atStart => exact ⟨0, none, 0, Nat.zero_le _, rfl, HR1.out, HP1.out, World.ownsRow_nil _ _ _ _⟩
  case round =>
    obtain ⟨k, A, c, hk, rfl, hr, hp, hown⟩ := hrel
    have HR := Lib.hid hr
    have HPP := Lib.hid hp
    have HO := Lib.hid hown
    have hcp : wr.cell? ⟨pb, po, none⟩ = some (.slice A k c) := (hp.cell po).trans (by simp [hpos])
    have hsw := hp.size
    clear hr hp hown HR1 HP1 HP
    by_cases hlt : k < n
    · have i0' : (0 : Int) ≤ (k : Int) := by omega
      have i1 : (k : Int) < (n : Int) := by omega
      have hkz : k < zs.length := by rw [HN.out]; exact hlt
      obtain ⟨z, hz⟩ : ∃ z, zs[k]? = some z := ⟨_, List.getElem?_eq_getElem hkz⟩
      have hzr := HF.out z (List.mem_of_getElem? hz)
      have HZ := Lib.hid hz
      have hbase : w.heap.size ≤ (wr.alloc (.cells #[I 0] 3)).heap.size := by simp; omega
      clear hz
      go_wp2_with (at_builtin; refine wpList_append_own_at _ rfl _ _ 31 rfl w.heap.size 3 i0 (.int .i64 0) 1 8 Tryz.underlying31 hi hz0 hz1 hz2 rfl (by decide) _ _ _ rfl (HO.out.alloc _) ⟨wr.heap.size, 0, none⟩ 1 1 [I 0] rfl rfl ?c1 ?c2 ?c3 ?c4 ?c5 ?_)
      case c1 => exact cell_one_new _ _ _
      case c2 => intro u hu; simp at hu; subst hu; rfl
      case c3 => unfold maxLen; omega
      case c4 => omega
      case c5 => exact hbase
      intro v' w2 hown2 hgrow2 _ hat2
      rw [← List.map_take] at hown2
      obtain ⟨g2, c2, rfl, hg2⟩ := own_form hown2 (Nat.succ_pos _)
      have hbw : ∀ b, b < w.heap.size → w2.heap[b]? = wr.heap[b]? := fun b hb => by rw [hgrow2.block b (by simp; omega) (own_ge HO.out b hb), Below.heap_alloc wr _ b (by omega)]
      have hs2 : wr.heap.size ≤ w2.heap.size := by have := hgrow2.size; rw [World.size_alloc] at this; omega
      have hp2 : w2.heap[pb]? = some (.cells (cs.setIfInBounds po (.slice A k c)) t (0, 0)) := (hbw pb hpl).trans HPP.out.tgt
      have hcp2 : w2.cell? ⟨pb, po, none⟩ = some (.slice A k c) := (cell_of_row w2 pb po _ _ _ hp2).trans (by simp [hpos])
      have hfp2 := frozen_of_row w2 pb po _ _ hp2
      have hlo2 := own_low hown2
      have hP3 : TPut w rb pb t (cs.setIfInBounds po (.slice (some ⟨g2, 0, none⟩) (k + 1) c2)) (w2.setCell ⟨pb, po, none⟩ (.slice (some ⟨g2, 0, none⟩) (k + 1) c2)) := by
        have h : TPut w rb pb t (cs.setIfInBounds po (.slice A k c)) w2 := ⟨hgrow2.os.trans HPP.out.os, hgrow2.tape.trans HPP.out.tape, hgrow2.output.trans HPP.out.output, Nat.le_trans HPP.out.size hs2, fun b hb h1 h2 => (hbw b hb).trans (HPP.out.block b hb h1 h2), hp2⟩
        have h := h.put po (.slice (some ⟨g2, 0, none⟩) (k + 1) c2)
        rwa [Array.setIfInBounds_setIfInBounds] at h
      have hR3 : TRd M (w2.setCell ⟨pb, po, none⟩ (.slice (some ⟨g2, 0, none⟩) (k + 1) c2)) rb (cellBytes (zs.drop k) ++ R) := (HR.out.of (hbw rb hrl) fun b hb => hbw b (by omega)).put hMp hne _
      have hO3 : (w2.setCell ⟨pb, po, none⟩ (.slice (some ⟨g2, 0, none⟩) (k + 1) c2)).ownsRow w.heap.size 3 1 (.slice (some ⟨g2, 0, none⟩) (k + 1) c2) (k + 1) ((zs.take k).map I ++ [I 0]) := ownsRow_far (p := ⟨pb, po, none⟩) hown2 (by intro e; injection e with e; simp only at e; omega)
      have HP3 := Lib.hid hP3
      have HR3 := Lib.hid hR3
      have HO3 := Lib.hid hO3
      clear hown2 hgrow2 hat2 hbw hp2 hP3 hR3 hO3 hg2 hcp
      go_wp2_with fail
      obtain ⟨w3, hw3⟩ : ∃ W, w2.setCell ⟨pb, po, none⟩ (.slice (some ⟨g2, 0, none⟩) (k + 1) c2) = W := ⟨_, rfl⟩
      rw [hw3] at HP3 HR3 HO3 ⊢
      obtain ⟨cur, q1, q2, q3, q4, q5, q6, q7, _⟩ := own_inv HO3.out
      have hcz : cellBytes (zs.drop k) ++ R = le z 1 ++ (cellBytes (zs.drop (k + 1)) ++ R) := by
        have hd : zs.drop k = z :: zs.drop (k + 1) := by
          rw [List.drop_eq_getElem_cons hkz]
          have h := HZ.out
          rw [List.getElem?_eq_getElem hkz] at h
          injection h with h
          rw [h]
        rw [hd]
        simp [cellBytes]
      have hr3 := HR3.out
      rw [hcz] at hr3
      refine (trmonth_le M w3 rb g2 k 3 cur z _ hr3 hzr.1 hzr.2 q1 (by rw [q5]; omega) (by omega) (by omega)).mono ?_
      rintro e w4 ⟨rfl, hr4, hp4⟩
      have hO4 := own_tput HO3.out q1 hp4
      have hlen : ((zs.take k).map I).length = k := by rw [List.length_map, List.length_take]; omega
      have hset : ((zs.take k).map I ++ [I 0]).set k (I z) = (zs.take (k + 1)).map I := by
        have h := ints_set (zs.take k) z
        rw [show (zs.take k).length = k by rw [List.length_take]; omega] at h
        rw [h, take_next zs k z HZ.out]
      rw [hset] at hO4
      have hP4 : TPut w rb pb t (cs.setIfInBounds po (.slice (some ⟨g2, 0, none⟩) (k + 1) c2)) w4 := ⟨hp4.os.trans HP3.out.os, hp4.tape.trans HP3.out.tape, hp4.output.trans HP3.out.output, Nat.le_trans HP3.out.size hp4.size, fun b hb h1 h2 => (hp4.block b (Nat.lt_of_lt_of_le hb HP3.out.size) (by omega) h2).trans (HP3.out.block b hb h1 h2), (hp4.block pb (Nat.lt_of_lt_of_le hpl HP3.out.size) (by omega) hne).trans HP3.out.tgt⟩
      have HR4 := Lib.hid hr4
      have HP4 := Lib.hid hP4
      have HO4 := Lib.hid hO4
      clear hr4 hp4 hO4 hP4 hset hlen hr3 hcz q1 q2 q3 q4 q5 q6 q7 hw3 hcp2 hfp2
      go_wp2_with fail
      go_roundw
      case rel => exact ⟨k + 1, some ⟨g2, 0, none⟩, c2, by omega, by go_num, HR4.out, HP4.out, HO4.out⟩
      case measure => simp [intOf]; omega
    · have hkn : k = n := by omega
      have HKN := Lib.hid hkn
      have hlt' : ¬ (k : Int) < (n : Int) := by omega
      clear hkn hlt hcp
      go_wp2_with fail
      go_end0
      refine ⟨rfl, A, c, ?_, ?_, ?_⟩
      · have h := HR.out
        rw [HKN.out, List.drop_of_length_le (by rw [HN.out]; exact Nat.le_refl _)] at h
        exact h
      · have h := HPP.out
        rwa [HKN.out] at h
      · have h := HO.out
        rwa [HKN.out, List.take_of_length_le (by rw [HN.out]; exact Nat.le_refl _)] at h
end Go.Proofs.YtoljoigbepdeiaaGreatDoor

/- table.calendar and table.entry with the reader, at flat zones. -/
namespace Go.Proofs.YtoljoigbepdeiaaGreatDoor
open Go Go.RowKit

attribute [local go_sem] m_r_number n_r_number m_r_offset n_r_offset m_r_text n_r_text m_r_digest n_r_digest m_r_length n_r_length
def TNoneR (M : Nat) (w : World) (rb : Nat) (R : List UInt8) (e : Ending) (w' : World) : Prop := e = .returned (.tuple #[]) ∧ TRd M w' rb R ∧ MKeep rb w w'
theorem mkeep_drew {rb : Nat} {w w' : World} (h : MKeep rb w.drew w') : MKeep rb w w' := ⟨h.os, h.tape, h.output, h.size, h.block⟩
set_option maxRecDepth 10000 in
set_option maxHeartbeats 1000000 in
theorem trlistLeap_none (M : Nat) (w : World) (rb lb lo : Nat) (A : Option Addr) (c : Nat) (R : List UInt8) (hp : w.cell? ⟨lb, lo, none⟩ = some (.slice A 0 c)) (hr : TRd M w rb (le 0 1 ++ R)) :
    Calls Tryz.prog 113 #[.iface 140 (pt rb), .pointer (some ⟨lb, lo, none⟩), I 1, .func (.func 114) #[] #[]] w (TNoneR M w rb R) := by
  have HC := Lib.hid (trlength_le M w.drew rb 1 0 0 0 R hr.drew (by omega) (rdN_1 0 (by omega) (by omega) R))
  clear hr
  go_enter Tryz.func113, Tryz.ntmps113
  go_wp2_with fail
  go_still_tail 9, (by kernel_rfl)
  go_wp2_with fail
  refine HC.out.mono ?_
  rintro e w1 ⟨rfl, hr1, hk1⟩
  have HR1 := Lib.hid hr1
  have HK1 := Lib.hid (mkeep_drew hk1)
  clear hr1 hk1 HC hp
  go_wp2_with fail
  go_loop [22] (fun i => i = .int .i64 0) (fun _ => 0)
  case atStart => rfl
  case round =>
    subst hrel
    go_wp2_with fail
    go_end0
    exact ⟨rfl, HR1.out, HK1.out⟩
set_option maxRecDepth 10000 in
set_option maxHeartbeats 1000000 in
theorem trlistTrans_none (M : Nat) (w : World) (rb lb lo : Nat) (A : Option Addr) (c : Nat) (R : List UInt8) (hp : w.cell? ⟨lb, lo, none⟩ = some (.slice A 0 c)) (hr : TRd M w rb (le 0 2 ++ R)) :
    Calls Tryz.prog 80 #[.iface 140 (pt rb), .pointer (some ⟨lb, lo, none⟩), I 2, .func (.func 81) #[] #[]] w (TNoneR M w rb R) := by
  have HC := Lib.hid (trlength_le M w.drew rb 2 0 0 0 R hr.drew (by omega) ((rdN_2 0 R).trans (by decide)))
  clear hr
  go_enter Tryz.func80, Tryz.ntmps80
  go_wp2_with fail
  go_still_tail 9, (by kernel_rfl)
  go_wp2_with fail
  refine HC.out.mono ?_
  rintro e w1 ⟨rfl, hr1, hk1⟩
  have HR1 := Lib.hid hr1
  have HK1 := Lib.hid (mkeep_drew hk1)
  clear hr1 hk1 HC hp
  go_wp2_with fail
  go_loop [22] (fun i => i = .int .i64 0) (fun _ => 0)
  case atStart => rfl
  case round =>
    subst hrel
    go_wp2_with fail
    go_end0
    exact ⟨rfl, HR1.out, HK1.out⟩
set_option maxRecDepth 10000 in
set_option maxHeartbeats 1000000 in
theorem trlistYear_none (M : Nat) (w : World) (rb lb lo : Nat) (A : Option Addr) (c : Nat) (R : List UInt8) (hp : w.cell? ⟨lb, lo, none⟩ = some (.slice A 0 c)) (hr : TRd M w rb (le 0 1 ++ R)) :
    Calls Tryz.prog 82 #[.iface 140 (pt rb), .pointer (some ⟨lb, lo, none⟩), I 1, .func (.func 83) #[] #[]] w (TNoneR M w rb R) := by
  have HC := Lib.hid (trlength_le M w.drew rb 1 0 0 0 R hr.drew (by omega) (rdN_1 0 (by omega) (by omega) R))
  clear hr
  go_enter Tryz.func82, Tryz.ntmps82
  go_wp2_with fail
  go_still_tail 9, (by kernel_rfl)
  go_wp2_with fail
  refine HC.out.mono ?_
  rintro e w1 ⟨rfl, hr1, hk1⟩
  have HR1 := Lib.hid hr1
  have HK1 := Lib.hid (mkeep_drew hk1)
  clear hr1 hk1 HC hp
  go_wp2_with fail
  go_loop [22] (fun i => i = .int .i64 0) (fun _ => 0)
  case atStart => rfl
  case round =>
    subst hrel
    go_wp2_with fail
    go_end0
    exact ⟨rfl, HR1.out, HK1.out⟩
def TCalR (M : Nat) (w : World) (rb cb co : Nat) (t : TypeId) (cs : Array Value) (c : Cal) (R : List UInt8) (e : Ending) (w' : World) : Prop :=
  e = .returned (.tuple #[]) ∧ ∃ A a, TRd M w' rb R ∧ TPut w rb cb t (((cs.setIfInBounds co (I c.epoch)).setIfInBounds (co + 1) (.slice A c.months.length a)).setIfInBounds (co + 2) (I (-1))) w' ∧ w'.ownsRow w.heap.size 3 1 (.slice A c.months.length a) c.months.length (c.months.map I)
set_option maxRecDepth 10000 in
set_option maxHeartbeats 2000000 in
theorem trcalendar_flat (M : Nat) (w : World) (rb cb co : Nat) (t : TypeId) (cs : Array Value) (c : Cal) (R : List UInt8) (hc : CalFlat c) (hr : TRd M w rb (calBytes c ++ R)) (hp : w.heap[cb]? = some (.cells cs t (0, 0))) (h0 : co < cs.size) (h1 : cs[co + 1]? = some (.slice none 0 0)) (h2 : cs[co + 2]? = some (I 0)) (h3 : cs[co + 3]? = some (.slice none 0 0))
    (hM : M ≤ cb) (hne : cb ≠ rb) :
    Calls Tryz.prog 79 #[.iface 140 (pt rb), .pointer (some ⟨cb, co, none⟩)] w (TCalR M w rb cb co t cs c R) := by
  have hcl : cb < w.heap.size := (Array.getElem?_eq_some_iff.1 hp).1
  have hlo := hr.lo
  have hrw := hr.lt
  have e1 : co + 1 < cs.size := (Array.getElem?_eq_some_iff.1 h1).1
  have e2 : co + 2 < cs.size := (Array.getElem?_eq_some_iff.1 h2).1
  have e3 : co + 3 < cs.size := (Array.getElem?_eq_some_iff.1 h3).1
  obtain ⟨n, hn⟩ : ∃ n, c.months.length = n := ⟨_, rfl⟩
  have hn2 : n ≤ 16 := by have := hc.mo.2; omega
  have hr' : TRd M w.drew rb (le c.epoch 4 ++ ((le n 1 ++ cellBytes c.months) ++ (le 0 1 ++ (le 0 1 ++ R)))) := by
    have h := hr.drew
    unfold calBytes at h
    rw [hn] at h
    simpa only [List.append_assoc] using h
  have HC1 := Lib.hid (trnum_le M w.drew rb cb co 4 t cs c.epoch c.epoch _ hr' (by omega) (rdN_4 _ hc.ep.1 (by have := hc.ep.2; omega) _) hp h0 hM hne)
  have HN := Lib.hid hn
  have HM : Hid (∀ z ∈ c.months, 0 ≤ z ∧ z < 256) := Lib.hid fun z hz => by have := hc.all z hz; omega
  have HX : Hid (cs[co + 1]? = some (.slice none 0 0) ∧ cs[co + 2]? = some (I 0) ∧ cs[co + 3]? = some (.slice none 0 0)) := Lib.hid ⟨h1, h2, h3⟩
  clear hc hr hr' hp hn h1 h2 h3
  unfold TCalR
  go_enter Tryz.func79, Tryz.ntmps79
  go_wp2_with fail
  go_still_tail 7, (by kernel_rfl)
  go_wp2_with fail
  refine HC1.out.mono ?_
  rintro e w1 ⟨rfl, hr1, hp1⟩
  have HP1 := Lib.hid hp1.of_drew
  have HL := Lib.hid (trlistInt M w1 rb cb (co + 1) n t (cs.setIfInBounds co (I c.epoch)) c.months _ HN.out (by omega) HM.out hr1 hp1.tgt (by rw [Array.getElem?_setIfInBounds_ne (by omega)]; exact HX.out.1) hM hne)
  clear hr1 hp1 HC1
  go_wp2_with fail
  refine HL.out.mono ?_
  rintro e w2 ⟨rfl, A, a, hr2, hp2, ho2⟩
  obtain ⟨C2, hC2⟩ : ∃ C, (cs.setIfInBounds co (I c.epoch)).setIfInBounds (co + 1) (.slice A n a) = C := ⟨_, rfl⟩
  rw [hC2] at hp2
  have g2 : C2[co + 2]? = some (I 0) := by rw [← hC2, Array.getElem?_setIfInBounds_ne (by omega), Array.getElem?_setIfInBounds_ne (by omega)]; exact HX.out.2.1
  have g3 : C2[co + 3]? = some (.slice none 0 0) := by rw [← hC2, Array.getElem?_setIfInBounds_ne (by omega), Array.getElem?_setIfInBounds_ne (by omega)]; exact HX.out.2.2
  have HP2 := Lib.hid (HP1.out.trans hp2)
  have HO2 := Lib.hid (ownsRow_base' ho2 HP1.out.size)
  have HQ2 := Lib.hid hC2
  have d2 : w2.cell? ⟨cb, co + 2, none⟩ = some (I 0) := (hp2.cell (co + 2)).trans g2
  have hs2 := hp2.size
  have hs1 := HP1.out.size
  have hb2 := below_var w2 (.cells #[I 1] 3)
  have HB2 := Lib.hid hb2
  have hrl := hr2.lt
  have HC2 := Lib.hid (trnum_le M (w2.alloc (.cells #[I 1] 3)) rb w2.heap.size 0 1 3 #[I 1] 0 0 _ (hr2.below hb2 hrl) (by omega) (rdN_1 0 (by omega) (by omega) _) (heap_alloc_last w2 _) (by decide) (by omega) (by omega))
  clear hr2 hp2 ho2 hC2 HL hb2
  go_wp2_with fail
  refine HC2.out.mono ?_
  rintro e w3 ⟨rfl, hr3, hp3⟩
  have d3 : w3.cell? ⟨w2.heap.size, 0, none⟩ = some (I 0) := hp3.cell 0
  have hs3 := hp3.size
  rw [World.size_alloc] at hs3
  have hk3 : MKeep rb w2 w3 := ⟨hp3.os, hp3.tape, hp3.output, by omega, fun b hb hbr => (hp3.block b (by simp; omega) (by omega) hbr).trans (HB2.out.block b hb)⟩
  have hp3' : TPut w rb cb t C2 w3 := HP2.out.mkeep hk3 (by omega) hne
  have e3' : w3.cell? ⟨cb, co + 2, none⟩ = some (I 0) := (hp3'.cell (co + 2)).trans g2
  have f3 := hp3'.froz (co + 2)
  have HP4 := Lib.hid (hp3'.put (co + 2) (I (-1)))
  have HR4 := Lib.hid (hr3.put (o := co + 2) hM hne (I (-1)))
  have ho3 : w3.ownsRow w.heap.size 3 1 (.slice A n a) n (c.months.map I) := ownsRow_mkeep HO2.out hk3 hrw
  have HO4 := Lib.hid (ownsRow_far (u := I (-1)) (p := ⟨cb, co + 2, none⟩) ho3 (own_ge ho3 cb hcl))
  clear hr3 hp3 hk3 hp3' HC2 ho3 d2
  go_wp2_with fail
  obtain ⟨w4, hw4⟩ : ∃ W, w3.setCell ⟨cb, co + 2, none⟩ (I (-1)) = W := ⟨_, rfl⟩
  rw [hw4] at HP4 HR4 HO4 ⊢
  refine (trlistLeap_none M w4 rb cb (co + 3) none 0 R ((HP4.out.cell (co + 3)).trans (by rw [Array.getElem?_setIfInBounds_ne (by omega)]; exact g3)) HR4.out).mono ?_
  rintro e w5 ⟨rfl, hr5, hk5⟩
  have HR5 := Lib.hid hr5
  have HP5 := Lib.hid (HP4.out.mkeep hk5 (Nat.lt_of_lt_of_le hcl HP4.out.size) hne)
  have HO5 := Lib.hid (ownsRow_mkeep HO4.out hk5 hrw)
  clear hr5 hk5 hw4 d3 e3' f3 g2 g3
  go_wp2_with fail
  go_end0
  refine ⟨rfl, A, a, HR5.out, ?_, ?_⟩
  · have h := HP5.out
    rw [← HQ2.out] at h
    rw [HN.out]
    exact h
  · rw [HN.out]
    exact HO5.out
def entCells (cs : Array Value) (eo : Nat) (e : Ze) (A : Option Addr) (a : Nat) : Array Value :=
  (((((cs.setIfInBounds eo (.string e.name)).setIfInBounds (eo + 1) (I e.z.cal.epoch)).setIfInBounds (eo + 1 + 1) (.slice A e.z.cal.months.length a)).setIfInBounds (eo + 1 + 2) (I (-1))).setIfInBounds (eo + 1 + 4) (I e.z.start)).setIfInBounds (eo + 1 + 6) (I e.z.hor)
def TEntR (M : Nat) (w : World) (rb eb eo : Nat) (t : TypeId) (cs : Array Value) (x : Ze) (R : List UInt8) (e : Ending) (w' : World) : Prop :=
  e = .returned (.tuple #[]) ∧ ∃ A a, TRd M w' rb R ∧ TPut w rb eb t (entCells cs eo x A a) w' ∧ w'.ownsRow w.heap.size 3 1 (.slice A x.z.cal.months.length a) x.z.cal.months.length (x.z.cal.months.map I)
set_option maxRecDepth 10000 in
set_option maxHeartbeats 4000000 in
theorem trentry_flat (M : Nat) (w : World) (rb eb eo : Nat) (t : TypeId) (cs : Array Value) (x : Ze) (R : List UInt8) (hf : ZnFlat x.z) (hs : x.name.size ≤ 32) (hr : TRd M w rb (zeBytes x ++ R)) (hp : w.heap[eb]? = some (.cells cs t (0, 0))) (hz : ∀ j, j < 9 → cs[eo + j]? = zZe[j]?) (hM : M ≤ eb) (hne : eb ≠ rb) :
    Calls Tryz.prog 57 #[.iface 140 (pt rb), .pointer (some ⟨eb, eo, none⟩)] w (TEntR M w rb eb eo t cs x R) := by
  have hel : eb < w.heap.size := (Array.getElem?_eq_some_iff.1 hp).1
  have hrw := hr.lt
  have hz0 : cs[eo]? = some (.string ⟨#[]⟩) := hz 0 (by decide)
  have hz8 : eo + 8 < cs.size := (Array.getElem?_eq_some_iff.1 ((hz 8 (by decide)).trans (rfl : zZe[8]? = some (.slice none 0 0)))).1
  have hr' : TRd M w.drew rb ((le x.name.size 1 ++ x.name.data.toList) ++ (calBytes x.z.cal ++ (le x.z.start 2 ++ (le 0 2 ++ (le x.z.hor 8 ++ (le 0 1 ++ R)))))) := by
    have h := hr.drew
    unfold zeBytes at h
    simpa only [List.append_assoc] using h
  have HC1 := Lib.hid (trtext_le M w.drew rb eb eo t cs ⟨#[]⟩ x.name _ hr' (by omega) hp hz0 hM hne)
  have HZ : Hid (∀ j, 1 ≤ j → j < 9 → cs[eo + j]? = zZe[j]?) := Lib.hid fun j _ hj => hz j hj
  have HF := Lib.hid hf
  have hst0 := hf.start
  have hho0 := hf.hor
  clear hf hs hr hr' hp hz hz0
  unfold TEntR
  go_enter Tryz.func57, Tryz.ntmps57
  go_wp2_with fail
  go_still_tail 7, (by kernel_rfl)
  go_wp2_with fail
  refine HC1.out.mono ?_
  rintro e w1 ⟨rfl, hr1, hp1⟩
  obtain ⟨C1, hC1⟩ : ∃ C, cs.setIfInBounds eo (.string x.name) = C := ⟨_, rfl⟩
  rw [hC1] at hp1
  have k1 : ∀ j, 1 ≤ j → j < 9 → C1[eo + j]? = zZe[j]? := fun j h1 h2 => by rw [← hC1, Array.getElem?_setIfInBounds_ne (by omega)]; exact HZ.out j h1 h2
  have l1 : C1.size = cs.size := by rw [← hC1, Array.size_setIfInBounds]
  have HP1 := Lib.hid hp1.of_drew
  have HQ1 := Lib.hid hC1
  have HC2 := Lib.hid (trcalendar_flat M w1 rb eb (eo + 1) t C1 x.z.cal _ HF.out.cal hr1 hp1.tgt (by omega) (k1 2 (by decide) (by decide)) (k1 3 (by decide) (by decide)) (k1 4 (by decide) (by decide)) hM hne)
  have HK1 := Lib.hid k1
  clear hr1 hp1 HC1 hC1 k1
  go_wp2_with fail
  refine HC2.out.mono ?_
  rintro e w2 ⟨rfl, A, a, hr2, hp2, ho2⟩
  obtain ⟨C2, hC2⟩ : ∃ C, ((C1.setIfInBounds (eo + 1) (I x.z.cal.epoch)).setIfInBounds (eo + 1 + 1) (.slice A x.z.cal.months.length a)).setIfInBounds (eo + 1 + 2) (I (-1)) = C := ⟨_, rfl⟩
  rw [hC2] at hp2
  have k2 : ∀ j, 4 ≤ j → j < 9 → C2[eo + j]? = zZe[j]? := fun j h1 h2 => by rw [← hC2, Array.getElem?_setIfInBounds_ne (by omega), Array.getElem?_setIfInBounds_ne (by omega), Array.getElem?_setIfInBounds_ne (by omega)]; exact HK1.out j (by omega) h2
  have l2 : C2.size = cs.size := by rw [← hC2, Array.size_setIfInBounds, Array.size_setIfInBounds, Array.size_setIfInBounds]; exact l1
  have HP2 := Lib.hid (HP1.out.trans hp2)
  have HO2 := Lib.hid (ownsRow_base' ho2 HP1.out.size)
  have HQ2 := Lib.hid hC2
  have HC3 := Lib.hid (troffset_le M w2.drew rb eb (eo + 1 + 4) t C2 x.z.start _ hr2.drew (by omega) (by omega) hp2.tgt (by omega) hM hne)
  have HK2 := Lib.hid k2
  clear hr2 hp2 ho2 HC2 hC2 k2
  go_wp2_with fail
  go_still_tail 7, (by kernel_rfl)
  go_wp2_with fail
  refine HC3.out.mono ?_
  rintro e w3 ⟨rfl, hr3, hp3⟩
  obtain ⟨C3, hC3⟩ : ∃ C, C2.setIfInBounds (eo + 1 + 4) (I x.z.start) = C := ⟨_, rfl⟩
  rw [hC3] at hp3
  have k3 : ∀ j, 6 ≤ j → j < 9 → C3[eo + j]? = zZe[j]? := fun j h1 h2 => by rw [← hC3, Array.getElem?_setIfInBounds_ne (by omega)]; exact HK2.out j (by omega) h2
  have l3 : C3.size = cs.size := by rw [← hC3, Array.size_setIfInBounds]; exact l2
  have hk3 : ∀ b, w.heap.size ≤ b → b < w2.heap.size → w3.heap[b]? = w2.heap[b]? := fun b h1 h2 => hp3.block b h2 (by omega) (by omega)
  have HO3 := Lib.hid (ownsRow_blocks HO2.out hk3)
  have HP3 := Lib.hid (HP2.out.trans hp3.of_drew)
  have HQ3 := Lib.hid hC3
  have HC4 := Lib.hid (trlistTrans_none M w3 rb eb (eo + 1 + 5) none 0 _ ((hp3.cell _).trans (k3 6 (by decide) (by decide))) hr3)
  have HK3 := Lib.hid k3
  clear hr3 hp3 HC3 hC3 k3 hk3
  go_wp2_with fail
  refine HC4.out.mono ?_
  rintro e w4 ⟨rfl, hr4, hk4⟩
  have HP4 := Lib.hid (HP3.out.mkeep hk4 (Nat.lt_of_lt_of_le hel HP3.out.size) hne)
  have HO4 := Lib.hid (ownsRow_mkeep HO3.out hk4 hrw)
  have HC5 := Lib.hid (trnum_le M w4.drew rb eb (eo + 1 + 6) 8 t C3 x.z.hor x.z.hor _ hr4.drew (by omega) (rdN_8 _ (by unfold fits; omega) _) HP4.out.tgt (by omega) hM hne)
  clear hr4 hk4 HC4
  go_wp2_with fail
  go_still_tail 7, (by kernel_rfl)
  go_wp2_with fail
  refine HC5.out.mono ?_
  rintro e w5 ⟨rfl, hr5, hp5⟩
  have hk5 : ∀ b, w.heap.size ≤ b → b < w4.heap.size → w5.heap[b]? = w4.heap[b]? := fun b h1 h2 => hp5.block b h2 (by omega) (by omega)
  have HO5 := Lib.hid (ownsRow_blocks HO4.out hk5)
  have HP5 := Lib.hid (HP4.out.trans hp5.of_drew)
  have HC6 := Lib.hid (trlistYear_none M w5 rb eb (eo + 1 + 7) none 0 R ((hp5.cell _).trans (by rw [Array.getElem?_setIfInBounds_ne (by omega)]; exact HK3.out 8 (by decide) (by decide))) hr5)
  clear hr5 hp5 HC5 hk5
  go_wp2_with fail
  refine HC6.out.mono ?_
  rintro e w6 ⟨rfl, hr6, hk6⟩
  have HR6 := Lib.hid hr6
  have HP6 := Lib.hid (HP5.out.mkeep hk6 (Nat.lt_of_lt_of_le hel HP5.out.size) hne)
  have HO6 := Lib.hid (ownsRow_mkeep HO5.out hk6 hrw)
  clear hr6 hk6 HC6
  go_wp2_with fail
  go_end0
  refine ⟨rfl, A, a, HR6.out, ?_, HO6.out⟩
  have h := HP6.out
  rw [← HQ3.out, ← HQ2.out, ← HQ1.out] at h
  exact h
end Go.Proofs.YtoljoigbepdeiaaGreatDoor
