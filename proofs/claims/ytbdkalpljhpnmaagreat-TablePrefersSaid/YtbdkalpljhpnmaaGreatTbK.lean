/- slices.Clone of a zone's lists and of zones; table.clonedZone at flat zones. -/
import Derived.Test.YtbdkalpljhpnmaaGreatTbE
import Derived.Test.YtbdkalpljhpnmaaGreatTbM
import Derived.Test.YtbdkalpljhpnmaaGreatPm
import Derived.BigQuiet
import Derived.Deep.AppendLies
import Derived.Deep.CutBlock
import Derived.Deep.DeepCutAuto
import Derived.Deep.DrawnRows
import Derived.Deep.MidRow
import Derived.Deep.QuietTactic
import Derived.Deep.RegionHeld3
import Derived.Deep.RegionLaw
import Derived.Deep.WholeRow
import Derived.Great.BuildSlice
import Derived.Laws.BytesString
import Derived.Laws.CopyOwn
import Derived.Laws.EntriesVeiled
import Derived.Laws.MakeOwn
import Derived.Laws.ResultCell
import Derived.Laws.Rows
import Derived.Laws.Tables
import Derived.Lib.Hide
import Derived.LoopIn
import Derived.LoopNIn
import Derived.Maps.AppendAt
import Derived.Outline
import Derived.OwnWalkIn
import Derived.RangeFuncBound
import Derived.RangeFuncBox
import Derived.RangeFuncCalls
import Derived.RangeFuncLeaves
import Derived.RangeFuncNested
import Derived.Shelf.Abstract
import Derived.Shelf.Bytes.SlSmallAll
import Derived.Shelf.RegionOpen
import Derived.StillTailTactics
import Derived.Stop.BytesEq
import Derived.TacticsInMore
import Derived.WalkKit
import Derived.WalkLawsBesides
import Derived.WalkSpells
namespace Go.Proofs.YtbdkalpljhpnmaaGreat
open Go Go.RowKit

set_option maxRecDepth 10000 in
theorem cloneLeap_nil (c : Nat) (w : World) : Calls Tryz.prog 38 #[.slice none 0 c] w fun e w' => e = .returned (.slice none 0 0) ∧ w' = w := by
  have heq : ∀ W, (binOp .eql 35 (.slice none 0 c) (.slice none 0 0)).run Tryz.prog W = .ok (.bool true) W := fun W => by simp [binOp, run_equal_slice_nil W 35 105 none 0 c Tryz.underlying35]
  go_enter Tryz.func38, Tryz.ntmps38
  go_wp2
  go_ret
  exact ⟨rfl, rfl⟩
set_option maxRecDepth 10000 in
theorem cloneTrans_nil (c : Nat) (w : World) : Calls Tryz.prog 39 #[.slice none 0 c] w fun e w' => e = .returned (.slice none 0 0) ∧ w' = w := by
  have heq : ∀ W, (binOp .eql 38 (.slice none 0 c) (.slice none 0 0)).run Tryz.prog W = .ok (.bool true) W := fun W => by simp [binOp, run_equal_slice_nil W 38 78 none 0 c Tryz.underlying38]
  go_enter Tryz.func39, Tryz.ntmps39
  go_wp2
  go_ret
  exact ⟨rfl, rfl⟩
set_option maxRecDepth 10000 in
theorem cloneYear_nil (c : Nat) (w : World) : Calls Tryz.prog 40 #[.slice none 0 c] w fun e w' => e = .returned (.slice none 0 0) ∧ w' = w := by
  have heq : ∀ W, (binOp .eql 39 (.slice none 0 c) (.slice none 0 0)).run Tryz.prog W = .ok (.bool true) W := fun W => by simp [binOp, run_equal_slice_nil W 39 80 none 0 c Tryz.underlying39]
  go_enter Tryz.func40, Tryz.ntmps40
  go_wp2
  go_ret
  exact ⟨rfl, rfl⟩
set_option maxRecDepth 10000 in
theorem cloneZe_nil (c : Nat) (w : World) : Calls Tryz.prog 36 #[.slice none 0 c] w fun e w' => e = .returned (.slice none 0 0) ∧ w' = w := by
  have heq : ∀ W, (binOp .eql 45 (.slice none 0 c) (.slice none 0 0)).run Tryz.prog W = .ok (.bool true) W := fun W => by simp [binOp, run_equal_slice_nil W 45 73 none 0 c Tryz.underlying45]
  go_enter Tryz.func36, Tryz.ntmps36
  go_wp2
  go_ret
  exact ⟨rfl, rfl⟩
theorem below_grown' {w W w' : World} {base e size n : Nat} {v : Value} {ys : List Value} (hb : Below base w W) (hown : W.ownsRow base e size v n ys) (hle : base ≤ W.heap.size) (hg : W.grownBy w' v.ownBlock) : Below base w w' :=
  ⟨hg.os.trans hb.os, hg.tape.trans hb.tape, hg.output.trans hb.output, Nat.le_trans hb.size hg.size, fun k hk => (hg.block k (by omega) (own_ge hown k hk)).trans (hb.block k hk)⟩
theorem own_emptyE (w : World) (e size : Nat) : (w.alloc (.cells #[] e)).ownsRow w.heap.size e size (.slice (some ⟨w.heap.size, 0, none⟩) 0 0) 0 [] :=
  ⟨by simp, .inr ⟨w.heap.size, 0, #[], rfl, Nat.le_refl _, heap_alloc_last w _, Nat.le_refl _, Nat.zero_le _, by simp, by simp⟩⟩
def ClI (w : World) (zs : List Int) (n : Nat) (e : Ending) (w' : World) : Prop :=
  ∃ g c, e = .returned (.slice (some ⟨g, 0, none⟩) n c) ∧ w'.ownsRow w.heap.size 3 1 (.slice (some ⟨g, 0, none⟩) n c) n (zs.map I) ∧ Below w.heap.size w w'
set_option maxRecDepth 10000 in
set_option maxHeartbeats 2000000 in
theorem cloneI_some (b off c : Nat) (zs : List Int) (n : Nat) (w : World) (hA : ∀ j, j < zs.length → w.cell? ⟨b, off + j, none⟩ = some (I (zs[j]?.getD 0))) (hb : b < w.heap.size) (hl : zs.length = n) (h0 : 0 < n) (hn : n ≤ 10000) :
    Calls Tryz.prog 37 #[.slice (some ⟨b, off, none⟩) n c] w (ClI w zs n) := by
  have HN : Hid (∀ j u, (zs.map I)[j]? = some u → (w.alloc (.cells #[] 3)).cell? ((⟨b, off, none⟩ : Addr).add j) = some u) := Lib.hid fun j u hu => by
    rw [List.getElem?_map] at hu
    obtain ⟨z, hz, rfl⟩ := Option.map_eq_some_iff.1 hu
    have hj : j < zs.length := (List.getElem?_eq_some_iff.1 hz).1
    rw [Addr.add_mid, World.cell?_of_block (Below.heap_alloc w _ b hb), hA j hj, hz]; rfl
  have HO := Lib.hid (own_emptyE w 3 1)
  have HL := Lib.hid hl
  have HB := Lib.hid (below_var w (.cells #[] 3))
  obtain ⟨i0, hi, hz0, hz1, hz2⟩ := info_parts info_int
  have HI := Lib.hid hi
  have HZ0 := Lib.hid hz0
  have HZ1 := Lib.hid hz1
  have HZ2 := Lib.hid hz2
  have heq : ∀ W, (binOp .eql 33 (.slice (some ⟨b, off, none⟩) n c) (.slice none 0 0)).run Tryz.prog W = .ok (.bool false) W := fun W => by simp [binOp, run_equal_slice_nil W 33 3 (some ⟨b, off, none⟩) n c Tryz.underlying33]
  clear hA hl hi hz0 hz1 hz2
  go_enter Tryz.func37, Tryz.ntmps37
  go_wp2_with (at_builtin; refine wpList_append_own_at _ rfl _ _ 33 rfl w.heap.size 3 i0 (.int .i64 0) 1 8 Tryz.underlying33 HI.out HZ0.out HZ1.out HZ2.out rfl (by decide) _ 0 [] rfl HO.out ⟨b, off, none⟩ n c (zs.map I) rfl (by rw [List.length_map, HL.out]; omega) HN.out (by intro u hu; obtain ⟨z, _, rfl⟩ := List.mem_map.1 hu; rfl) (by unfold maxLen; omega) (by omega) (by simp) ?_)
  intro v' w' hown hg _ _
  have HB2 := Lib.hid (below_grown' HB.out HO.out (by simp) hg)
  obtain ⟨g, cap, rfl, _⟩ := own_form hown h0
  have HOW := Lib.hid hown
  clear hown hg
  go_wp2_with fail
  go_ret
  exact ⟨g, cap, rfl, HOW.out, HB2.out⟩
/-- The zones' cells, one behind the other. -/
def zecells (zs : List ZeV) : List Value := zs.flatMap fun x => x.cells.toList
theorem zecells_len (zs : List ZeV) : (zecells zs).length = zs.length * 9 := by
  induction zs with
  | nil => rfl
  | cons x zs ih => unfold zecells at ih ⊢; rw [List.flatMap_cons, List.length_append, ih, List.length_cons]; show 9 + zs.length * 9 = _; omega
theorem zecells_ok (zs : List ZeV) : ∀ u ∈ zecells zs, u.oneCell' = true := by
  intro u hu
  unfold zecells at hu
  obtain ⟨x, _, hx⟩ := List.mem_flatMap.1 hu
  have h : x.cells.all (·.oneCell') = true := by kernel_rfl
  rw [Array.all_eq_true_iff_forall_mem] at h
  exact h u (by simpa using hx)
theorem zecells_get (zs : List ZeV) (k j : Nat) (x : ZeV) (hx : zs[k]? = some x) (hj : j < 9) : (zecells zs)[k * 9 + j]? = x.cells[j]? := by
  induction zs generalizing k with
  | nil => cases hx
  | cons y zs ih =>
    unfold zecells at ih ⊢
    rw [List.flatMap_cons]
    have h9 : y.cells.toList.length = 9 := rfl
    cases k with
    | zero =>
      injection hx with hx
      subst hx
      rw [Nat.zero_mul, Nat.zero_add, List.getElem?_append_left (by omega)]
      simp
    | succ k =>
      rw [List.getElem?_append_right (by omega), h9, show (k + 1) * 9 + j - 9 = k * 9 + j by omega]
      exact ih k hx
def zZe : Array Value := #[.string ⟨#[]⟩, I 0, .slice none 0 0, I 0, .slice none 0 0, I 0, .slice none 0 0, I 0, .slice none 0 0]
theorem info_ze : (Tryz.prog.info? 73).map (fun i => (i.zero, i.size, i.bytes)) = some (some (.agg zZe), 9, 144) := by kernel_rfl
def ClZ (w : World) (zs : List ZeV) (n : Nat) (e : Ending) (w' : World) : Prop :=
  ∃ g c, e = .returned (.slice (some ⟨g, 0, none⟩) n c) ∧ w'.ownsRow w.heap.size 73 9 (.slice (some ⟨g, 0, none⟩) n c) n (zecells zs) ∧ Below w.heap.size w w'
set_option maxRecDepth 10000 in
set_option maxHeartbeats 2000000 in
theorem cloneZe_some (b c : Nat) (zs : List ZeV) (n : Nat) (w : World) (hA : ∀ j u, (zecells zs)[j]? = some u → w.cell? ⟨b, j, none⟩ = some u) (hb : b < w.heap.size) (hl : zs.length = n) (h0 : 0 < n) (hn : n ≤ 10000) :
    Calls Tryz.prog 36 #[.slice (some ⟨b, 0, none⟩) n c] w (ClZ w zs n) := by
  have HN : Hid (∀ j u, (zecells zs)[j]? = some u → (w.alloc (.cells #[] 73)).cell? ((⟨b, 0, none⟩ : Addr).add j) = some u) := Lib.hid fun j u hu => by
    rw [addr_add, World.cell?_of_block (Below.heap_alloc w _ b hb)]; exact hA j u hu
  have HO := Lib.hid (own_emptyE w 73 9)
  have HL := Lib.hid (show (zecells zs).length = n * 9 by rw [zecells_len, hl])
  have HB := Lib.hid (below_var w (.cells #[] 73))
  obtain ⟨i0, hi, hz0, hz1, hz2⟩ := info_parts info_ze
  have HI := Lib.hid hi
  have HZ0 := Lib.hid hz0
  have HZ1 := Lib.hid hz1
  have HZ2 := Lib.hid hz2
  have heq : ∀ W, (binOp .eql 45 (.slice (some ⟨b, 0, none⟩) n c) (.slice none 0 0)).run Tryz.prog W = .ok (.bool false) W := fun W => by simp [binOp, run_equal_slice_nil W 45 73 (some ⟨b, 0, none⟩) n c Tryz.underlying45]
  clear hA hl hi hz0 hz1 hz2
  go_enter Tryz.func36, Tryz.ntmps36
  go_wp2_with (at_builtin; refine wpList_append_own_at _ rfl _ _ 45 rfl w.heap.size 73 i0 (.agg zZe) 9 144 Tryz.underlying45 HI.out HZ0.out HZ1.out HZ2.out rfl (by decide) _ 0 [] rfl HO.out ⟨b, 0, none⟩ n c (zecells zs) rfl HL.out HN.out (zecells_ok zs) (by unfold maxLen; omega) (by omega) (by simp) ?_)
  intro v' w' hown hg _ _
  have HB2 := Lib.hid (below_grown' HB.out HO.out (by simp) hg)
  obtain ⟨g, cap, rfl, _⟩ := own_form hown h0
  have HOW := Lib.hid hown
  clear hown hg
  go_wp2_with fail
  go_ret
  exact ⟨g, cap, rfl, HOW.out, HB2.out⟩
/-- A zone whose other lists are nil. -/
structure ZsNil (s : Zs) : Prop where
  B : s.B = none ∧ s.b = 0
  C : s.C = none ∧ s.c = 0
  D : s.D = none ∧ s.d = 0
def CzP (w : World) (z : Zn) (e : Ending) (w' : World) : Prop :=
  ∃ g c, e = .returned (.agg (znCells z ⟨some ⟨g, 0, none⟩, c, none, 0, none, 0, none, 0⟩)) ∧ w'.ownsRow w.heap.size 3 1 (.slice (some ⟨g, 0, none⟩) z.cal.months.length c) z.cal.months.length (z.cal.months.map I) ∧ Below w.heap.size w w'
set_option maxRecDepth 10000 in
set_option maxHeartbeats 400000 in
theorem clonedZone_flat (z : Zn) (s : Zs) (w : World) (h : ZnFlat z) (hs : ZsNil s) (hA : IntsAt w w.heap.size s.A z.cal.months) : Calls Tryz.prog 24 #[.agg (znCells z s)] w (CzP w z) := by
  obtain ⟨n, hn⟩ : ∃ n, z.cal.months.length = n := ⟨_, rfl⟩
  have hn0 : 0 < n := by have := h.cal.mo.1; omega
  have hn1 : n ≤ 16 := by have := h.cal.mo.2; omega
  obtain ⟨b, off, hb0, hb, hc⟩ : ∃ b off, s.A = some ⟨b, off, none⟩ ∧ b < w.heap.size ∧ ∀ j, j < z.cal.months.length → w.cell? ⟨b, off + j, none⟩ = some (I (z.cal.months[j]?.getD 0)) := by
    rcases hA with h1 | h1
    · omega
    · exact h1
  have e0 : znCells z s = #[I z.cal.epoch, .slice (some ⟨b, off, none⟩) n s.a, I z.cal.leap, .slice none 0 0, I z.start, .slice none 0 0, I z.hor, .slice none 0 0] := by
    unfold znCells
    rw [hb0, hn, hs.B.1, hs.B.2, hs.C.1, hs.C.2, hs.D.1, hs.D.2, h.cal.ru, h.trans, h.yearly]; rfl
  have HCL : Hid (∀ w', Below w.heap.size w w' → Calls Tryz.prog 37 #[.slice (some ⟨b, off, none⟩) n s.a] w' (ClI w' z.cal.months n)) := Lib.hid fun w' hb2 =>
    cloneI_some b off s.a z.cal.months n w' (fun j hj => (hb2.cell (p := ⟨b, off + j, none⟩) hb).trans (hc j hj)) (by have := hb2.size; omega) hn hn0 (by omega)
  have HFL : Hid (z.cal.rules = [] ∧ z.trans = [] ∧ z.yearly = []) := Lib.hid ⟨h.cal.ru, h.trans, h.yearly⟩
  have HN := Lib.hid hn
  rw [e0]
  clear h hs hA hb0 hc e0 hn
  have HA0 := Lib.hid (below_trans (below_var w (.cells #[I z.cal.epoch, .slice (some ⟨b, off, none⟩) n s.a, I z.cal.leap, .slice none 0 0, I z.start, .slice none 0 0, I z.hor, .slice none 0 0] 41)) (below_var _ (.cells #[I 0, .slice none 0 0, I 0, .slice none 0 0, I 0, .slice none 0 0, I 0, .slice none 0 0] 41)))
  have HR0 := Lib.hid (heap_alloc2_old w (.cells #[I z.cal.epoch, .slice (some ⟨b, off, none⟩) n s.a, I z.cal.leap, .slice none 0 0, I z.start, .slice none 0 0, I z.hor, .slice none 0 0] 41) (.cells #[I 0, .slice none 0 0, I 0, .slice none 0 0, I 0, .slice none 0 0, I 0, .slice none 0 0] 41))
  have HR1 := Lib.hid (heap_alloc2_new w (.cells #[I z.cal.epoch, .slice (some ⟨b, off, none⟩) n s.a, I z.cal.leap, .slice none 0 0, I z.start, .slice none 0 0, I z.hor, .slice none 0 0] 41) (.cells #[I 0, .slice none 0 0, I 0, .slice none 0 0, I 0, .slice none 0 0, I 0, .slice none 0 0] 41))
  go_enter Tryz.func24, Tryz.ntmps24
  go_wp2_with fail
  refine (HCL.out _ HA0.out).mono ?_
  rintro e w1 ⟨g, c, rfl, hown, hb1⟩
  have hsz : ((w.alloc (.cells #[I z.cal.epoch, .slice (some ⟨b, off, none⟩) n s.a, I z.cal.leap, .slice none 0 0, I z.start, .slice none 0 0, I z.hor, .slice none 0 0] 41)).alloc (.cells #[I 0, .slice none 0 0, I 0, .slice none 0 0, I 0, .slice none 0 0, I 0, .slice none 0 0] 41)).heap.size = w.heap.size + 2 := by simp
  rw [hsz] at hb1 hown
  have hr1 : w1.heap[w.heap.size]? = some (.cells #[I z.cal.epoch, .slice (some ⟨b, off, none⟩) n s.a, I z.cal.leap, .slice none 0 0, I z.start, .slice none 0 0, I z.hor, .slice none 0 0] 41 (0, 0)) := (hb1.block _ (by omega)).trans HR0.out
  have hr2 : w1.heap[w.heap.size + 1]? = some (.cells #[I 0, .slice none 0 0, I 0, .slice none 0 0, I 0, .slice none 0 0, I 0, .slice none 0 0] 41 (0, 0)) := (hb1.block _ (by omega)).trans HR1.out
  have hg : w.heap.size + 2 ≤ g := by
    rcases hown.2 with ⟨h, _⟩ | ⟨g', c', cur, h, hg, _⟩
    · cases h
    · injection h with h _ _; injection h with h; injection h with h; omega
  have k1 : ∀ i, w1.cell? ⟨w.heap.size, i, none⟩ = (#[I z.cal.epoch, .slice (some ⟨b, off, none⟩) n s.a, I z.cal.leap, .slice none 0 0, I z.start, .slice none 0 0, I z.hor, .slice none 0 0] : Array Value)[i]? := fun i => cell_of_row w1 _ i _ _ _ hr1
  have f1 : ∀ i, w1.frozen? ⟨w.heap.size, i, none⟩ = false := fun i => frozen_of_row w1 _ i _ _ hr1
  have hW2 : (w1.setCell ⟨w.heap.size, 1, none⟩ (.slice (some ⟨g, 0, none⟩) n c)).heap[w.heap.size]? = some (.cells #[I z.cal.epoch, .slice (some ⟨g, 0, none⟩) n c, I z.cal.leap, .slice none 0 0, I z.start, .slice none 0 0, I z.hor, .slice none 0 0] 41 (0, 0)) := by
    rw [heap_setCell_same w1 _ 1 _ _ _ hr1]; rfl
  have k2 : ∀ i, (w1.setCell ⟨w.heap.size, 1, none⟩ (.slice (some ⟨g, 0, none⟩) n c)).cell? ⟨w.heap.size, i, none⟩ = (#[I z.cal.epoch, .slice (some ⟨g, 0, none⟩) n c, I z.cal.leap, .slice none 0 0, I z.start, .slice none 0 0, I z.hor, .slice none 0 0] : Array Value)[i]? := fun i => cell_of_row _ _ i _ _ _ hW2
  have s3 : (w1.setCell ⟨w.heap.size, 1, none⟩ (.slice (some ⟨g, 0, none⟩) n c)).setCell ⟨w.heap.size, 3, none⟩ (.slice none 0 0) = (w1.setCell ⟨w.heap.size, 1, none⟩ (.slice (some ⟨g, 0, none⟩) n c)) := setCell_same (v := .slice none 0 0) (k2 3)
  have s5 : (w1.setCell ⟨w.heap.size, 1, none⟩ (.slice (some ⟨g, 0, none⟩) n c)).setCell ⟨w.heap.size, 5, none⟩ (.slice none 0 0) = (w1.setCell ⟨w.heap.size, 1, none⟩ (.slice (some ⟨g, 0, none⟩) n c)) := setCell_same (v := .slice none 0 0) (k2 5)
  have s7 : (w1.setCell ⟨w.heap.size, 1, none⟩ (.slice (some ⟨g, 0, none⟩) n c)).setCell ⟨w.heap.size, 7, none⟩ (.slice none 0 0) = (w1.setCell ⟨w.heap.size, 1, none⟩ (.slice (some ⟨g, 0, none⟩) n c)) := setCell_same (v := .slice none 0 0) (k2 7)
  have HX2 : Hid (Row (w1.setCell ⟨w.heap.size, 1, none⟩ (.slice (some ⟨g, 0, none⟩) n c)) w.heap.size #[I z.cal.epoch, .slice (some ⟨g, 0, none⟩) n c, I z.cal.leap, .slice none 0 0, I z.start, .slice none 0 0, I z.hor, .slice none 0 0]) := Lib.hid ⟨(Array.getElem?_eq_some_iff.1 hW2).1, k2⟩
  have HY2 : Hid ((w1.setCell ⟨w.heap.size, 1, none⟩ (.slice (some ⟨g, 0, none⟩) n c)).heap[w.heap.size + 1]? = some (.cells #[I 0, .slice none 0 0, I 0, .slice none 0 0, I 0, .slice none 0 0, I 0, .slice none 0 0] 41 (0, 0))) := Lib.hid ((heap_setCell_other w1 _ _ _ (by show w.heap.size + 1 ≠ w.heap.size; omega)).trans hr2)
  have hb2 : Below (w.heap.size + 2) w1 w1 := Below.refl _ _
  have HB2 : Hid (Below w.heap.size w (w1.setCell ⟨w.heap.size, 1, none⟩ (.slice (some ⟨g, 0, none⟩) n c))) := Lib.hid ((HA0.out.trans (hb1.mono (by omega))).setCell (p := ⟨w.heap.size, 1, none⟩) (Nat.le_refl _) _)
  have HOW := Lib.hid (ownsRow_far (u := .slice (some ⟨g, 0, none⟩) n c) (p := ⟨w.heap.size, 1, none⟩) hown (by intro h; injection h with h; simp only at h; omega))
  have HG := Lib.hid hg
  clear hsz hb1 hown hr1 hr2 hg hW2 hb2 HR0 HR1 HCL HA0 k2
  go_wp2_with (first
    | (go_at_call 38; refine (cloneLeap_nil _ _).mono ?_; rintro e w2 ⟨rfl, rfl⟩)
    | (go_at_call 39; refine (cloneTrans_nil _ _).mono ?_; rintro e w2 ⟨rfl, rfl⟩)
    | (go_at_call 40; refine (cloneYear_nil _ _).mono ?_; rintro e w2 ⟨rfl, rfl⟩)
    | (with_reducible refine g_load 41 ?_; refine wpList_load_Row rfl _ _ rfl w.heap.size rfl #[I z.cal.epoch, .slice (some ⟨g, 0, none⟩) n c, I z.cal.leap, .slice none 0 0, I z.start, .slice none 0 0, I z.hor, .slice none 0 0] HX2.out _ Tryz.underlying41 rfl (by kernel_rfl) ?_)
    | (with_reducible refine g_store 41 ?_; refine wpList_store_row rfl _ _ _ rfl (w.heap.size + 1) #[I z.cal.epoch, .slice (some ⟨g, 0, none⟩) n c, I z.cal.leap, .slice none 0 0, I z.start, .slice none 0 0, I z.hor, .slice none 0 0] rfl rfl 41 #[I 0, .slice none 0 0, I 0, .slice none 0 0, I 0, .slice none 0 0, I 0, .slice none 0 0] HY2.out (by kernel_rfl) rfl (by kernel_rfl) ?_))
  refine bodyPost_ret (v := .agg #[I z.cal.epoch, .slice (some ⟨g, 0, none⟩) n c, I z.cal.leap, .slice none 0 0, I z.start, .slice none 0 0, I z.hor, .slice none 0 0]) (results_cell_row rfl _ _ (w.heap.size + 1) _ #[I z.cal.epoch, .slice (some ⟨g, 0, none⟩) n c, I z.cal.leap, .slice none 0 0, I z.start, .slice none 0 0, I z.hor, .slice none 0 0] (0, 0) _ rfl (setRow_heap _ _ _ _ _ _ HY2.out) Tryz.underlying41 rfl (by kernel_rfl)) rfl ?_
  refine ⟨g, c, ?_, ?_, below_setRow HB2.out (Nat.le_succ _) _⟩
  · unfold znCells
    rw [HN.out, HFL.out.1, HFL.out.2.1, HFL.out.2.2]; rfl
  · rw [HN.out]
    exact ownsRow_base' (ownsRow_blocks HOW.out fun k h1 _ => setRow_other _ _ k _ (by omega)) (by omega)
end Go.Proofs.YtbdkalpljhpnmaaGreat
