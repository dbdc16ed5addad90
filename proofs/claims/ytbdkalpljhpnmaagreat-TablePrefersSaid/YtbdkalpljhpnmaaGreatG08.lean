/- The texts Lk, Ll, Lm, Lo, Lp, Lq, Lr, in this order. -/
import Derived.Test.YtbdkalpljhpnmaaGreatG07
import Derived.BigQuiet
import Derived.Deep.AppendLies
import Derived.Deep.CutBlock
import Derived.Deep.DeepCutAuto
import Derived.Deep.DrawnRows
import Derived.Deep.MidRow
import Derived.Deep.QuietTactic
import Derived.Deep.RegionHeld3
import Derived.Deep.RegionLaw
import Derived.Deep.WholeRow
import Derived.Great.BuildSlice
import Derived.Handy
import Derived.Laws.BytesString
import Derived.Laws.CopyOwn
import Derived.Laws.EntriesVeiled
import Derived.Laws.MakeOwn
import Derived.Laws.ResultCell
import Derived.Laws.Rows
import Derived.Laws.Tables
import Derived.Lib.Hide
import Derived.LoopIn
import Derived.LoopNIn
import Derived.Maps.AppendAt
import Derived.Outline
import Derived.OwnWalkIn
import Derived.RangeFuncBound
import Derived.RangeFuncBox
import Derived.RangeFuncCalls
import Derived.RangeFuncLeaves
import Derived.RangeFuncNested
import Derived.Shelf.Abstract
import Derived.Shelf.Bytes.SlSmallAll
import Derived.Shelf.RegionOpen
import Derived.StillTailTactics
import Derived.Stop.BytesEq
import Derived.TacticsInMore
import Derived.WalkKit
import Derived.WalkLawsBesides
import Derived.WalkSpells
import Derived.Lib.AppendZerosOnto
/- kalendslaw14.simple, version. -/
namespace Go.Proofs.YtbdkalpljhpnmaaGreat
open Go Go.RowKit

/-- The zone of the examples. -/
def z0 : Zn := ⟨⟨0, [3], -1, []⟩, 60, [], 0, []⟩
def zs0 (mb : Nat) : Zs := ⟨some ⟨mb, 0, none⟩, 1, none, 0, none, 0, none, 0⟩
def ze0 : Ze := ⟨⟨#[97]⟩, z0⟩
def vt (n wd : Int) (b : Bool) : Tb := ⟨2, n, wd, zero32, zero32, if b then [ze0] else []⟩
def SimP (w : World) (e : Ending) (w' : World) : Prop := ∃ mb, w.heap.size ≤ mb ∧ e = .returned (.agg (znCells z0 (zs0 mb))) ∧ w'.heap[mb]? = some (.cells #[I 3] 3 (0, 0)) ∧ Below w.heap.size w w'
def VerP (w : World) (n wd : Int) (b : Bool) (e : Ending) (w' : World) : Prop :=
  ∃ A c ys, e = .returned (.agg (tbVal (vt n wd b) (.slice A ys.length c))) ∧ ZsOwn w.heap.size w' (.slice A ys.length c) ys ∧ ys.map (·.e) = (vt n wd b).zones ∧ Below w.heap.size w w'
theorem li_z0 {lo mb : Nat} {w : World} (h : w.heap[mb]? = some (.cells #[I 3] 3 (0, 0))) (hl : lo ≤ mb) : LI lo w (some ⟨mb, 0, none⟩) [3] :=
  .inr ⟨mb, 0, rfl, hl, (Array.getElem?_eq_some_iff.1 h).1, fun j hj => by
    have e : j = 0 := by simp at hj; omega
    subst e
    exact cell_of_row w mb 0 _ _ _ h⟩
theorem zs_own1 {lo g mb : Nat} {w : World} (hg : w.heap[g]? = some (.cells (⟨ze0, zs0 mb⟩ : ZeV).cells 73 (0, 0))) (hl : lo ≤ g) (hm : w.heap[mb]? = some (.cells #[I 3] 3 (0, 0))) (hm2 : lo ≤ mb) : ZsOwn lo w (.slice (some ⟨g, 0, none⟩) 1 1) [⟨ze0, zs0 mb⟩] :=
  ⟨⟨rfl, .inr ⟨g, 1, _, rfl, hl, hg, Nat.le_refl _, by unfold maxLen; omega, rfl, rfl⟩⟩, fun x hx => by rw [List.mem_singleton.1 hx]; exact li_z0 hm hm2, fun x hx => by rw [List.mem_singleton.1 hx]; exact ⟨⟨rfl, rfl⟩, ⟨rfl, rfl⟩, ⟨rfl, rfl⟩⟩, fun h => by cases h⟩
theorem zs_own0 (lo : Nat) (w : World) : ZsOwn lo w (.slice none 0 0) [] := ⟨World.ownsRow_nil _ _ _ _, (fun _ h => nomatch h), (fun _ h => nomatch h), fun _ => rfl⟩
theorem z0_flat : ZnFlat z0 := ⟨⟨⟨by decide, by decide⟩, ⟨by decide, by decide⟩, rfl, rfl, fun m hm => by rw [List.mem_singleton.1 hm]; decide⟩, ⟨by decide, by decide⟩, rfl, ⟨by decide, by decide⟩, rfl⟩
theorem vt_flat (n wd : Int) (b : Bool) (h1 : 1 ≤ n) (h2 : n ≤ 64) (h3 : 0 ≤ wd) (h4 : wd < n) : TbFlat (vt n wd b) := by
  refine ⟨⟨show (0 : Int) ≤ 2 by decide, show (2 : Int) < 16 by decide⟩, ⟨h1, h2⟩, ⟨h3, h4⟩, rfl, rfl, fun _ => rfl, by cases b <;> exact Nat.le_of_ble_eq_true rfl, fun e he => ?_, fun e he => ?_⟩
  · cases b with
    | false => cases he
    | true => rw [List.mem_singleton.1 he]; exact z0_flat
  · cases b with
    | false => cases he
    | true => rw [List.mem_singleton.1 he]; decide
theorem ver_at {lo : Nat} {w : World} {n wd : Int} {b : Bool} {A : Option Addr} {c : Nat} {ys : List ZeV} (h : ZsOwn lo w (.slice A ys.length c) ys) (he : ys.map (·.e) = (vt n wd b).zones) : TbAt w w.heap.size ⟨vt n wd b, A, c, ys⟩ := by
  refine ⟨he.symm, rfl, rfl, ⟨CellsAt.of_own h.row, fun x hx => ?_⟩⟩
  have h0 : x.e = ze0 := by
    have hm : x.e ∈ (vt n wd b).zones := by rw [← he]; exact List.mem_map_of_mem hx
    cases b with
    | false => cases hm
    | true => exact List.mem_singleton.1 hm
  have hz : x.e.z = z0 := by rw [h0]; rfl
  refine ⟨?_, ?_, ?_, ?_⟩
  · have hl := h.months x hx
    rcases hl with hl | ⟨b2, off, e1, _, h2, h3⟩
    · exact .inl (by rw [List.length_map]; exact hl)
    · refine .inr ⟨b2, off, e1, h2, fun j u hu => ?_⟩
      rw [List.getElem?_map] at hu
      cases hj : x.e.z.cal.months[j]? with
      | none => rw [hj] at hu; cases hu
      | some m =>
        rw [hj] at hu
        injection hu with hu
        rw [h3 j (List.getElem?_eq_some_iff.1 hj).1, hj, ← hu]
        rfl
  · rw [hz]; exact .inl rfl
  · rw [hz]; exact .inl rfl
  · rw [hz]; exact .inl rfl
set_option maxRecDepth 10000 in
set_option maxHeartbeats 1000000 in
theorem simple_r (w : World) : Calls Tryz.prog 27 #[] w (SimP w) := by
  go_enter Tryz.func27, Tryz.ntmps27
  have h1 : AV w.heap.size 41 zZn (w.alloc (.cells zZn 41)) := AV.new w _ _
  have h2 := h1.below (below_var _ (.cells #[I 3] 3))
  have h3 : AV (w.heap.size + 1) 3 #[I 3] ((w.alloc (.cells zZn 41)).alloc (.cells #[I 3] 3)) := ⟨heap_alloc2_new w _ _⟩
  have H2 := Lib.hid h2
  have H3 := Lib.hid h3
  clear h1 h2 h3
  go_wp2_with (first
    | ((with_reducible refine g_alloc 41 ?_); go_must (refine wpList_alloc_as rfl _ rfl zZn (by kernel_rfl) ?_))
    | ((with_reducible refine g_sto 41 ?_); go_must (refine wpList_store_row rfl _ _ _ rfl w.heap.size (znCells z0 (zs0 (w.heap.size + 1))) rfl rfl 41 zZn H2.out.var (by kernel_rfl) rfl (by kernel_rfl) ?_)))
  refine bodyPost_ret (v := .agg (znCells z0 (zs0 (w.heap.size + 1)))) (results_cell_row rfl _ _ w.heap.size _ (znCells z0 (zs0 (w.heap.size + 1))) (0, 0) _ rfl (setRow_heap _ _ _ _ _ _ H2.out.var) Tryz.underlying41 rfl (by kernel_rfl)) rfl ?_
  exact ⟨w.heap.size + 1, Nat.le_succ _, rfl, (setRow_other _ _ _ _ (by omega)).trans H3.out.var, below_setRow' (below_trans (below_var w _) (below_var _ _)) (Nat.le_refl _) _⟩
set_option maxRecDepth 10000 in
set_option maxHeartbeats 2000000 in
theorem version_f (n wd : Int) (w : World) : Calls Tryz.prog 11 #[I n, I wd, .bool false] w (VerP w n wd false) := by
  obtain ⟨T, hT⟩ : ∃ T, vt n wd false = T := ⟨_, rfl⟩
  have hTp : T.prev.length = 32 := by rw [← hT]; rfl
  have hTm : T.mac.length = 32 := by rw [← hT]; rfl
  have HT := Lib.hid hT
  have H1 : Hid (AV w.heap.size 47 (tbVal zTb (.slice none 0 0)) (((w.alloc (.cells (tbVal zTb (.slice none 0 0)) 47)).alloc (.cells (tbVal zTb (.slice none 0 0)) 47)).setRow (w.heap.size + 1) (tbVal T (.slice none 0 0)))) := Lib.hid ⟨(setRow_other _ _ _ _ (by omega)).trans (heap_alloc2_old w _ _)⟩
  have H2 : Hid (AV (w.heap.size + 1) 47 (tbVal T (.slice none 0 0)) (((w.alloc (.cells (tbVal zTb (.slice none 0 0)) 47)).alloc (.cells (tbVal zTb (.slice none 0 0)) 47)).setRow (w.heap.size + 1) (tbVal T (.slice none 0 0)))) := Lib.hid ⟨setRow_heap _ _ _ _ _ _ (heap_alloc2_new w _ _)⟩
  have HB1 : Hid (Below w.heap.size w (((w.alloc (.cells (tbVal zTb (.slice none 0 0)) 47)).alloc (.cells (tbVal zTb (.slice none 0 0)) 47)).setRow (w.heap.size + 1) (tbVal T (.slice none 0 0)))) := Lib.hid (below_setRow' (below_trans (below_var w _) (below_var _ _)) (Nat.le_succ _) _)
  have HSZ : Hid (∀ v, (Tryz.prog.info? 47).map (·.size) = some (tbVal T v).size) := Lib.hid fun v => tb_info _ v hTp hTm
  have HSE : Hid (∀ v, (tbVal zTb (.slice none 0 0)).size = (tbVal T v).size) := Lib.hid fun v => (tb_size zTb _ rfl rfl).trans (tb_size T v hTp hTm).symm
  clear hT hTp hTm
  go_enter Tryz.func11, Tryz.ntmps11
  go_upto_region 2 with (first
    | ((with_reducible refine g_alloc 47 ?_); go_must (refine wpList_alloc_nm rfl _ rfl (tbVal zTb (.slice none 0 0)) tab_zero ?_))
    | ((with_reducible refine pb_build 47 ?_); go_must (refine wpList_build_as rfl _ rfl (tbVal T (.slice none 0 0)) (by rw [← HT.out]; kernel_rfl) ?_))
    | ((with_reducible refine g_sto 47 ?_); go_must (refine wpList_store_row rfl _ _ _ rfl (w.heap.size + 1) (tbVal T (.slice none 0 0)) (congrArg (fun b => Value.pointer (some ⟨b, 0, none⟩)) (al_sz w _)) rfl 47 (tbVal zTb (.slice none 0 0)) (heap_alloc2_new w _ _) (HSZ.out _) (HSE.out _) (tbVal_one _ _ _ _) ?_)))
  generalize ((w.alloc (.cells (tbVal zTb (.slice none 0 0)) 47)).alloc (.cells (tbVal zTb (.slice none 0 0)) 47)).setRow (w.heap.size + 1) (tbVal T (.slice none 0 0)) = W1 at H1 H2 HB1 ⊢
  have hw1 := H2.out.lt
  (try simp only [Act.put, List.setIfInBounds_toArray, List.set_cons_zero, List.set_cons_succ])
  (try rw [al_sz w])
  go_wp2_with (first
    | ((with_reducible refine g_loa 47 ?_); go_must (refine wpList_load_nm rfl _ _ rfl (w.heap.size + 1) rfl (tbVal T (.slice none 0 0)) H2.out.rowU _ Tryz.underlying47 rfl (HSZ.out _) ?_))
    | ((with_reducible refine g_sto 47 ?_); go_must (refine wpList_store_row rfl _ _ _ rfl w.heap.size (tbVal T (.slice none 0 0)) rfl rfl 47 (tbVal zTb (.slice none 0 0)) H1.out.var (HSZ.out _) (HSE.out _) (tbVal_one _ _ _ _) ?_)))
  refine bodyPost_ret (v := .agg (tbVal T (.slice none 0 0))) (results_cell_row rfl _ _ w.heap.size _ (tbVal T (.slice none 0 0)) (0, 0) _ rfl (setRow_heap _ _ _ _ _ _ H1.out.var) Tryz.underlying47 rfl (HSZ.out _)) rfl ?_
  exact ⟨none, 0, [], by rw [HT.out]; rfl, zs_own0 _ _, rfl, below_setRow' HB1.out (Nat.le_refl _) _⟩
set_option maxRecDepth 10000 in
set_option maxHeartbeats 2000000 in
theorem version_t (n wd : Int) (w : World) : Calls Tryz.prog 11 #[I n, I wd, .bool true] w (VerP w n wd true) := by
  obtain ⟨T, hT⟩ : ∃ T, vt n wd false = T := ⟨_, rfl⟩
  have hTp : T.prev.length = 32 := by rw [← hT]; rfl
  have hTm : T.mac.length = 32 := by rw [← hT]; rfl
  have HT := Lib.hid hT
  have H1 : Hid (AV w.heap.size 47 (tbVal zTb (.slice none 0 0)) (((w.alloc (.cells (tbVal zTb (.slice none 0 0)) 47)).alloc (.cells (tbVal zTb (.slice none 0 0)) 47)).setRow (w.heap.size + 1) (tbVal T (.slice none 0 0)))) := Lib.hid ⟨(setRow_other _ _ _ _ (by omega)).trans (heap_alloc2_old w _ _)⟩
  have H2 : Hid (AV (w.heap.size + 1) 47 (tbVal T (.slice none 0 0)) (((w.alloc (.cells (tbVal zTb (.slice none 0 0)) 47)).alloc (.cells (tbVal zTb (.slice none 0 0)) 47)).setRow (w.heap.size + 1) (tbVal T (.slice none 0 0)))) := Lib.hid ⟨setRow_heap _ _ _ _ _ _ (heap_alloc2_new w _ _)⟩
  have HB1 : Hid (Below w.heap.size w (((w.alloc (.cells (tbVal zTb (.slice none 0 0)) 47)).alloc (.cells (tbVal zTb (.slice none 0 0)) 47)).setRow (w.heap.size + 1) (tbVal T (.slice none 0 0)))) := Lib.hid (below_setRow' (below_trans (below_var w _) (below_var _ _)) (Nat.le_succ _) _)
  have HSZ : Hid (∀ v, (Tryz.prog.info? 47).map (·.size) = some (tbVal T v).size) := Lib.hid fun v => tb_info _ v hTp hTm
  have HSE : Hid (∀ v, (tbVal zTb (.slice none 0 0)).size = (tbVal T v).size) := Lib.hid fun v => (tb_size zTb _ rfl rfl).trans (tb_size T v hTp hTm).symm
  clear hT hTp hTm
  go_enter Tryz.func11, Tryz.ntmps11
  go_upto_region 2 with (first
    | ((with_reducible refine g_alloc 47 ?_); go_must (refine wpList_alloc_nm rfl _ rfl (tbVal zTb (.slice none 0 0)) tab_zero ?_))
    | ((with_reducible refine pb_build 47 ?_); go_must (refine wpList_build_as rfl _ rfl (tbVal T (.slice none 0 0)) (by rw [← HT.out]; kernel_rfl) ?_))
    | ((with_reducible refine g_sto 47 ?_); go_must (refine wpList_store_row rfl _ _ _ rfl (w.heap.size + 1) (tbVal T (.slice none 0 0)) (congrArg (fun b => Value.pointer (some ⟨b, 0, none⟩)) (al_sz w _)) rfl 47 (tbVal zTb (.slice none 0 0)) (heap_alloc2_new w _ _) (HSZ.out _) (HSE.out _) (tbVal_one _ _ _ _) ?_)))
  generalize ((w.alloc (.cells (tbVal zTb (.slice none 0 0)) 47)).alloc (.cells (tbVal zTb (.slice none 0 0)) 47)).setRow (w.heap.size + 1) (tbVal T (.slice none 0 0)) = W1 at H1 H2 HB1 ⊢
  have hw1 := H2.out.lt
  (try simp only [Act.put, List.setIfInBounds_toArray, List.set_cons_zero, List.set_cons_succ])
  (try rw [al_sz w])
  go_wp2_with fail
  refine (simple_r W1).mono ?_
  rintro e w2 ⟨mb, hmb, rfl, hm2, hb2⟩
  rw [show znCells z0 (zs0 mb) = #[I 0, .slice (some ⟨mb, 0, none⟩) 1 1, I (-1), .slice none 0 0, I 60, .slice none 0 0, I 0, .slice none 0 0] from rfl]
  have h1 := H1.out.below hb2
  have h2 := H2.out.below hb2
  have HB2 := Lib.hid (below_trans HB1.out hb2)
  have hl2 : W1.heap.size ≤ w2.heap.size := hb2.size
  have hml : mb < w2.heap.size := (Array.getElem?_eq_some_iff.1 hm2).1
  have hbv := below_var w2 (.cells #[.string ⟨#[97]⟩, I 0, .slice (some ⟨mb, 0, none⟩) 1 1, I (-1), .slice none 0 0, I 60, .slice none 0 0, I 0, .slice none 0 0] 73)
  have h1' := (h1.below hbv).far (g := w.heap.size + 1) (by omega) 3 (.slice (some ⟨w2.heap.size, 0, none⟩) 1 1)
  have h2' := (h2.below hbv).put 3 (.slice (some ⟨w2.heap.size, 0, none⟩) 1 1)
  rw [tbVal_zones] at h2'
  have c3 : (w2.alloc (.cells #[.string ⟨#[97]⟩, I 0, .slice (some ⟨mb, 0, none⟩) 1 1, I (-1), .slice none 0 0, I 60, .slice none 0 0, I 0, .slice none 0 0] 73)).cell? ⟨w.heap.size + 1, 3, none⟩ = some (.slice none 0 0) := ((h2.below hbv).cell 3).trans (tb_get3 _ _)
  have f3 : (w2.alloc (.cells #[.string ⟨#[97]⟩, I 0, .slice (some ⟨mb, 0, none⟩) 1 1, I (-1), .slice none 0 0, I 60, .slice none 0 0, I 0, .slice none 0 0] 73)).frozen? ⟨w.heap.size + 1, 3, none⟩ = false := (h2.below hbv).froz 3
  have HO : Hid (ZsOwn (w.heap.size + 1) ((w2.alloc (.cells #[.string ⟨#[97]⟩, I 0, .slice (some ⟨mb, 0, none⟩) 1 1, I (-1), .slice none 0 0, I 60, .slice none 0 0, I 0, .slice none 0 0] 73)).setCell ⟨w.heap.size + 1, 3, none⟩ (.slice (some ⟨w2.heap.size, 0, none⟩) 1 1)) (.slice (some ⟨w2.heap.size, 0, none⟩) 1 1) [⟨ze0, zs0 mb⟩]) := Lib.hid (zs_own1 ((heap_setCell_other _ ⟨w.heap.size + 1, 3, none⟩ _ _ (by show w2.heap.size ≠ w.heap.size + 1; omega)).trans (heap_alloc_last w2 _)) (by omega) ((heap_setCell_other _ ⟨w.heap.size + 1, 3, none⟩ _ _ (by show mb ≠ w.heap.size + 1; omega)).trans ((hbv.block _ hml).trans hm2)) (by omega))
  have HB3 : Hid (Below w.heap.size w ((w2.alloc (.cells #[.string ⟨#[97]⟩, I 0, .slice (some ⟨mb, 0, none⟩) 1 1, I (-1), .slice none 0 0, I 60, .slice none 0 0, I 0, .slice none 0 0] 73)).setCell ⟨w.heap.size + 1, 3, none⟩ (.slice (some ⟨w2.heap.size, 0, none⟩) 1 1))) := Lib.hid ((below_trans HB2.out hbv).setCell (p := ⟨w.heap.size + 1, 3, none⟩) (show w.heap.size ≤ w.heap.size + 1 by omega) _)
  clear H1 H2 h1 h2 hm2 hb2 HB1 hbv
  have H1 := Lib.hid h1'
  have H2 := Lib.hid h2'
  clear h1' h2'
  go_wp2_with (first
    | ((with_reducible refine g_loa 47 ?_); go_must (refine wpList_load_nm rfl _ _ rfl (w.heap.size + 1) rfl (tbVal T (.slice (some ⟨w2.heap.size, 0, none⟩) 1 1)) H2.out.rowU _ Tryz.underlying47 rfl (HSZ.out _) ?_))
    | ((with_reducible refine g_sto 47 ?_); go_must (refine wpList_store_row rfl _ _ _ rfl w.heap.size (tbVal T (.slice (some ⟨w2.heap.size, 0, none⟩) 1 1)) rfl rfl 47 (tbVal zTb (.slice none 0 0)) H1.out.var (HSZ.out _) (HSE.out _) (tbVal_one _ _ _ _) ?_)))
  refine bodyPost_ret (v := .agg (tbVal T (.slice (some ⟨w2.heap.size, 0, none⟩) 1 1))) (results_cell_row rfl _ _ w.heap.size _ (tbVal T (.slice (some ⟨w2.heap.size, 0, none⟩) 1 1)) (0, 0) _ rfl (setRow_heap _ _ _ _ _ _ H1.out.var) Tryz.underlying47 rfl (HSZ.out _)) rfl ?_
  exact ⟨some ⟨w2.heap.size, 0, none⟩, 1, [⟨ze0, zs0 mb⟩], by rw [← HT.out]; rfl, (HO.out.of_blocks (by simp [World.setRow]) fun k h1 h2 => setRow_other _ _ k _ (by omega)).lower (Nat.le_succ _), rfl, below_setRow' HB3.out (Nat.le_refl _) _⟩
end Go.Proofs.YtbdkalpljhpnmaaGreat

/- append of made bytes, SameBytes, table.Version, table.Valid of version 0, force. -/
namespace Go.Proofs.YtbdkalpljhpnmaaGreat
open Go Go.RowKit

attribute [local go_sem] tb_get0 tb_get1 tb_get2 tb_get3
theorem zcells_rep (k : Nat) : Builtin.zeroCells (Value.cells (.int .u8 0)) k = (List.replicate k (Value.int .u8 0)).toArray := by
  apply Array.ext
  · simp [Builtin.zeroCells, Value.cells]
  · intro i h1 h2
    have e : i % 1 = 0 := Nat.mod_one i
    simp [Builtin.zeroCells, Value.cells, e]
/-- append of k zero bytes to an own list of bytes that is not empty. -/
theorem run_app_zeros (w : World) (ty : TypeId) (lo n c k : Nat) (A : Option Addr) (bs : List UInt8) (hown : BsO lo w A n c bs) (h0 : 0 < n) (hk : 0 < k) (hn : n + k ≤ 1000000) (hbase : lo ≤ w.heap.size) :
    ∃ A' c' w', (Builtin.append_ #[23, 3] ty #[.slice A n c, .int .i64 (k : Int)]).run Tryz.prog w = .ok (.slice A' (n + k) c') w' ∧ BsO lo w' A' (n + k) c' (bs ++ List.replicate k 0) ∧ RwK (.slice A n c) w (.slice A' (n + k) c') w' := by
  obtain ⟨i0, hi, hz0, hz1, hz2⟩ := info_parts info_u8
  have hl : bs.length = n := by have := hown.1; rw [List.length_map] at this; omega
  rcases hown.2 with ⟨_, h⟩ | ⟨g, cap, cur, hv, hg, hh, hnc, hcm, hcs, htk⟩
  · omega
  injection hv with hA _ hC
  subst hA hC
  have hcsz : cur.size = c := by rw [hcs, Nat.mul_one]
  have hnews : (List.replicate k (Value.int .u8 0)).length = k := List.length_replicate
  have hcell : (List.replicate k (0 : UInt8)).map Extern.Stop.cell = List.replicate k (Value.int .u8 0) := by rw [List.map_replicate]; rfl
  by_cases hroom : n + k ≤ c
  · have hst := run_storeCells_at Tryz.prog g (n * i0.size) 5 (List.replicate k (Value.int .u8 0)) 0 cur w hh (by rw [hz1, hnews, hcsz]; omega) (fun u hu => by rw [(List.mem_replicate.1 hu).2]; rfl)
    simp only [Nat.add_zero] at hst
    have hw : IntKind.i64.wrap (k : Int) = k := by rw [IntKind.wrap_i64]; omega
    have hneg : ¬ ((k : Int) < 0) := by omega
    have hkz : ¬ (k * i0.size = 0) := by rw [hz1]; omega
    have h48 : ¬ (281474976710656 < (k : Int) * (i0.bytes : Int)) := by rw [hz2]; omega
    have hrun : (Builtin.append_ #[23, 3] ty #[.slice (some ⟨g, 0, none⟩) n c, .int .i64 (k : Int)]).run Tryz.prog w = .ok (.slice (some ⟨g, 0, none⟩) (n + k) c) (w.setRow g (cur.toList.take (n * i0.size) ++ List.replicate k (Value.int .u8 0) ++ cur.toList.drop (n * i0.size + (List.replicate k (Value.int .u8 0)).length)).toArray) := by
      simp [Builtin.append_, run_underlying Tryz.underlying23, run_underlying Tryz.underlying3, sizeOf, typeInfo, zeroValue, hi, hz0, asInt, asIntOf, hw, hneg, hkz, h48, hroom, zcells_rep, Addr.add_lit, hst]
    rw [hz1, Nat.mul_one, hnews] at hrun
    rw [Nat.mul_one] at htk
    refine ⟨_, _, _, hrun, ⟨by rw [List.length_map, List.length_append, List.length_replicate, hl, Nat.mul_one], .inr ⟨g, c, _, rfl, hg, setRow_heap w g cur _ _ _ hh, hroom, hcm, ?_, ?_⟩⟩, ⟨rfl, rfl, rfl, by simp [World.setRow], fun b _ hb => setRow_other w g b _ (fun e => hb (by rw [e]; rfl)), .inl rfl⟩⟩
    · simp only [List.size_toArray, List.length_append, List.length_take, List.length_drop, List.length_replicate, Array.length_toList]
      omega
    · rw [htk, Nat.mul_one, List.map_append, hcell, List.append_assoc, ← List.append_assoc]
      exact List.take_left' (by rw [List.length_append, List.length_map, List.length_replicate, hl])
  · have holds : ∀ j u, (bs.map Extern.Stop.cell)[j]? = some u → w.drew.cell? ((⟨g, 0, none⟩ : Addr).add j) = some u := World.ownsRow.cells hown (g := g) rfl
    have hf := run_firstCells_some (P := Tryz.prog) w.drew i0.size n ⟨g, 0, none⟩ n c (bs.map Extern.Stop.cell) (by rw [List.length_map, hl, hz1, Nat.mul_one]) holds
    have hrun := Lib.run_append_grow_zeros (P := Tryz.prog) w 23 3 ty 5 i0 (.int .u8 0) .i64 .i64 Tryz.underlying23 Tryz.underlying3 hi hz0 (some ⟨g, 0, none⟩) n c (bs.map Extern.Stop.cell) hf k hk (by rw [hz1]; omega) (by omega) (by omega) (by rw [hz2]; omega) (growslice_fits (by omega) (by rw [hz2]; omega))
    have hge := grownCap_ge w (n + k) c 5
    have hcm2 := grownCap_le_maxLen w (n + k) c 5 (by unfold maxLen; omega)
    refine ⟨_, _, _, hrun, ⟨by rw [List.length_map, List.length_append, List.length_replicate, hl, Nat.mul_one], .inr ⟨w.heap.size, _, _, rfl, hbase, heap_alloc_new w.drew _, hge, hcm2, ?_, ?_⟩⟩, ⟨rfl, rfl, rfl, by simp, fun b hb _ => heap_alloc_old w.drew _ hb, .inr ⟨w.heap.size, rfl, Nat.le_refl _⟩⟩⟩
    · simp only [zcells_rep, Array.size_append, List.size_toArray, List.length_map, List.length_replicate, hl]
      omega
    · rw [zcells_rep, zcells_rep]
      simp only [Array.toList_append, List.map_append, hcell]
      exact List.take_left' (by rw [List.length_append, List.length_map, List.length_replicate, hl, Nat.mul_one])
theorem wpList_app_zeros {ops : Array Oper} {rest : List Oper} {o : Oper} {a : Act} {Q : Exit → Act → World → Prop} {w : World} (hgd : o.guard = none) (sl x : Operand)
    (ho : o.op = .call { callee := .builtin .append, args := #[sl, x], argTypes := #[23, 3] }) (lo n c k : Nat) (A : Option Addr) (bs : List UInt8) (hs : a.eval sl = .slice A n c) (hx : a.eval x = .int .i64 (k : Int)) (hown : BsO lo w A n c bs)
    (h0 : 0 < n) (hk : 0 < k) (hn : n + k ≤ 1000000) (hbase : lo ≤ w.heap.size)
    (h : ∀ A' c' w', BsO lo w' A' (n + k) c' (bs ++ List.replicate k 0) → RwK (.slice A n c) w (.slice A' (n + k) c') w' → wpList Tryz.prog ops Q rest (a.put o.dst (.slice A' (n + k) c')) w') : wpList Tryz.prog ops Q (o :: rest) a w := by
  obtain ⟨A', c', w', hr, h1, h2⟩ := run_app_zeros w o.type lo n c k A bs hown h0 hk hn hbase
  exact Lib.wpList_append_run w hgd sl x _ _ ho _ _ hs hx _ _ hr (h A' c' w' h1 h2)
set_option maxRecDepth 10000 in
set_option maxHeartbeats 1000000 in
theorem sameBytes14_r (A A2 : Option Addr) (n c c2 : Nat) (bs : List UInt8) (w : World) (hl : bs.length = n) (hn : n ≤ 1000000) (h1 : CellsAt w w.heap.size A (bs.map Extern.Stop.cell)) (h2 : CellsAt w w.heap.size A2 (bs.map Extern.Stop.cell)) :
    Calls Tryz.prog 13 #[.slice A n c, .slice A2 n c2] w (Gives (.bool true) w) := by
  have H1 := Lib.hid h1
  have H2 := Lib.hid h2
  have HL := Lib.hid hl
  clear h1 h2 hl
  go_enter Tryz.func13, Tryz.ntmps13
  go_wp2_with fail
  go_loopw [5] (fun i wr => ∃ k : Nat, k ≤ n ∧ i = I k ∧ ∃ m, wr = w.drewN m) (fun i _ => n - (intOf i).toNat)
  case atStart => exact ⟨0, Nat.zero_le _, rfl, 0, rfl⟩
  case round =>
    obtain ⟨k, hk, rfl, m, rfl⟩ := hrel
    by_cases hlt : (k : Int) < (n : Int)
    · have hk2 : k < n := by omega
      obtain ⟨b, off, rfl, hb, hc⟩ := H1.out.there (by rw [List.length_map, HL.out]; omega)
      obtain ⟨b2, off2, rfl, hb2, hc2⟩ := H2.out.there (by rw [List.length_map, HL.out]; omega)
      obtain ⟨x, hx⟩ : ∃ x, bs[k]? = some x := ⟨_, List.getElem?_eq_getElem (by rw [HL.out]; exact hk2)⟩
      have e1 : w.cell? ⟨b, off + k, none⟩ = some (.int .u8 (x.toNat : Int)) := hc k _ (by rw [List.getElem?_map, hx]; rfl)
      have e2 : w.cell? ⟨b2, off2 + k, none⟩ = some (.int .u8 (x.toNat : Int)) := hc2 k _ (by rw [List.getElem?_map, hx]; rfl)
      clear hc hc2 hx
      go_wp2_with fail
      go_quiet (fail)
      go_wp2_with fail
      go_roundw
      case rel => exact ⟨k + 1, by omega, by go_num, _, rfl⟩
      case measure => simp [intOf]; omega
    · go_wp2_with fail
      go_ret
      exact ⟨rfl, rfl, rfl, rfl, Nat.le_refl _, fun _ _ => rfl⟩
set_option maxRecDepth 10000 in
set_option maxHeartbeats 1000000 in
theorem version5_r (A : Option Addr) (n c : Nat) (w : World) (hn : n ≤ 4) : Calls Tryz.prog 16 #[.slice A n c, I 5] w (Gives (.tuple #[.agg (tbVal zTb (.slice none 0 0)), .int .i64 4]) w) := by
  have HW0 := Lib.hid (AV.new w (tbVal zTb (.slice none 0 0)) 47)
  have HB0 := Lib.hid (below_var w (.cells (tbVal zTb (.slice none 0 0)) 47))
  have HZI : Hid ((Tryz.prog.info? 47).map (·.size) = some (tbVal zTb (.slice none 0 0)).size) := Lib.hid (tb_info zTb _ rfl rfl)
  have i1 : (n : Int) < 5 := by omega
  go_enter Tryz.func16, Tryz.ntmps16
  go_wp2_with (first
    | ((with_reducible refine g_alloc 47 ?_); go_must (refine wpList_alloc_nm rfl _ rfl (tbVal zTb (.slice none 0 0)) tab_zero ?_))
    | ((with_reducible refine pb_build 47 ?_); go_must (refine wpList_build_as rfl _ rfl (tbVal zTb (.slice none 0 0)) (by kernel_rfl) ?_))
    | ((with_reducible refine g_sto 47 ?_); go_must (refine wpList_store_row rfl _ _ _ rfl w.heap.size (tbVal zTb (.slice none 0 0)) rfl rfl 47 (tbVal zTb (.slice none 0 0)) HW0.out.var HZI.out rfl (tbVal_one _ _ _ _) ?_)))
  refine bodyPost_ret (v := .tuple #[.agg (tbVal zTb (.slice none 0 0)), I 4]) (results_row_tmp rfl _ _ w.heap.size _ (tbVal zTb (.slice none 0 0)) (0, 0) _ rfl (setRow_heap _ _ _ _ _ _ HW0.out.var) Tryz.underlying47 rfl HZI.out _ rfl) rfl ?_
  exact ⟨rfl, below_setRow' HB0.out (Nat.le_refl _) _⟩
set_option maxRecDepth 10000 in
set_option maxHeartbeats 1000000 in
theorem valid0_r (t : Tb) (A : Option Addr) (n c : Nat) (w : World) (hi : 0 ≤ t.issuer ∧ t.issuer < 16) (hv : t.version < 1) : Calls Tryz.prog 17 #[.agg (tbVal t (.slice A n c))] w (Gives (.int .i64 1) w) := by
  obtain ⟨is, his⟩ : ∃ i, t.issuer = i := ⟨_, rfl⟩
  obtain ⟨ve, hve⟩ : ∃ i, t.version = i := ⟨_, rfl⟩
  have HA := Lib.hid (AV.new w (tbVal t (.slice A n c)) 47)
  have c0 : (w.alloc (.cells (tbVal t (.slice A n c)) 47)).cell? ⟨w.heap.size, 0, none⟩ = some (I is) := (HA.out.cell 0).trans (by rw [← his]; rfl)
  have c1 : (w.alloc (.cells (tbVal t (.slice A n c)) 47)).cell? ⟨w.heap.size, 1, none⟩ = some (I ve) := (HA.out.cell 1).trans (by rw [← hve]; rfl)
  rw [his] at hi
  rw [hve] at hv
  obtain ⟨i0, i1⟩ := hi
  have i2 : ¬ is < 0 := by omega
  have i3 : ¬ (16 : Int) ≤ is := by omega
  have HB := Lib.hid (below_var w (.cells (tbVal t (.slice A n c)) 47))
  clear his hve
  go_enter Tryz.func17, Tryz.ntmps17
  go_wp2_with fail
  go_ret
  exact ⟨rfl, HB.out⟩
/-- What force gives. -/
def forceF (ts : List TbV) : Int := if (curF ts).2 = false then -1 else if (curF ts).1 < 0 then -4 else ((ts[(curF ts).1.toNat]?).map (·.t.version)).getD 0
set_option maxRecDepth 10000 in
set_option maxHeartbeats 2000000 in
theorem force_r (A : Option Addr) (c n : Nat) (ts : List TbV) (w : World) (hn : ts.length = n) (hn1 : n ≤ 1000) (hl : ChLen ts) (h : ChAt w w.heap.size A ts) (hp : ∀ x ∈ ts, x.t.prev.length = 32 ∧ x.t.mac.length = 32) :
    Calls Tryz.prog 15 #[.slice A n c] w (Gives (.int .i64 (forceF ts)) w) := by
  have HC := Lib.hid (newest_any A c n ts w hn hn1 hl h)
  have HPM := Lib.hid hp
  obtain ⟨F, hF⟩ : ∃ F, forceF ts = F := ⟨_, rfl⟩
  rw [hF]
  have HF := Lib.hid hF
  clear hn hl h hp hF
  go_enter Tryz.func15, Tryz.ntmps15
  go_wp2_with fail
  refine HC.out.mono ?_
  rintro e w2 ⟨hb2, p, b, hpb, ⟨rfl, rfl⟩ | ⟨rfl, hp0, rfl⟩ | ⟨rfl, i, x, y, rfl, hx, hy, _, rfl, hO⟩⟩
  · have HE : Hid (F = -1) := Lib.hid (by rw [← HF.out]; unfold forceF; rw [hpb]; rfl)
    clear hpb
    have HV2 := Lib.hid (AV.new w2 (tbVal zTb (.slice none 0 0)) 47)
    have HB2 := Lib.hid (below_trans hb2 (below_var w2 (.cells (tbVal zTb (.slice none 0 0)) 47)))
    have HW := Lib.hid hb2.size
    clear hb2
    rw [zTb_cells]
    go_wp2_with (first
      | ((with_reducible refine g_alloc 47 ?_); go_must (refine wpList_alloc_nm rfl _ rfl (tbVal zTb (.slice none 0 0)) tab_zero ?_))
      | ((with_reducible refine g_sto 47 ?_); go_must (refine wpList_store_row rfl _ _ _ rfl w2.heap.size (tbVal zTb (.slice none 0 0)) rfl rfl 47 (tbVal zTb (.slice none 0 0)) HV2.out.var (tb_info zTb _ rfl rfl) rfl (tbVal_one _ _ _ _) ?_)))
    go_ret
    exact ⟨by rw [HE.out]; rfl, below_setRow' HB2.out HW.out _⟩
  · have HE : Hid (F = -4) := Lib.hid (by rw [← HF.out]; unfold forceF; rw [hpb]; simp [hp0])
    clear hpb hp0
    have HV2 := Lib.hid (AV.new w2 (tbVal zTb (.slice none 0 0)) 47)
    have HB2 := Lib.hid (below_trans hb2 (below_var w2 (.cells (tbVal zTb (.slice none 0 0)) 47)))
    have HW := Lib.hid hb2.size
    clear hb2
    rw [zTb_cells]
    go_wp2_with (first
      | ((with_reducible refine g_alloc 47 ?_); go_must (refine wpList_alloc_nm rfl _ rfl (tbVal zTb (.slice none 0 0)) tab_zero ?_))
      | ((with_reducible refine g_sto 47 ?_); go_must (refine wpList_store_row rfl _ _ _ rfl w2.heap.size (tbVal zTb (.slice none 0 0)) rfl rfl 47 (tbVal zTb (.slice none 0 0)) HV2.out.var (tb_info zTb _ rfl rfl) rfl (tbVal_one _ _ _ _) ?_)))
    go_ret
    exact ⟨by rw [HE.out]; rfl, below_setRow' HB2.out HW.out _⟩
  · have HE : Hid (F = x.t.version) := Lib.hid (by rw [← HF.out]; unfold forceF; rw [hpb]; simp [hx]; intro h; omega)
    have hq := HPM.out x (List.mem_of_getElem? hx)
    obtain ⟨T, hT⟩ : ∃ T, y.t = T := ⟨_, rfl⟩
    have hTx : T = x.t := hT.symm.trans hy
    rw [hT]
    have HSZ : Hid ((Tryz.prog.info? 47).map (·.size) = some (tbVal T (.slice y.A y.zs.length y.c)).size) := Lib.hid (tb_info T _ (by rw [hTx]; exact hq.1) (by rw [hTx]; exact hq.2))
    have HSE : Hid ((tbVal zTb (.slice none 0 0)).size = (tbVal T (.slice y.A y.zs.length y.c)).size) := Lib.hid ((tb_size zTb _ rfl rfl).trans (tb_size T _ (by rw [hTx]; exact hq.1) (by rw [hTx]; exact hq.2)).symm)
    obtain ⟨ve, hve⟩ : ∃ v, T.version = v := ⟨_, rfl⟩
    have HVE : Hid (F = ve) := Lib.hid (by rw [HE.out, ← hve, hTx])
    have HV2 := Lib.hid ((AV.new w2 (tbVal zTb (.slice none 0 0)) 47))
    have HB2 := Lib.hid (below_setRow' (below_trans hb2 (below_var w2 (.cells (tbVal zTb (.slice none 0 0)) 47))) hb2.size (tbVal T (.slice y.A y.zs.length y.c)))
    have HV3 := Lib.hid (HV2.out.rowS (tbVal T (.slice y.A y.zs.length y.c)))
    have c1 : ((w2.alloc (.cells (tbVal zTb (.slice none 0 0)) 47)).setRow w2.heap.size (tbVal T (.slice y.A y.zs.length y.c))).cell? ⟨w2.heap.size, 1, none⟩ = some (I ve) := (HV3.out.cell 1).trans (by rw [← hve]; rfl)
    clear hb2 hpb hx hy hO hq hT hTx hve
    go_wp2_with (first
      | ((with_reducible refine g_alloc 47 ?_); go_must (refine wpList_alloc_nm rfl _ rfl (tbVal zTb (.slice none 0 0)) tab_zero ?_))
      | ((with_reducible refine g_sto 47 ?_); go_must (refine wpList_store_row rfl _ _ _ rfl w2.heap.size (tbVal T (.slice y.A y.zs.length y.c)) rfl rfl 47 (tbVal zTb (.slice none 0 0)) HV2.out.var HSZ.out HSE.out (tbVal_one _ _ _ _) ?_)))
    go_ret
    exact ⟨by rw [HVE.out]; rfl, HB2.out⟩
end Go.Proofs.YtbdkalpljhpnmaaGreat

/- kalendsref14.Same of two equal tables. -/
namespace Go.Proofs.YtbdkalpljhpnmaaGreat
open Go Go.RowKit

attribute [local go_sem] tb_get0 tb_get1 tb_get2 tb_get3
section
variable {P : Program} {ops : Array Oper} {a : Act} {w : World} {rest : List Oper} {o : Oper}
theorem wpStill_load_mid14 {Q : Act → Prop} (hw : Region.wanted o (yielded ops a.tmps) = true) (ty : TypeId) (x : Operand) (ho : o.op = .load ty x) (g off : Nat) (hx : a.eval x = .pointer (some ⟨g, off, none⟩)) (cs : List Value) (hr : w.rangeAt g off cs)
    (d : TypeDesc) (hu : P.underlying ty = some d) (hd : d.isRow = true) (hi : (P.info? ty).map (·.size) = some cs.length)
    (h : wpStill P ops w Q rest (a.put o.dst (.agg cs.toArray))) : wpStill P ops w Q (o :: rest) a := by
  refine wpStill_step fun K hK => ?_
  rw [if_pos hw]
  unfold Oper.still execOp
  simp only [ho, hx, Instr.loadAt, Instr.sureAddr, Sem.run_bind, Sem.run_pure, Result.andThen_ok, run_loadVar_mid w g off ty cs d hr hu hd hi]
  exact ⟨rfl, hK _ h⟩
end
theorem neq_dig14 (r : List UInt8) (h : r.length = 32) (W : World) : (binOp .neq 29 (.agg (refCells r).toArray) (.agg (refCells r).toArray)).run Tryz.prog W = .ok (.bool false) W := by
  unfold refCells
  rw [run_neq_struct, Go.Proofs.YtbdkalpljhpnmaaGreat.run_equalIn_bytes14 W r h]
  simp [Result.andThen]
theorem ze_tail (x : ZeV) : ∀ j u, (znCells x.e.z x.s).toList[j]? = some u → x.cells.toList[1 + j]? = some u := fun j u hu => by
  rw [Nat.add_comm]
  exact hu
set_option maxRecDepth 10000 in
set_option maxHeartbeats 2000000 in
theorem same14_r (t : Tb) (A1 A2 : Option Addr) (c1 c2 n : Nat) (ys1 ys2 : List ZeV) (zs : List Ze) (w : World) (hp : t.prev.length = 32) (hm : t.mac.length = 32) (h1 : ys1.map (·.e) = zs) (h2 : ys2.map (·.e) = zs) (hn : zs.length = n) (hn1 : n ≤ 1000) (hl : ∀ e ∈ zs, ZnLen e.z) (m1 : ZesC w w.heap.size A1 ys1) (m2 : ZesC w w.heap.size A2 ys2) :
    Calls Tryz.prog 14 #[.agg (tbVal t (.slice A1 n c1)), .agg (tbVal t (.slice A2 n c2))] w (Gives (.bool true) w) := by
  have HV := Lib.hid (TwoV.start w 47 (tbVal t (.slice A1 n c1)) (tbVal t (.slice A2 n c2)))
  have l1 : ys1.length = n := by rw [← hn, ← h1, List.length_map]
  have l2 : ys2.length = n := by rw [← hn, ← h2, List.length_map]
  obtain ⟨W0, hW0⟩ : ∃ W0, (w.alloc (.cells (tbVal t (.slice A1 n c1)) 47)).alloc (.cells (tbVal t (.slice A2 n c2)) 47) = W0 := ⟨_, rfl⟩
  rw [hW0] at HV
  have HW0 := Lib.hid hW0
  have HL1 := Lib.hid l1
  have HL2 := Lib.hid l2
  have HE1 := Lib.hid h1
  have HE2 := Lib.hid h2
  have HM1 := Lib.hid m1
  have HM2 := Lib.hid m2
  have HLE := Lib.hid hl
  have nq1 := neq_dig14 t.prev hp
  have nq2 := neq_dig14 t.mac hm
  have HP1 := Lib.hid (tb_prev t _ HV.out.a)
  have HP2 := Lib.hid (tb_prev t _ HV.out.b)
  have HQ1 := Lib.hid (tb_mac t _ HV.out.a hp)
  have HQ2 := Lib.hid (tb_mac t _ HV.out.b hp)
  have H32 : Hid ((Tryz.prog.info? 29).map (·.size) = some (refCells t.prev).length) := Lib.hid (by simp only [refCells, List.length_map, hp]; kernel_rfl)
  have H33 : Hid ((Tryz.prog.info? 29).map (·.size) = some (refCells t.mac).length) := Lib.hid (by simp only [refCells, List.length_map, hm]; kernel_rfl)
  have p0 := HV.out.a.2
  have p1 := HV.out.b.2
  clear hn h1 h2 m1 m2 hl hp hm l1 l2 hW0
  go_enter Tryz.func14, Tryz.ntmps14
  go_upto_region 1 with fail
  rw [HW0.out]
  go_wp2_with (first
    | ((with_reducible refine g_load 29 ?_); go_must (first
        | (refine wpList_load_Mid rfl _ _ rfl w.heap.size 4 rfl (refCells t.prev) HP1.out _ Tryz.underlying29 rfl H32.out ?_)
        | (refine wpList_load_Mid rfl _ _ rfl (w.heap.size + 1) 4 rfl (refCells t.prev) HP2.out _ Tryz.underlying29 rfl H32.out ?_)
        | (refine wpList_load_Mid rfl _ _ rfl w.heap.size 36 rfl (refCells t.mac) HQ1.out _ Tryz.underlying29 rfl H33.out ?_)
        | (refine wpList_load_Mid rfl _ _ rfl (w.heap.size + 1) 36 rfl (refCells t.mac) HQ2.out _ Tryz.underlying29 rfl H33.out ?_))))
  go_loopw [5] (fun i wr => TwoRel w 47 (tbVal t (.slice A1 n c1)) (tbVal t (.slice A2 n c2)) n i wr) (fun i _ => n - (intOf i).toNat)
  case atStart => exact ⟨0, Nat.zero_le _, rfl, HV.out⟩
  case round =>
    clear p0 p1 nq1 nq2
    obtain ⟨k, hk, rfl, hv⟩ := hrel
    have HVR := Lib.hid hv
    have p3 : wr.cell? ⟨w.heap.size, 3, none⟩ = some (.slice A1 n c1) := (hv.a.2 3).trans (tb_get3 _ _)
    have q3 : wr.cell? ⟨w.heap.size + 1, 3, none⟩ = some (.slice A2 n c2) := (hv.b.2 3).trans (tb_get3 _ _)
    clear hv
    by_cases hlt : (k : Int) < (n : Int)
    · have hk2 : k < n := by omega
      obtain ⟨x1, hx1⟩ : ∃ x, ys1[k]? = some x := ⟨_, List.getElem?_eq_getElem (by rw [HL1.out]; exact hk2)⟩
      obtain ⟨x2, hx2⟩ : ∃ x, ys2[k]? = some x := ⟨_, List.getElem?_eq_getElem (by rw [HL2.out]; exact hk2)⟩
      have he : x1.e = x2.e := by
        have a1 : zs[k]? = some x1.e := by rw [← HE1.out, List.getElem?_map, hx1]; rfl
        have a2 : zs[k]? = some x2.e := by rw [← HE2.out, List.getElem?_map, hx2]; rfl
        rw [a1] at a2
        injection a2
      have hel : ZnLen x1.e.z := HLE.out _ (by rw [← HE1.out]; exact List.mem_map_of_mem (List.mem_of_getElem? hx1))
      have z1 := HM1.out.each x1 (List.mem_of_getElem? hx1)
      have z2 := HM2.out.each x2 (List.mem_of_getElem? hx2)
      obtain ⟨b, off, rfl, hb, hc⟩ := HM1.out.row.there (by rw [zecells_len, HL1.out]; omega)
      obtain ⟨b2, off2, rfl, hb2, hc2⟩ := HM2.out.row.there (by rw [zecells_len, HL2.out]; omega)
      have r1 : wr.rangeAt b (off + k * 9) x1.cells.toList := rangeAt_keep (CellsAt.elem (s := 9) (f := fun x : ZeV => x.cells.toList) (fun _ _ => rfl) hc k x1 hx1) HVR.out.up hb
      have r2 : wr.rangeAt b2 (off2 + k * 9) x2.cells.toList := rangeAt_keep (CellsAt.elem (s := 9) (f := fun x : ZeV => x.cells.toList) (fun _ _ => rfl) hc2 k x2 hx2) HVR.out.up hb2
      obtain ⟨nm, hnm⟩ : ∃ s, x1.e.name = s := ⟨_, rfl⟩
      have e1 : wr.cell? ⟨b, off + k * 9, none⟩ = some (.string nm) := by rw [← hnm]; exact r1 0 _ rfl
      have e2 : wr.cell? ⟨b2, off2 + k * 9, none⟩ = some (.string nm) := by rw [← hnm, he]; exact r2 0 _ rfl
      have R1 : Hid (wr.drew.rangeAt b (off + k * 9 + 1) (znCells x1.e.z x1.s).toList) := Lib.hid (fun j u hu => by rw [Nat.add_assoc]; exact r1 (1 + j) u (ze_tail x1 j u hu))
      have R2 : Hid (wr.drew.rangeAt b2 (off2 + k * 9 + 1) (znCells x1.e.z x2.s).toList) := Lib.hid (fun j u hu => by rw [he] at hu; rw [Nat.add_assoc]; exact r2 (1 + j) u (ze_tail x2 j u hu))
      have ZI : Hid (∀ s, (Tryz.prog.info? 41).map (·.size) = some (znCells x1.e.z s).toList.length) := Lib.hid (fun s => by kernel_rfl)
      have HS : Hid (Calls Tryz.prog 9 #[.agg (znCells x1.e.z x1.s), .agg (znCells x1.e.z x2.s)] wr.drew (Gives (.bool true) wr.drew)) := Lib.hid (sameZone_self x1.e.z x1.s x2.s _ _ wr.drew hel rfl rfl ((z1.keep (HVR.out.drew 1).up).more (HVR.out.drew 1).up.size) (by rw [he]; exact (z2.keep (HVR.out.drew 1).up).more (HVR.out.drew 1).up.size))
      clear hx1 hx2 he hel z1 z2 hc hc2 r1 r2 hnm
      go_wp2_with fail
      refine wp_region_still_tail 26 (by kernel_rfl) (by kernel_rfl) ?_
      simp only [List.take_succ_cons, List.take_zero, List.drop_succ_cons, List.drop_zero]
      iterate 19 still_step
      refine wpStill_load_mid14 rfl _ _ rfl b (off + k * 9 + 1) rfl (znCells x1.e.z x1.s).toList R1.out _ Tryz.underlying41 rfl (ZI.out _) ?_
      iterate 5 still_step
      refine wpStill_load_mid14 rfl _ _ rfl b2 (off2 + k * 9 + 1) rfl (znCells x1.e.z x2.s).toList R2.out _ Tryz.underlying41 rfl (ZI.out _) ?_
      refine wpStill_nil ?_
      change wpList _ _ _ _ _ wr.drew
      go_wp2_with fail
      refine HS.out.mono ?_
      rintro e w3 ⟨rfl, hb3⟩
      have HV3 : Hid (TwoV w 47 (tbVal t (.slice (some ⟨b, off, none⟩) n c1)) (tbVal t (.slice (some ⟨b2, off2, none⟩) n c2)) w3) := Lib.hid ((HVR.out.drew 1).below hb3)
      clear hb3 e1 e2 p3 q3
      go_wp2_with fail
      go_roundw
      case rel => exact ⟨k + 1, by omega, by go_num, HV3.out⟩
      case measure => simp [intOf]; omega
    · go_wp2_with fail
      go_ret
      exact ⟨rfl, HVR.out.up⟩
end Go.Proofs.YtbdkalpljhpnmaaGreat

/- plain facts of the examples in kalendslaw14.sanity. -/
namespace Go.Proofs.YtbdkalpljhpnmaaGreat
open Go Go.RowKit

theorem z0_len : ZnLen z0 := ⟨by decide, by decide, by decide, by decide⟩
theorem ver_t1 {n wd : Int} {ys : List ZeV} (h : ys.map (·.e) = (vt n wd true).zones) : ∃ s, ys = [⟨ze0, s⟩] := by
  have h2 : ys.map (·.e) = [ze0] := h
  cases ys with
  | nil => cases h2
  | cons x r =>
    rw [List.map_cons] at h2
    injection h2 with h3 h4
    have hr : r = [] := List.map_eq_nil_iff.1 h4
    subst hr
    exact ⟨x.s, by rw [← h3]⟩
theorem ver_f0 {n wd : Int} {ys : List ZeV} (h : ys.map (·.e) = (vt n wd false).zones) : ys = [] := by
  match ys, h with
  | [], _ => rfl
/-- A version with the zone, without it. -/
def yT (n wd : Int) (A : Option Addr) (c : Nat) (s : Zs) : TbV := ⟨vt n wd true, A, c, [⟨ze0, s⟩]⟩
def yF (n wd : Int) (A : Option Addr) (c : Nat) : TbV := ⟨vt n wd false, A, c, []⟩
theorem verT (n wd : Int) (w : World) : Calls Tryz.prog 11 #[I n, I wd, .bool true] w fun e w' => ∃ A c s, e = .returned (.agg (yT n wd A c s).cells.toArray) ∧ TbAt w' w'.heap.size (yT n wd A c s) ∧ Below w.heap.size w w' :=
  (version_t n wd w).mono (fun e w' ⟨A, c, ys, h1, h2, h3, h4⟩ => by
    obtain ⟨s, rfl⟩ := ver_t1 h3
    exact ⟨A, c, s, h1, ver_at h2 h3, h4⟩)
theorem verF (n wd : Int) (w : World) : Calls Tryz.prog 11 #[I n, I wd, .bool false] w fun e w' => ∃ A c, e = .returned (.agg (yF n wd A c).cells.toArray) ∧ TbAt w' w'.heap.size (yF n wd A c) ∧ Below w.heap.size w w' :=
  (version_f n wd w).mono (fun e w' ⟨A, c, ys, h1, h2, h3, h4⟩ => by
    obtain rfl := ver_f0 h3
    exact ⟨A, c, h1, ver_at h2 h3, h4⟩)
theorem yT_size (n wd : Int) (A : Option Addr) (c : Nat) (s : Zs) : (yT n wd A c s).cells.length = 68 := rfl
theorem yF_size (n wd : Int) (A : Option Addr) (c : Nat) : (yF n wd A c).cells.length = 68 := rfl
theorem yT_len (n wd : Int) (A : Option Addr) (c : Nat) (s : Zs) : (yT n wd A c s).zs.length ≤ 1000 ∧ ∀ y ∈ (yT n wd A c s).zs, ZnLen y.e.z := ⟨Nat.le_of_ble_eq_true rfl, fun y hy => by rw [List.mem_singleton.1 hy]; exact z0_len⟩
theorem yF_len (n wd : Int) (A : Option Addr) (c : Nat) : (yF n wd A c).zs.length ≤ 1000 ∧ ∀ y ∈ (yF n wd A c).zs, ZnLen y.e.z := ⟨Nat.zero_le _, fun _ h => nomatch h⟩
theorem yT_pm (n wd : Int) (A : Option Addr) (c : Nat) (s : Zs) : (yT n wd A c s).t.prev.length = 32 ∧ (yT n wd A c s).t.mac.length = 32 := ⟨rfl, rfl⟩
theorem yF_pm (n wd : Int) (A : Option Addr) (c : Nat) : (yF n wd A c).t.prev.length = 32 ∧ (yF n wd A c).t.mac.length = 32 := ⟨rfl, rfl⟩
/-- The cells of tables. -/
def tabsC (ys : List TbV) : Array Value := (ys.flatMap TbV.cells).toArray
section
variable {ops : Array Oper} {rest : List Oper} {o : Oper} {a : Act} {Q : Exit → Act → World → Prop} {w : World}
theorem wpList_tabs4 (hgd : o.guard = none) (x0 x1 x2 x3 : Operand) (ho : o.op = .buildSlice 26 4 #[(0, x0), (1, x1), (2, x2), (3, x3)]) (y0 y1 y2 y3 : TbV) (h0 : y0.cells.length = 68) (h1 : y1.cells.length = 68) (h2 : y2.cells.length = 68) (h3 : y3.cells.length = 68)
    (e0 : a.eval x0 = .agg y0.cells.toArray) (e1 : a.eval x1 = .agg y1.cells.toArray) (e2 : a.eval x2 = .agg y2.cells.toArray) (e3 : a.eval x3 = .agg y3.cells.toArray)
    (h : wpList Tryz.prog ops Q rest (a.put o.dst (.slice (some ⟨w.heap.size, 0, none⟩) 4 4)) (w.alloc (.cells (tabsC [y0, y1, y2, y3]) 47))) : wpList Tryz.prog ops Q (o :: rest) a w := by
  obtain ⟨i0, hi, hz0, hz1, hz2⟩ := info_parts info_tab14
  refine wpList_buildSlice hgd 26 47 4 _ ho ([y0, y1, y2, y3].flatMap TbV.cells).toArray i0 (.agg (tbVal zTb (.slice none 0 0))) Tryz.underlying26 hi hz0 (by rw [hz1]; decide) (by rw [hz1]; decide) ?_ h
  rw [hz1]
  simp only [List.map_toArray, List.map_cons, List.map_nil, e0, e1, e2, e3]
  have h := Go.Great.fill_whole (s := 68) (by omega) [.agg y0.cells.toArray, .agg y1.cells.toArray, .agg y2.cells.toArray, .agg y3.cells.toArray] ((Array.range (4 * 68)).map ((Value.agg (tbVal zTb (.slice none 0 0))).cells[· % (Value.agg (tbVal zTb (.slice none 0 0))).cells.size]!)) (fun v hv => by
    simp at hv
    rcases hv with rfl | rfl | rfl | rfl <;> simp [Value.cells, h0, h1, h2, h3]) (by simp)
  have e : ([Value.agg y0.cells.toArray, .agg y1.cells.toArray, .agg y2.cells.toArray, .agg y3.cells.toArray].flatMap fun v => v.cells.toList).toArray = ([y0, y1, y2, y3].flatMap TbV.cells).toArray := by simp [Value.cells]
  rw [e] at h
  exact h
theorem wpList_tabs2 (hgd : o.guard = none) (x0 x1 : Operand) (ho : o.op = .buildSlice 26 2 #[(0, x0), (1, x1)]) (y0 y1 : TbV) (h0 : y0.cells.length = 68) (h1 : y1.cells.length = 68)
    (e0 : a.eval x0 = .agg y0.cells.toArray) (e1 : a.eval x1 = .agg y1.cells.toArray)
    (h : wpList Tryz.prog ops Q rest (a.put o.dst (.slice (some ⟨w.heap.size, 0, none⟩) 2 2)) (w.alloc (.cells (tabsC [y0, y1]) 47))) : wpList Tryz.prog ops Q (o :: rest) a w := by
  obtain ⟨i0, hi, hz0, hz1, hz2⟩ := info_parts info_tab14
  refine wpList_buildSlice hgd 26 47 2 _ ho ([y0, y1].flatMap TbV.cells).toArray i0 (.agg (tbVal zTb (.slice none 0 0))) Tryz.underlying26 hi hz0 (by rw [hz1]; decide) (by rw [hz1]; decide) ?_ h
  rw [hz1]
  simp only [List.map_toArray, List.map_cons, List.map_nil, e0, e1]
  have h := Go.Great.fill_whole (s := 68) (by omega) [.agg y0.cells.toArray, .agg y1.cells.toArray] ((Array.range (2 * 68)).map ((Value.agg (tbVal zTb (.slice none 0 0))).cells[· % (Value.agg (tbVal zTb (.slice none 0 0))).cells.size]!)) (fun v hv => by
    simp at hv
    rcases hv with rfl | rfl <;> simp [Value.cells, h0, h1]) (by simp)
  have e : ([Value.agg y0.cells.toArray, .agg y1.cells.toArray].flatMap fun v => v.cells.toList).toArray = ([y0, y1].flatMap TbV.cells).toArray := by simp [Value.cells]
  rw [e] at h
  exact h
end
theorem chain_new (ys : List TbV) (W : World) (h : ∀ y ∈ ys, TbAt W W.heap.size y) : ChAt (W.alloc (.cells (tabsC ys) 47)) (W.alloc (.cells (tabsC ys) 47)).heap.size (some ⟨W.heap.size, 0, none⟩) ys := by
  refine ⟨.inr ⟨W.heap.size, 0, rfl, by simp, fun j u hu => ?_⟩, fun y hy => (h y hy).grow (below_var W _)⟩
  rw [Nat.zero_add, cell_of_row _ _ j _ _ _ (heap_alloc_last W _)]
  unfold tabsC
  simpa using hu
theorem ChAt.take {w : World} {B : Nat} {A : Option Addr} {ts : List TbV} (h : ChAt w B A ts) (k : Nat) : ChAt w B A (ts.take k) := by
  refine ⟨?_, fun y hy => h.each y (List.mem_of_mem_take hy)⟩
  rcases h.row with h | ⟨b, off, h1, h2, h3⟩
  · refine .inl (List.eq_nil_iff_length_eq_zero.1 ?_)
    have e := List.eq_nil_of_length_eq_zero h
    rw [List.flatMap_eq_nil_iff] at e ⊢
    exact fun x hx => e x (List.mem_of_mem_take hx)
  · refine .inr ⟨b, off, h1, h2, fun j u hu => h3 j u ?_⟩
    have e : ts.flatMap TbV.cells = (ts.take k).flatMap TbV.cells ++ (ts.drop k).flatMap TbV.cells := by rw [← List.flatMap_append, List.take_append_drop]
    rw [e, List.getElem?_append_left (List.getElem?_eq_some_iff.1 hu).1]
    exact hu
theorem ChAt.tail {w : World} {B b off : Nat} {y : TbV} {ts : List TbV} (h : ChAt w B (some ⟨b, off, none⟩) (y :: ts)) (hy : y.cells.length = 68) : ChAt w B (some ⟨b, off + 68, none⟩) ts := by
  refine ⟨?_, fun z hz => h.each z (List.mem_cons_of_mem _ hz)⟩
  rcases h.row with h | ⟨b2, off2, h1, h2, h3⟩
  · rw [List.flatMap_cons, List.length_append, hy] at h
    omega
  · injection h1 with h1
    injection h1 with h1 h4
    subst h1 h4
    refine .inr ⟨b, off + 68, rfl, h2, fun j u hu => ?_⟩
    rw [Nat.add_assoc]
    exact h3 (68 + j) u (by rw [List.flatMap_cons, List.getElem?_append_right (by omega), hy, show 68 + j - 68 = j by omega]; exact hu)
theorem zfind_a : zFind [ze0] ⟨#[97]⟩ = some z0 := by
  have e : nmEq ze0.name ⟨#[97]⟩ = true := by decide +kernel
  unfold zFind
  rw [List.find?_cons, e]
  rfl
theorem zfind_b : zFind [ze0] ⟨#[98]⟩ = none := by
  have e : nmEq ze0.name ⟨#[98]⟩ = false := by decide +kernel
  unfold zFind
  rw [List.find?_cons, e]
  rfl
section
variable (A1 A2 A3 A4 B1 B2 : Option Addr) (c1 c2 c3 c4 d1 d2 : Nat) (s1 s2 s4 : Zs)
theorem force_l3 : forceF [yT 1 0 A1 c1 s1, yT 2 0 A2 c2 s2, yF 3 2 A3 c3] = 1 := by rfl
theorem force_l4 : forceF [yT 1 0 A1 c1 s1, yT 2 0 A2 c2 s2, yF 3 2 A3 c3, yF 4 3 A4 c4] = 2 := by rfl
theorem force_m4 : forceF [yT 1 0 A1 c1 s1, yT 2 0 A2 c2 s2, yF 3 2 A3 c3, yT 4 0 A4 c4 s4] = 4 := by rfl
theorem force_n2 : forceF [yF 1 0 B1 d1, yF 2 1 B2 d2] = -4 := by rfl
theorem force_t3 : forceF [yT 2 0 A2 c2 s2, yF 3 2 A3 c3, yF 4 3 A4 c4] = -1 := by rfl
theorem force_0 : forceF [] = -4 := by rfl
theorem pick_l : pick [yT 1 0 A1 c1 s1, yT 2 0 A2 c2 s2, yF 3 2 A3 c3, yF 4 3 A4 c4] ⟨#[97]⟩ = some z0 := by
  have e : curF [yT 1 0 A1 c1 s1, yT 2 0 A2 c2 s2, yF 3 2 A3 c3, yF 4 3 A4 c4] = (1, true) := rfl
  unfold pick
  rw [e]
  exact zfind_a
theorem pick_n : pick [yF 1 0 B1 d1, yF 2 1 B2 d2] ⟨#[97]⟩ = none := by rfl
end
end Go.Proofs.YtbdkalpljhpnmaaGreat

/- plain facts: table.Prefer on the two chains of the examples. -/
namespace Go.Proofs.YtbdkalpljhpnmaaGreat
open Go Go.RowKit

theorem prefA {w w' : World} {e : Ending} {A A' : Option Addr} {c c' : Nat} {LS NS : List TbV} {nm : ByteArray} (hL : pick LS nm = some z0) (hN : pick NS nm = none) (h : PrefP w [⟨A, c, LS⟩, ⟨A', c', NS⟩] [1, 0] nm e w') :
    Below w.heap.size w w' ∧ ∃ s, e = .returned (.tuple #[.agg (znCells z0 s), I 0, I 0]) := by
  have p1 : pk [⟨A, c, LS⟩, ⟨A', c', NS⟩] nm 1 = none := hN
  have p0 : pk [⟨A, c, LS⟩, ⟨A', c', NS⟩] nm 0 = some z0 := hL
  obtain ⟨hb, ⟨⟨k, hk, hn⟩, _⟩ | ⟨_, ⟨hall, _⟩ | ⟨j, k, z, s, hj, hp, _, he, _⟩⟩⟩ := h
  · exfalso
    apply hn
    simp only [List.mem_cons, List.not_mem_nil, or_false] at hk
    rcases hk with rfl | rfl
    · exact ⟨by decide, by show (1 : Int) < 2; decide⟩
    · exact ⟨by decide, by show (0 : Int) < 2; decide⟩
  · have := hall 0 (by simp)
    rw [p0] at this
    cases this
  · have hjl : j < 2 := (List.getElem?_eq_some_iff.1 hj).1
    rcases Nat.lt_succ_iff_lt_or_eq.1 hjl with h0 | rfl
    · have e0 : j = 0 := by omega
      subst e0
      injection hj with hj
      subst hj
      rw [p1] at hp
      cases hp
    · injection hj with hj
      subst hj
      rw [p0] at hp
      injection hp with hp
      subst hp
      exact ⟨hb, s, he⟩
theorem prefB {w w' : World} {e : Ending} {A A' : Option Addr} {c c' : Nat} {LS NS : List TbV} {nm : ByteArray} (h : PrefP w [⟨A, c, LS⟩, ⟨A', c', NS⟩] [2] nm e w') :
    Below w.heap.size w w' ∧ e = .returned (.tuple #[.agg zZn, I 0, I 1]) := by
  obtain ⟨hb, ⟨_, he⟩ | ⟨hall, _⟩⟩ := h
  · exact ⟨hb, he⟩
  · have := hall 2 (by simp)
    exact absurd this.2 (by show ¬ ((2 : Int) < 2); decide)
theorem cs_new (W : World) (cs : List ChV) (vs : Array Value) (t : TypeId) (h : vs.toList = cs.map ChV.cell) (he : ∀ x ∈ cs, ChAt W W.heap.size x.A x.ts) : CsAt (W.alloc (.cells vs t)) (W.alloc (.cells vs t)).heap.size (some ⟨W.heap.size, 0, none⟩) cs := by
  refine ⟨.inr ⟨W.heap.size, 0, rfl, by simp, fun j u hu => ?_⟩, fun x hx => (he x hx).grow (below_var W _)⟩
  rw [Nat.zero_add, cell_of_row _ _ j _ _ _ (heap_alloc_last W _), ← Array.getElem?_toList, h]
  exact hu
theorem ints_new (W : World) (zs : List Int) (vs : Array Value) (t : TypeId) (h : vs.toList = zs.map I) : IntsAt (W.alloc (.cells vs t)) (W.alloc (.cells vs t)).heap.size (some ⟨W.heap.size, 0, none⟩) zs := by
  refine CellsAt.ints (.inr ⟨W.heap.size, 0, rfl, by simp, fun j u hu => ?_⟩)
  rw [Nat.zero_add, cell_of_row _ _ j _ _ _ (heap_alloc_last W _), ← Array.getElem?_toList, h]
  exact hu
theorem zoneB {w w' : World} {e : Ending} (h : ZoneP w [ze0] ⟨#[98]⟩ e w') : Below w.heap.size w w' ∧ e = .returned (.tuple #[.agg zZn, I 4]) := by
  obtain ⟨hb, ⟨_, he⟩ | ⟨z, s, hz, _⟩⟩ := h
  · exact ⟨hb, he⟩
  · rw [zfind_b] at hz
    cases hz
theorem zoneB_any (n wd : Int) (A : Option Addr) (c : Nat) (s : Zs) (W : World) (h : TbAt W W.heap.size (yT n wd A c s)) : Calls Tryz.prog 8 #[.agg (yT n wd A c s).cells.toArray, .string ⟨#[98]⟩] W fun e w' => Below W.heap.size W w' ∧ e = .returned (.tuple #[.agg zZn, I 4]) :=
  (zone_any (yT n wd A c s) 1 ⟨#[98]⟩ W rfl (by omega) (yT_len n wd A c s).2 h).mono (fun e w' h => zoneB h)
theorem ChAt.head {w : World} {B b off : Nat} {y : TbV} {ts : List TbV} (h : ChAt w B (some ⟨b, off, none⟩) (y :: ts)) (hy : y.cells.length = 68) : w.rangeAt b off y.cells ∧ b < B := by
  rcases h.row with h | ⟨b2, off2, h1, h2, h3⟩
  · rw [List.flatMap_cons, List.length_append, hy] at h
    omega
  · injection h1 with h1
    injection h1 with h1 h4
    subst h1 h4
    exact ⟨fun j u hu => h3 j u (by rw [List.flatMap_cons, List.getElem?_append_left (List.getElem?_eq_some_iff.1 hu).1]; exact hu), h2⟩
theorem valid00 (n wd : Int) (A : Option Addr) (c : Nat) (s : Zs) (W : World) (hn : n < 1) : Calls Tryz.prog 17 #[.agg (yT n wd A c s).cells.toArray] W (Gives (.int .i64 1) W) :=
  valid0_r (vt n wd true) A 1 c W ⟨by show (0 : Int) ≤ 2; decide, by show (2 : Int) < 16; decide⟩ (by show n < 1; exact hn)
end Go.Proofs.YtbdkalpljhpnmaaGreat

/- the law's list of chains under way; plain facts of TablePrefers. -/
namespace Go.Proofs.YtbdkalpljhpnmaaGreat
open Go Go.RowKit

theorem znV0_len {z : Zn} (h : ZnV0 z) : ZnLen z := by
  have hm := h.1
  refine ⟨by rw [hm.cal.mo]; omega, by have := hm.cal.ru; omega, by have := hm.trl; omega, ?_⟩
  rcases hm.yr with e | ⟨r0, r1, e, _, _⟩ <;> rw [e] <;> simp
theorem TbF.len {y : TbV} (h : TbF y) : y.zs.length ≤ 1000 ∧ ∀ z ∈ y.zs, ZnLen z.e.z := by
  have e := h.names
  refine ⟨?_, fun z hz => ?_⟩
  · have h2 := h.made.num
    rw [e, List.length_map] at h2
    omega
  · exact znV0_len (h.made.zones z.e (by rw [e]; exact List.mem_map_of_mem hz))
/-- A chain's memory, from lo on, beside the own list v. -/
def ChMem (lo : Nat) (v : Value) (W : World) (x : ChV) : Prop := LV lo v W x.A (x.ts.flatMap TbV.cells) ∧ ∀ y ∈ x.ts, TbMem lo v W y
theorem ChMem.keep {lo : Nat} {v v' : Value} {W W' : World} {x : ChV} (h : ChMem lo v W x) (hs : W.heap.size ≤ W'.heap.size) (hb : ∀ b, lo ≤ b → b < W.heap.size → some b ≠ v.ownBlock → W'.heap[b]? = W.heap[b]? ∧ some b ≠ v'.ownBlock) : ChMem lo v' W' x :=
  ⟨h.1.keep hs hb, fun y hy => (h.2 y hy).keep hs hb⟩
theorem ChMem.of {lo lo' : Nat} {v : Value} {W : World} {x : ChV} (h : ChAt W W.heap.size x.A x.ts) (h2 : ChLow lo' x.A x.ts) (hlo : lo ≤ lo') (hv : ∀ b, lo' ≤ b → b < W.heap.size → some b ≠ v.ownBlock) : ChMem lo v W x :=
  ⟨.of2 h.row (Nat.le_refl _) h2.1 hlo hv, fun y hy => .of (h.each y hy) (Nat.le_refl _) (h2.2 y hy) hlo hv⟩
/-- What a chain of made tables is besides. -/
structure ChF (x : ChV) : Prop where
  len : x.ts.length ≤ 5
  each : ∀ y ∈ x.ts, TbF y
theorem ChF.at {x : ChV} (h : ChF x) {lo : Nat} {v : Value} {W : World} (hm : ChMem lo v W x) : ChAt W W.heap.size x.A x.ts := ⟨hm.1.at, fun y hy => (h.each y hy).at (hm.2 y hy)⟩
theorem ChF.ch {x : ChV} (h : ChF x) : x.ts.length ≤ 1000 ∧ ChLen x.ts := ⟨by have := h.len; omega, fun y hy => (h.each y hy).len⟩
/-- The law's chains under way. -/
structure CsW (w : World) (k c : Nat) (A : Option Addr) (cs : List ChV) (W : World) : Prop where
  lo : Below w.heap.size w W
  own : W.ownsRow w.heap.size 26 1 (.slice A k c) k (cs.map ChV.cell)
  mem : ∀ x ∈ cs, ChMem w.heap.size (.slice A k c) W x
  each : ∀ x ∈ cs, ChF x
section
variable {w W W' : World} {k c : Nat} {A : Option Addr} {cs : List ChV}
theorem CsW.grow (h : CsW w k c A cs W) (hb : Below W.heap.size W W') : CsW w k c A cs W' :=
  ⟨below_trans h.lo hb, own_below h.own hb, fun x hx => (h.mem x hx).keep hb.size fun b _ h2 h3 => ⟨hb.block b h2, h3⟩, h.each⟩
theorem CsW.at (h : CsW w k c A cs W) : CsAt W W.heap.size A cs := ⟨CellsAt.of_own h.own, fun x hx => (h.each x hx).at (h.mem x hx)⟩
theorem CsW.len (h : CsW w k c A cs W) : CsLen cs := fun x hx => (h.each x hx).ch
theorem CsW.start (h : Below w.heap.size w W) : CsW w 0 0 none [] W := ⟨h, World.ownsRow_nil _ _ _ _, (fun _ h => nomatch h), (fun _ h => nomatch h)⟩
theorem CsW.ownlt (h : CsW w k c A cs W) : ∀ b, W.heap.size ≤ b → some b ≠ (Value.slice A k c).ownBlock := fun b hb e => by
  have := World.ownsRow.lt h.own b e.symm
  omega
theorem CsW.add {Wb w6 : World} {gg cap : Nat} {x : ChV} (h : CsW w k c A cs W) (hx : ChMem w.heap.size (.slice A k c) W x) (hf : ChF x) (hWb : Wb = W.alloc (.cells #[x.cell] 26))
    (hown : w6.ownsRow w.heap.size 26 1 (.slice (some ⟨gg, 0, none⟩) (k + 1) cap) (k + 1) (cs.map ChV.cell ++ [x.cell])) (hg : Wb.grownBy w6 (Value.slice A k c).ownBlock) (hat : (Value.slice A k c).ownBlock = some gg ∨ gg = Wb.heap.size) :
    CsW w (k + 1) cap (some ⟨gg, 0, none⟩) (cs ++ [x]) w6 := by
  have hsb : Wb.heap.size = W.heap.size + 1 := by rw [hWb]; simp
  have hs6 : W.heap.size ≤ w6.heap.size := by have := hg.size; omega
  have hbl : ∀ b, b < W.heap.size → some b ≠ (Value.slice A k c).ownBlock → w6.heap[b]? = W.heap[b]? := fun b hb hn =>
    (hg.block b (by omega) hn).trans (by rw [hWb]; exact Below.heap_alloc W _ b hb)
  have hmm : ∀ b, w.heap.size ≤ b → b < W.heap.size → some b ≠ (Value.slice A k c).ownBlock → w6.heap[b]? = W.heap[b]? ∧ some b ≠ (Value.slice (some ⟨gg, 0, none⟩) (k + 1) cap).ownBlock := fun b h1 h2 h3 => by
    refine ⟨hbl b h2 h3, fun e => ?_⟩
    have e2 : b = gg := by simpa [Value.ownBlock] using e
    rcases hat with e3 | e3
    · exact h3 (by rw [e2]; exact e3.symm)
    · omega
  have hle := h.lo.size
  have h1 : Below w.heap.size w Wb := by rw [hWb]; exact below_trans h.lo (below_var W _)
  have hob : Wb.ownsRow w.heap.size 26 1 (.slice A k c) k (cs.map ChV.cell) := by rw [hWb]; exact own_below h.own (below_var W _)
  refine ⟨below_grown' h1 hob (by omega) hg, by simpa using hown, fun x' hx' => ?_, fun x' hx' => ?_⟩
  · rcases List.mem_append.1 hx' with h1 | h1
    · exact (h.mem x' h1).keep hs6 hmm
    · obtain rfl := List.mem_singleton.1 h1
      exact hx.keep hs6 hmm
  · rcases List.mem_append.1 hx' with h1 | h1
    · exact h.each x' h1
    · obtain rfl := List.mem_singleton.1 h1
      exact hf
end
theorem info_chs : (Tryz.prog.info? 26).map (fun i => (i.zero, i.size, i.bytes)) = some (some (.slice none 0 0), 1, 24) := by kernel_rfl
theorem ch_one (x : ChV) : ∀ u ∈ [x.cell], u.oneCell' = true := fun u hu => by
  rw [List.mem_singleton.1 hu]
  rfl
/-- Made as the law calls it. -/
theorem made_ch (r : RawV) (W : World) (hr : RawAt W W.heap.size r) :
    Calls Tryz.prog 5 #[.agg r.cells.toArray] W fun e w' => ∃ x : ChV, e = .returned x.cell ∧ ChF x ∧ ChAt w' w'.heap.size x.A x.ts ∧ ChLow W.heap.size x.A x.ts ∧ Below W.heap.size W w' :=
  (made14_r r W hr).mono (fun e w' ⟨A, n, c, ts, h1, h2, h3, h4, h5, h6, h7⟩ => by
    subst h2
    exact ⟨⟨A, c, ts⟩, h1, ⟨h3, fun y hy => ⟨h5 y hy, (h4.each y hy).names, (h4.each y hy).prev, (h4.each y hy).mac⟩⟩, h4, h6, h7⟩)
end Go.Proofs.YtbdkalpljhpnmaaGreat

/- plain facts of TablePrefers: Newest, Zone and Prefer as the law reads them; the list of the order. -/
namespace Go.Proofs.YtbdkalpljhpnmaaGreat
open Go Go.RowKit

theorem zt_zTb : Tryz.zeroCells47 = tbVal zTb (.slice none 0 0) := by kernel_rfl
/-- Newest as the law reads it. -/
def NewU (w : World) (ts : List TbV) (e : Ending) (w' : World) : Prop :=
  ∃ (y : TbV) (f : Int), e = .returned (.tuple #[.agg (tbVal y.t (.slice y.A y.zs.length y.c)), I f]) ∧ Below w.heap.size w w' ∧ TbAt w' w'.heap.size y ∧ y.zs.length ≤ 1000 ∧ (∀ z ∈ y.zs, ZnLen z.e.z) ∧ (f = 0 ∨ f = 1 ∨ f = 4) ∧ ∀ name, pick ts name = if f = 0 then zFind y.t.zones name else none
theorem tb0_at (w : World) : TbAt w w.heap.size ⟨zTb, none, 0, []⟩ := ⟨rfl, rfl, rfl, ⟨.inl rfl, fun _ h => nomatch h⟩⟩
theorem newest_u (A : Option Addr) (c n : Nat) (ts : List TbV) (w : World) (hn : ts.length = n) (hn1 : n ≤ 1000) (hl : ChLen ts) (h : ChAt w w.heap.size A ts) :
    Calls Tryz.prog 7 #[.slice A n c] w (NewU w ts) :=
  (newest_any A c n ts w hn hn1 hl h).mono (fun e w' ⟨hb, p, b, hp, hr⟩ => by
    have hz : ∀ name, (b = false ∨ p < 0) → pick ts name = none := fun name h0 => by
      unfold pick
      rw [hp, if_neg]
      rintro ⟨h1, h2⟩
      rcases h0 with h0 | h0
      · rw [h0] at h1; cases h1
      · exact absurd h2 (by show ¬ 0 ≤ p; omega)
    rcases hr with ⟨hb0, rfl⟩ | ⟨hb1, hneg, rfl⟩ | ⟨hb1, i, x, y, rfl, hx, hy, hys, rfl, ho⟩
    · exact ⟨⟨zTb, none, 0, []⟩, 1, by rw [zt_zTb]; rfl, hb, tb0_at w', Nat.zero_le _, (fun _ h => nomatch h), .inr (.inl rfl), fun name => by rw [hz name (.inl hb0), if_neg (by decide)]⟩
    · exact ⟨⟨zTb, none, 0, []⟩, 4, by rw [zt_zTb]; rfl, hb, tb0_at w', Nat.zero_le _, (fun _ h => nomatch h), .inr (.inr rfl), fun name => by rw [hz name (.inr hneg), if_neg (by decide)]⟩
    · have hm := hl x (List.mem_of_getElem? hx)
      refine ⟨y, 0, rfl, hb, ⟨ho.names, ho.prev, ho.mac, ho.zones.at⟩, ?_, fun z hz' => ?_, .inl rfl, fun name => ?_⟩
      · have := congrArg List.length hys
        simp only [List.length_map] at this
        omega
      · have h1 : z.e ∈ x.zs.map (·.e) := by rw [← hys]; exact List.mem_map_of_mem hz'
        obtain ⟨v, hv, he⟩ := List.mem_map.1 h1
        rw [← he]
        exact hm.2 v hv
      · rw [if_pos rfl, hy]
        unfold pick
        rw [hp, hb1, if_pos ⟨rfl, by show (0 : Int) ≤ (i : Int); omega⟩]
        show (ts[((i : Int)).toNat]?).bind _ = _
        rw [Int.toNat_natCast, hx]
        rfl)
/-- Zone as the law reads it. -/
def ZnU (w : World) (zs : List Ze) (name : ByteArray) (e : Ending) (w' : World) : Prop :=
  ∃ (zc : Array Value) (g : Int), e = .returned (.tuple #[.agg zc, I g]) ∧ Below w.heap.size w w' ∧ zc.size = 8 ∧ zc.all (·.oneCell') = true ∧ ((g = 4 ∧ zFind zs name = none) ∨ (g = 0 ∧ ∃ z s, zFind zs name = some z ∧ zc = znCells z s ∧ ZnAt w' w'.heap.size s z ∧ ZnLen z))
theorem zone_u (y : TbV) (n : Nat) (name : ByteArray) (w : World) (hn : y.zs.length = n) (hn1 : n ≤ 1000) (hl : ∀ z ∈ y.zs, ZnLen z.e.z) (h : TbAt w w.heap.size y) :
    Calls Tryz.prog 8 #[.agg (tbVal y.t (.slice y.A n y.c)), .string name] w (ZnU w y.t.zones name) :=
  (zone_any y n name w hn hn1 hl h).mono (fun e w' ⟨hb, hr⟩ => by
    rcases hr with ⟨hno, rfl⟩ | ⟨z, s, hz, rfl, ho, ez, hez, rfl⟩
    · exact ⟨zZn, 4, rfl, hb, rfl, zz_one, .inl ⟨rfl, hno⟩⟩
    · refine ⟨znCells ez.z s, 0, rfl, hb, rfl, zn_one _ _, .inr ⟨rfl, ez.z, s, hz, rfl, ho.at, ?_⟩⟩
      have h1 := h.names
      rw [h1] at hez
      obtain ⟨v, hv, rfl⟩ := List.mem_map.1 hez
      exact hl v hv)
/-- Prefer as the law reads it. -/
def PrefR (cs : List ChV) (zs : List Int) (name : ByteArray) (zc : Array Value) (at_ f : Int) (W : World) : Prop :=
  (f = 4 ∧ ∀ k ∈ zs, pk cs name k = none) ∨ (f = 0 ∧ ∃ j z s, zs[j]? = some at_ ∧ pk cs name at_ = some z ∧ (∀ (i : Nat) (k' : Int), i < j → zs[i]? = some k' → pk cs name k' = none) ∧ zc = znCells z s ∧ ZnAt W W.heap.size s z ∧ ZnLen z)
theorem ZnAt.growB {w w' : World} {s : Zs} {z : Zn} (h : ZnAt w w.heap.size s z) (hb : Below w.heap.size w w') : ZnAt w' w'.heap.size s z := (h.keep hb).more hb.size
theorem PrefR.grow {cs : List ChV} {zs : List Int} {name : ByteArray} {zc : Array Value} {at_ f : Int} {W W' : World} (h : PrefR cs zs name zc at_ f W) (hb : Below W.heap.size W W') : PrefR cs zs name zc at_ f W' := by
  rcases h with h | ⟨h0, j, z, s, h1, h2, h3, h4, h5, h6⟩
  · exact .inl h
  · exact .inr ⟨h0, j, z, s, h1, h2, h3, h4, h5.growB hb, h6⟩
theorem prefer_u (A O : Option Addr) (c oc m o : Nat) (cs : List ChV) (zs : List Int) (name : ByteArray) (w : World) (hm : cs.length = m) (hm1 : m ≤ 1000) (ho : zs.length = o) (ho1 : o ≤ 1000) (hl : CsLen cs) (h : CsAt w w.heap.size A cs) (hO : IntsAt w w.heap.size O zs) (hr : ∀ k ∈ zs, 0 ≤ k ∧ k < (m : Int)) :
    Calls Tryz.prog 6 #[.slice A m c, .slice O o oc, .string name] w fun e w' => ∃ zc at_ f, e = .returned (.tuple #[.agg zc, I at_, I f]) ∧ Below w.heap.size w w' ∧ zc.size = 8 ∧ zc.all (·.oneCell') = true ∧ PrefR cs zs name zc at_ f w' :=
  (prefer_any A O c oc m o cs zs name w hm hm1 ho ho1 hl h hO).mono (fun e w' ⟨hb, hr2⟩ => by
    rcases hr2 with ⟨⟨k, hk, hn⟩, _⟩ | ⟨_, ⟨hall, rfl⟩ | ⟨j, k, z, s, hj, hp, hall, rfl, hz, hzl⟩⟩
    · exact absurd (hr k hk) (by rw [hm] at hn; exact hn)
    · exact ⟨zZn, 0, 4, rfl, hb, rfl, zz_one, .inl ⟨rfl, hall⟩⟩
    · exact ⟨znCells z s, k, 0, rfl, hb, rfl, zn_one _ _, .inr ⟨rfl, j, z, s, hj, hp, hall, rfl, hz.at, hzl⟩⟩)
theorem prefR_hit {cs : List ChV} {zs : List Int} {name : ByteArray} {zc : Array Value} {at_ f : Int} {W : World} (h : PrefR cs zs name zc at_ f W) {i : Nat} {li : Int} {z : Zn} (hi : zs[i]? = some li) (hz : pk cs name li = some z) (hp : ∀ (j : Nat) (k : Int), j < i → zs[j]? = some k → pk cs name k = none) :
    f = 0 ∧ at_ = li ∧ ∃ s, zc = znCells z s ∧ ZnAt W W.heap.size s z ∧ ZnLen z := by
  rcases h with ⟨_, h⟩ | ⟨h0, j, z', s, h1, h2, h3, h4, h5, h6⟩
  · rw [h li (List.mem_of_getElem? hi)] at hz
    cases hz
  · rcases Nat.lt_trichotomy j i with h7 | h7 | h7
    · rw [hp j at_ h7 h1] at h2
      cases h2
    · subst h7
      rw [h1] at hi
      injection hi with hi
      subst hi
      rw [h2] at hz
      injection hz with hz
      subst hz
      exact ⟨h0, rfl, s, h4, h5, h6⟩
    · rw [h3 i li h7 hi] at hz
      cases hz
theorem prefR_none {cs : List ChV} {zs : List Int} {name : ByteArray} {zc : Array Value} {at_ f : Int} {W : World} (h : PrefR cs zs name zc at_ f W) (hp : ∀ k ∈ zs, pk cs name k = none) : f = 4 := by
  rcases h with ⟨h, _⟩ | ⟨h0, j, z', s, h1, h2, _⟩
  · exact h
  · rw [hp at_ (List.mem_of_getElem? h1)] at h2
    cases h2
/-- The order's list, in own memory. -/
structure LsW (w : World) (m k c : Nat) (A : Option Addr) (zs : List Int) (W : World) : Prop where
  lo : Below w.heap.size w W
  own : W.ownsRow w.heap.size 3 1 (.slice A k c) k (zs.map I)
  rng : ∀ z ∈ zs, 0 ≤ z ∧ z < (m : Int)
section
variable {w W W' : World} {m k c : Nat} {A : Option Addr} {zs : List Int}
theorem LsW.grow (h : LsW w m k c A zs W) (hb : Below W.heap.size W W') : LsW w m k c A zs W' := ⟨below_trans h.lo hb, own_below h.own hb, h.rng⟩
theorem LsW.at (h : LsW w m k c A zs W) : IntsAt W W.heap.size A zs := CellsAt.ints (CellsAt.of_own h.own)
theorem LsW.len (h : LsW w m k c A zs W) : zs.length = k := by have := h.own.1; simpa using this
theorem LsW.cap (h : LsW w m k c A zs W) : k ≤ c := by
  rcases h.own.2 with ⟨hv, hn⟩ | ⟨g, cap, cur, hv, _, _, h2, _⟩
  · omega
  · injection hv with _ _ h3
    omega
theorem LsW.start (w : World) (m : Nat) : LsW w m 0 0 none [] w := ⟨Below.refl _ w, World.ownsRow_nil _ _ _ _, fun _ h => nomatch h⟩
theorem LsW.lit (w : World) (m : Nat) : LsW w m 0 0 (some ⟨w.heap.size, 0, none⟩) [] (w.alloc (.cells #[] 3)) :=
  ⟨below_var w _, ⟨rfl, .inr ⟨w.heap.size, 0, #[], rfl, Nat.le_refl _, heap_alloc_last w _, Nat.le_refl _, Nat.zero_le _, rfl, rfl⟩⟩, fun _ h => nomatch h⟩
theorem LsW.add {Wb w6 : World} {A' : Option Addr} {c' q : Nat} (h : LsW w m k c A zs W) (news : List Int) (hr : ∀ z ∈ news, 0 ≤ z ∧ z < (m : Int)) (hb : Below W.heap.size W Wb)
    (hown : w6.ownsRow w.heap.size 3 1 (.slice A' (k + q) c') (k + q) (zs.map I ++ news.map I)) (hg : Wb.grownBy w6 (Value.slice A k c).ownBlock) : LsW w m (k + q) c' A' (zs ++ news) w6 := by
  have h2 := h.grow hb
  refine ⟨below_grown' h2.lo h2.own h2.lo.size hg, by rw [List.map_append]; exact hown, fun z hz => ?_⟩
  rcases List.mem_append.1 hz with h1 | h1
  · exact h.rng z h1
  · exact hr z h1
end
theorem ints_news {w W : World} {b off n : Nat} {zs : List Int} (h : IntsAt w w.heap.size (some ⟨b, off, none⟩) zs) (hb : Below w.heap.size w W) : ∀ (j : Nat) (u : Value), ((zs.take n).map I)[j]? = some u → W.cell? ((⟨b, off, none⟩ : Addr).add j) = some u := by
  intro j u hu
  rw [Addr.add_mid]
  rw [List.getElem?_map] at hu
  cases hz : (zs.take n)[j]? with
  | none => rw [hz] at hu; cases hu
  | some z =>
    rw [hz] at hu
    injection hu with hu
    have hj := (List.getElem?_eq_some_iff.1 hz).1
    rw [List.length_take] at hj
    rw [List.getElem?_take_of_lt (by omega)] at hz
    rcases h with h | ⟨b2, off2, h1, h2, h3⟩
    · omega
    · injection h1 with h1
      injection h1 with h1 h4
      subst h1 h4
      rw [(hb.cell (p := ⟨b, off + j, none⟩) h2), h3 j (by omega), hz, ← hu]
      rfl
theorem pk_next {cs : List ChV} {zs : List Int} {name : ByteArray} {q : Nat} {li : Int} (h : ∀ (j : Nat) (y : Int), j < q → zs[j]? = some y → pk cs name y = none) (hi : zs[q]? = some li) (hn : pk cs name li = none) : ∀ (j : Nat) (y : Int), j < q + 1 → zs[j]? = some y → pk cs name y = none := fun j y hj hy => by
  rcases Nat.lt_succ_iff_lt_or_eq.1 hj with h1 | rfl
  · exact h j y h1 hy
  · rw [hi] at hy
    injection hy with hy
    rw [← hy]
    exact hn
/-- What the last loop reads. -/
structure PfW (w : World) (m k : Nat) (A L : Option Addr) (cs : List ChV) (zs : List Int) (name : ByteArray) (bz : Nat) (zc : Array Value) (at_ f : Int) (W : World) : Prop where
  lo : Below w.heap.size w W
  chs : CsAt W W.heap.size A cs
  l : IntsAt W W.heap.size L zs
  z : Row W bz zc
  pr : PrefR cs zs name zc at_ f W
theorem PfW.grow {w W W' : World} {m k : Nat} {A L : Option Addr} {cs : List ChV} {zs : List Int} {name : ByteArray} {bz : Nat} {zc : Array Value} {at_ f : Int} (h : PfW w m k A L cs zs name bz zc at_ f W) (hb : Below W.heap.size W W') : PfW w m k A L cs zs name bz zc at_ f W' :=
  ⟨below_trans h.lo hb, h.chs.grow hb, (h.l.keep hb).more hb.size, h.z.keep hb, h.pr.grow hb⟩
end Go.Proofs.YtbdkalpljhpnmaaGreat
