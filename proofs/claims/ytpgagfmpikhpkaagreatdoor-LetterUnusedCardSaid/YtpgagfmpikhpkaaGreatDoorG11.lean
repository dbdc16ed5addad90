/- The texts SetN, Bnd, MadeS, IntsEq, in this order. -/
import Derived.Test.YtpgagfmpikhpkaaGreatDoorG06
import Derived.Test.YtpgagfmpikhpkaaGreatDoorG10
import Derived.Deep.AppendLies
import Derived.Deep.RegionLaw
import Derived.BigQuiet
/- kalendsref20.SetNumber. -/
namespace Go.Proofs.YtpgagfmpikhpkaaGreatDoor
open Go Go.RowKit

section
variable {P : Program} {ops : Array Oper} {Q : Exit → Act → World → Prop} {a : Act} {w : World} {rest : List Oper} {d : Option Tmp} {t : TypeId} {pos : String} {af : Array Edge} {g : Option (Nat × Bool)}
theorem g_alloc (ty : TypeId) (h : wpList P ops Q (⟨d, .alloc ty, t, pos, af, g⟩ :: rest) a w) : wpList P ops Q (⟨d, .alloc ty, t, pos, af, g⟩ :: rest) a w := h
end
attribute [local go_sem] ltVal_get lt_get3 lt_get4 lt_get5 lt_get6 lt_get7 lt_get8 lt_get9 lt_get10 lt_get11 lt_get24 lt_get25 lt_get26
theorem sz_eq (l : Lt) (s : Sl) (h : l.ref.length = 32) : (ltVal zLt zSl).size = (ltVal l s).size := by
  have h0 : zLt.ref.length = 32 := by decide
  unfold ltVal
  rw [lt_size _ _ _ _ h, lt_size _ _ _ _ h0]
set_option maxRecDepth 10000 in
set_option maxHeartbeats 8000000 in
theorem setNumber_any (l : Lt) (s : Sl) (k : Nat) (hk : k < 17) (x : Int) (w : World) (hr : l.ref.length = 32) : Calls Tryz.prog 7 #[.agg (ltVal l s), I k, I x] w (Gives (.agg (ltVal (setNum l k x) s)) w) := by
  have HRF : Hid ((setNum l k x).ref.length = 32) := Lib.hid (by rw [setNum_ref]; exact hr)
  have HSN := Lib.hid (fun o (h : numOff k = some o) => (ltVal_setNum l s x k o hk h).symm)
  have HRM : Hid (Row ((w.alloc (.cells (ltVal (setNum l k x) s) 36)).alloc (.cells (ltVal zLt zSl) 36)) w.heap.size (ltVal (setNum l k x) s)) := Lib.hid ((Row.new w (ltVal (setNum l k x) s) 36).keep (below_var _ _))
  have HBM := Lib.hid (below_trans (below_var w (.cells (ltVal (setNum l k x) s) 36)) (below_var _ (.cells (ltVal zLt zSl) 36)))
  have HRN : Hid (Row ((w.alloc (.cells (ltVal l s) 36)).alloc (.cells (ltVal zLt zSl) 36)) w.heap.size (ltVal l s)) := Lib.hid ((Row.new w (ltVal l s) 36).keep (below_var _ _))
  have HBN := Lib.hid (below_trans (below_var w (.cells (ltVal l s) 36)) (below_var _ (.cells (ltVal zLt zSl) 36)))
  have hk' : k = 0 ∨ k = 1 ∨ k = 2 ∨ k = 3 ∨ k = 4 ∨ k = 5 ∨ k = 6 ∨ k = 7 ∨ k = 8 ∨ k = 9 ∨ k = 10 ∨ k = 11 ∨ k = 12 ∨ k = 13 ∨ k = 14 ∨ k = 15 ∨ k = 16 := by omega
  clear hk
  rcases hk' with rfl | rfl | rfl | rfl | rfl | rfl | rfl | rfl | rfl | rfl | rfl | rfl | rfl | rfl | rfl | rfl | rfl
  · have hset : (ltVal l s).setIfInBounds 3 (.int .i64 x) = ltVal (setNum l _ x) s := HSN.out 3 rfl
    clear HSN HRN HBN
    go_enter Tryz.func7, Tryz.ntmps7
    go_wp2_with (first
      | (with_reducible refine g_alloc 36 ?_; refine wpList_alloc_as rfl _ rfl (ltVal zLt zSl) lt_zero ?_)
      | (with_reducible refine g_load 36 ?_; refine wpList_load_Row rfl _ _ rfl w.heap.size rfl (ltVal (setNum l 0 x) s) HRM.out _ Tryz.underlying36 rfl (size62 _ _ HRF.out) ?_)
      | (with_reducible refine g_store 36 ?_; refine wpList_store_row rfl _ _ _ rfl (w.heap.size + 1) (ltVal (setNum l 0 x) s) rfl rfl 36 (ltVal zLt zSl) (heap_alloc2_new w _ _) (size62 _ _ HRF.out) (sz_eq _ _ HRF.out) (ltVal_one _ _) ?_))
    exact bodyPost_ret (v := .agg (ltVal (setNum l 0 x) s)) (results_cell_row rfl _ _ (w.heap.size + 1) _ (ltVal (setNum l 0 x) s) (0, 0) _ rfl (setRow_heap _ _ _ _ _ _ (heap_alloc2_new w _ _)) Tryz.underlying36 rfl (size62 _ _ HRF.out)) rfl ⟨rfl, below_setRow HBM.out (Nat.le_succ _) _⟩
  · have hset : (ltVal l s).setIfInBounds 4 (.int .i64 x) = ltVal (setNum l _ x) s := HSN.out 4 rfl
    clear HSN HRN HBN
    go_enter Tryz.func7, Tryz.ntmps7
    go_wp2_with (first
      | (with_reducible refine g_alloc 36 ?_; refine wpList_alloc_as rfl _ rfl (ltVal zLt zSl) lt_zero ?_)
      | (with_reducible refine g_load 36 ?_; refine wpList_load_Row rfl _ _ rfl w.heap.size rfl (ltVal (setNum l 1 x) s) HRM.out _ Tryz.underlying36 rfl (size62 _ _ HRF.out) ?_)
      | (with_reducible refine g_store 36 ?_; refine wpList_store_row rfl _ _ _ rfl (w.heap.size + 1) (ltVal (setNum l 1 x) s) rfl rfl 36 (ltVal zLt zSl) (heap_alloc2_new w _ _) (size62 _ _ HRF.out) (sz_eq _ _ HRF.out) (ltVal_one _ _) ?_))
    exact bodyPost_ret (v := .agg (ltVal (setNum l 1 x) s)) (results_cell_row rfl _ _ (w.heap.size + 1) _ (ltVal (setNum l 1 x) s) (0, 0) _ rfl (setRow_heap _ _ _ _ _ _ (heap_alloc2_new w _ _)) Tryz.underlying36 rfl (size62 _ _ HRF.out)) rfl ⟨rfl, below_setRow HBM.out (Nat.le_succ _) _⟩
  · have hset : (ltVal l s).setIfInBounds 5 (.int .i64 x) = ltVal (setNum l _ x) s := HSN.out 5 rfl
    clear HSN HRN HBN
    go_enter Tryz.func7, Tryz.ntmps7
    go_wp2_with (first
      | (with_reducible refine g_alloc 36 ?_; refine wpList_alloc_as rfl _ rfl (ltVal zLt zSl) lt_zero ?_)
      | (with_reducible refine g_load 36 ?_; refine wpList_load_Row rfl _ _ rfl w.heap.size rfl (ltVal (setNum l 2 x) s) HRM.out _ Tryz.underlying36 rfl (size62 _ _ HRF.out) ?_)
      | (with_reducible refine g_store 36 ?_; refine wpList_store_row rfl _ _ _ rfl (w.heap.size + 1) (ltVal (setNum l 2 x) s) rfl rfl 36 (ltVal zLt zSl) (heap_alloc2_new w _ _) (size62 _ _ HRF.out) (sz_eq _ _ HRF.out) (ltVal_one _ _) ?_))
    exact bodyPost_ret (v := .agg (ltVal (setNum l 2 x) s)) (results_cell_row rfl _ _ (w.heap.size + 1) _ (ltVal (setNum l 2 x) s) (0, 0) _ rfl (setRow_heap _ _ _ _ _ _ (heap_alloc2_new w _ _)) Tryz.underlying36 rfl (size62 _ _ HRF.out)) rfl ⟨rfl, below_setRow HBM.out (Nat.le_succ _) _⟩
  · have hset : (ltVal l s).setIfInBounds 6 (.int .i64 x) = ltVal (setNum l _ x) s := HSN.out 6 rfl
    clear HSN HRN HBN
    go_enter Tryz.func7, Tryz.ntmps7
    go_wp2_with (first
      | (with_reducible refine g_alloc 36 ?_; refine wpList_alloc_as rfl _ rfl (ltVal zLt zSl) lt_zero ?_)
      | (with_reducible refine g_load 36 ?_; refine wpList_load_Row rfl _ _ rfl w.heap.size rfl (ltVal (setNum l 3 x) s) HRM.out _ Tryz.underlying36 rfl (size62 _ _ HRF.out) ?_)
      | (with_reducible refine g_store 36 ?_; refine wpList_store_row rfl _ _ _ rfl (w.heap.size + 1) (ltVal (setNum l 3 x) s) rfl rfl 36 (ltVal zLt zSl) (heap_alloc2_new w _ _) (size62 _ _ HRF.out) (sz_eq _ _ HRF.out) (ltVal_one _ _) ?_))
    exact bodyPost_ret (v := .agg (ltVal (setNum l 3 x) s)) (results_cell_row rfl _ _ (w.heap.size + 1) _ (ltVal (setNum l 3 x) s) (0, 0) _ rfl (setRow_heap _ _ _ _ _ _ (heap_alloc2_new w _ _)) Tryz.underlying36 rfl (size62 _ _ HRF.out)) rfl ⟨rfl, below_setRow HBM.out (Nat.le_succ _) _⟩
  · have hset : (ltVal l s).setIfInBounds 7 (.int .i64 x) = ltVal (setNum l _ x) s := HSN.out 7 rfl
    clear HSN HRN HBN
    go_enter Tryz.func7, Tryz.ntmps7
    go_wp2_with (first
      | (with_reducible refine g_alloc 36 ?_; refine wpList_alloc_as rfl _ rfl (ltVal zLt zSl) lt_zero ?_)
      | (with_reducible refine g_load 36 ?_; refine wpList_load_Row rfl _ _ rfl w.heap.size rfl (ltVal (setNum l 4 x) s) HRM.out _ Tryz.underlying36 rfl (size62 _ _ HRF.out) ?_)
      | (with_reducible refine g_store 36 ?_; refine wpList_store_row rfl _ _ _ rfl (w.heap.size + 1) (ltVal (setNum l 4 x) s) rfl rfl 36 (ltVal zLt zSl) (heap_alloc2_new w _ _) (size62 _ _ HRF.out) (sz_eq _ _ HRF.out) (ltVal_one _ _) ?_))
    exact bodyPost_ret (v := .agg (ltVal (setNum l 4 x) s)) (results_cell_row rfl _ _ (w.heap.size + 1) _ (ltVal (setNum l 4 x) s) (0, 0) _ rfl (setRow_heap _ _ _ _ _ _ (heap_alloc2_new w _ _)) Tryz.underlying36 rfl (size62 _ _ HRF.out)) rfl ⟨rfl, below_setRow HBM.out (Nat.le_succ _) _⟩
  · have hset : (ltVal l s).setIfInBounds 8 (.int .i64 x) = ltVal (setNum l _ x) s := HSN.out 8 rfl
    clear HSN HRN HBN
    go_enter Tryz.func7, Tryz.ntmps7
    go_wp2_with (first
      | (with_reducible refine g_alloc 36 ?_; refine wpList_alloc_as rfl _ rfl (ltVal zLt zSl) lt_zero ?_)
      | (with_reducible refine g_load 36 ?_; refine wpList_load_Row rfl _ _ rfl w.heap.size rfl (ltVal (setNum l 5 x) s) HRM.out _ Tryz.underlying36 rfl (size62 _ _ HRF.out) ?_)
      | (with_reducible refine g_store 36 ?_; refine wpList_store_row rfl _ _ _ rfl (w.heap.size + 1) (ltVal (setNum l 5 x) s) rfl rfl 36 (ltVal zLt zSl) (heap_alloc2_new w _ _) (size62 _ _ HRF.out) (sz_eq _ _ HRF.out) (ltVal_one _ _) ?_))
    exact bodyPost_ret (v := .agg (ltVal (setNum l 5 x) s)) (results_cell_row rfl _ _ (w.heap.size + 1) _ (ltVal (setNum l 5 x) s) (0, 0) _ rfl (setRow_heap _ _ _ _ _ _ (heap_alloc2_new w _ _)) Tryz.underlying36 rfl (size62 _ _ HRF.out)) rfl ⟨rfl, below_setRow HBM.out (Nat.le_succ _) _⟩
  · have hset : (ltVal l s).setIfInBounds 9 (.int .i64 x) = ltVal (setNum l _ x) s := HSN.out 9 rfl
    clear HSN HRN HBN
    go_enter Tryz.func7, Tryz.ntmps7
    go_wp2_with (first
      | (with_reducible refine g_alloc 36 ?_; refine wpList_alloc_as rfl _ rfl (ltVal zLt zSl) lt_zero ?_)
      | (with_reducible refine g_load 36 ?_; refine wpList_load_Row rfl _ _ rfl w.heap.size rfl (ltVal (setNum l 6 x) s) HRM.out _ Tryz.underlying36 rfl (size62 _ _ HRF.out) ?_)
      | (with_reducible refine g_store 36 ?_; refine wpList_store_row rfl _ _ _ rfl (w.heap.size + 1) (ltVal (setNum l 6 x) s) rfl rfl 36 (ltVal zLt zSl) (heap_alloc2_new w _ _) (size62 _ _ HRF.out) (sz_eq _ _ HRF.out) (ltVal_one _ _) ?_))
    exact bodyPost_ret (v := .agg (ltVal (setNum l 6 x) s)) (results_cell_row rfl _ _ (w.heap.size + 1) _ (ltVal (setNum l 6 x) s) (0, 0) _ rfl (setRow_heap _ _ _ _ _ _ (heap_alloc2_new w _ _)) Tryz.underlying36 rfl (size62 _ _ HRF.out)) rfl ⟨rfl, below_setRow HBM.out (Nat.le_succ _) _⟩
  · have hset : (ltVal l s).setIfInBounds 10 (.int .i64 x) = ltVal (setNum l _ x) s := HSN.out 10 rfl
    clear HSN HRN HBN
    go_enter Tryz.func7, Tryz.ntmps7
    go_wp2_with (first
      | (with_reducible refine g_alloc 36 ?_; refine wpList_alloc_as rfl _ rfl (ltVal zLt zSl) lt_zero ?_)
      | (with_reducible refine g_load 36 ?_; refine wpList_load_Row rfl _ _ rfl w.heap.size rfl (ltVal (setNum l 7 x) s) HRM.out _ Tryz.underlying36 rfl (size62 _ _ HRF.out) ?_)
      | (with_reducible refine g_store 36 ?_; refine wpList_store_row rfl _ _ _ rfl (w.heap.size + 1) (ltVal (setNum l 7 x) s) rfl rfl 36 (ltVal zLt zSl) (heap_alloc2_new w _ _) (size62 _ _ HRF.out) (sz_eq _ _ HRF.out) (ltVal_one _ _) ?_))
    exact bodyPost_ret (v := .agg (ltVal (setNum l 7 x) s)) (results_cell_row rfl _ _ (w.heap.size + 1) _ (ltVal (setNum l 7 x) s) (0, 0) _ rfl (setRow_heap _ _ _ _ _ _ (heap_alloc2_new w _ _)) Tryz.underlying36 rfl (size62 _ _ HRF.out)) rfl ⟨rfl, below_setRow HBM.out (Nat.le_succ _) _⟩
  · have hset : (ltVal l s).setIfInBounds 11 (.int .i64 x) = ltVal (setNum l _ x) s := HSN.out 11 rfl
    clear HSN HRN HBN
    go_enter Tryz.func7, Tryz.ntmps7
    go_wp2_with (first
      | (with_reducible refine g_alloc 36 ?_; refine wpList_alloc_as rfl _ rfl (ltVal zLt zSl) lt_zero ?_)
      | (with_reducible refine g_load 36 ?_; refine wpList_load_Row rfl _ _ rfl w.heap.size rfl (ltVal (setNum l 8 x) s) HRM.out _ Tryz.underlying36 rfl (size62 _ _ HRF.out) ?_)
      | (with_reducible refine g_store 36 ?_; refine wpList_store_row rfl _ _ _ rfl (w.heap.size + 1) (ltVal (setNum l 8 x) s) rfl rfl 36 (ltVal zLt zSl) (heap_alloc2_new w _ _) (size62 _ _ HRF.out) (sz_eq _ _ HRF.out) (ltVal_one _ _) ?_))
    exact bodyPost_ret (v := .agg (ltVal (setNum l 8 x) s)) (results_cell_row rfl _ _ (w.heap.size + 1) _ (ltVal (setNum l 8 x) s) (0, 0) _ rfl (setRow_heap _ _ _ _ _ _ (heap_alloc2_new w _ _)) Tryz.underlying36 rfl (size62 _ _ HRF.out)) rfl ⟨rfl, below_setRow HBM.out (Nat.le_succ _) _⟩
  · clear HSN HRF HRM HBM
    go_enter Tryz.func7, Tryz.ntmps7
    go_wp2_with (first
      | (with_reducible refine g_alloc 36 ?_; refine wpList_alloc_as rfl _ rfl (ltVal zLt zSl) lt_zero ?_)
      | (with_reducible refine g_load 36 ?_; refine wpList_load_Row rfl _ _ rfl w.heap.size rfl (ltVal l s) HRN.out _ Tryz.underlying36 rfl (size62 _ _ hr) ?_)
      | (with_reducible refine g_store 36 ?_; refine wpList_store_row rfl _ _ _ rfl (w.heap.size + 1) (ltVal l s) rfl rfl 36 (ltVal zLt zSl) (heap_alloc2_new w _ _) (size62 _ _ hr) (sz_eq _ _ hr) (ltVal_one _ _) ?_))
    exact bodyPost_ret (v := .agg (ltVal l s)) (results_cell_row rfl _ _ (w.heap.size + 1) _ (ltVal l s) (0, 0) _ rfl (setRow_heap _ _ _ _ _ _ (heap_alloc2_new w _ _)) Tryz.underlying36 rfl (size62 _ _ hr)) rfl ⟨rfl, below_setRow HBN.out (Nat.le_succ _) _⟩
  · clear HSN HRF HRM HBM
    go_enter Tryz.func7, Tryz.ntmps7
    go_wp2_with (first
      | (with_reducible refine g_alloc 36 ?_; refine wpList_alloc_as rfl _ rfl (ltVal zLt zSl) lt_zero ?_)
      | (with_reducible refine g_load 36 ?_; refine wpList_load_Row rfl _ _ rfl w.heap.size rfl (ltVal l s) HRN.out _ Tryz.underlying36 rfl (size62 _ _ hr) ?_)
      | (with_reducible refine g_store 36 ?_; refine wpList_store_row rfl _ _ _ rfl (w.heap.size + 1) (ltVal l s) rfl rfl 36 (ltVal zLt zSl) (heap_alloc2_new w _ _) (size62 _ _ hr) (sz_eq _ _ hr) (ltVal_one _ _) ?_))
    exact bodyPost_ret (v := .agg (ltVal l s)) (results_cell_row rfl _ _ (w.heap.size + 1) _ (ltVal l s) (0, 0) _ rfl (setRow_heap _ _ _ _ _ _ (heap_alloc2_new w _ _)) Tryz.underlying36 rfl (size62 _ _ hr)) rfl ⟨rfl, below_setRow HBN.out (Nat.le_succ _) _⟩
  · have hset : (ltVal l s).setIfInBounds 24 (.int .i64 x) = ltVal (setNum l _ x) s := HSN.out 24 rfl
    clear HSN HRN HBN
    go_enter Tryz.func7, Tryz.ntmps7
    go_wp2_with (first
      | (with_reducible refine g_alloc 36 ?_; refine wpList_alloc_as rfl _ rfl (ltVal zLt zSl) lt_zero ?_)
      | (with_reducible refine g_load 36 ?_; refine wpList_load_Row rfl _ _ rfl w.heap.size rfl (ltVal (setNum l 11 x) s) HRM.out _ Tryz.underlying36 rfl (size62 _ _ HRF.out) ?_)
      | (with_reducible refine g_store 36 ?_; refine wpList_store_row rfl _ _ _ rfl (w.heap.size + 1) (ltVal (setNum l 11 x) s) rfl rfl 36 (ltVal zLt zSl) (heap_alloc2_new w _ _) (size62 _ _ HRF.out) (sz_eq _ _ HRF.out) (ltVal_one _ _) ?_))
    exact bodyPost_ret (v := .agg (ltVal (setNum l 11 x) s)) (results_cell_row rfl _ _ (w.heap.size + 1) _ (ltVal (setNum l 11 x) s) (0, 0) _ rfl (setRow_heap _ _ _ _ _ _ (heap_alloc2_new w _ _)) Tryz.underlying36 rfl (size62 _ _ HRF.out)) rfl ⟨rfl, below_setRow HBM.out (Nat.le_succ _) _⟩
  · have hset : (ltVal l s).setIfInBounds 25 (.int .i64 x) = ltVal (setNum l _ x) s := HSN.out 25 rfl
    clear HSN HRN HBN
    go_enter Tryz.func7, Tryz.ntmps7
    go_wp2_with (first
      | (with_reducible refine g_alloc 36 ?_; refine wpList_alloc_as rfl _ rfl (ltVal zLt zSl) lt_zero ?_)
      | (with_reducible refine g_load 36 ?_; refine wpList_load_Row rfl _ _ rfl w.heap.size rfl (ltVal (setNum l 12 x) s) HRM.out _ Tryz.underlying36 rfl (size62 _ _ HRF.out) ?_)
      | (with_reducible refine g_store 36 ?_; refine wpList_store_row rfl _ _ _ rfl (w.heap.size + 1) (ltVal (setNum l 12 x) s) rfl rfl 36 (ltVal zLt zSl) (heap_alloc2_new w _ _) (size62 _ _ HRF.out) (sz_eq _ _ HRF.out) (ltVal_one _ _) ?_))
    exact bodyPost_ret (v := .agg (ltVal (setNum l 12 x) s)) (results_cell_row rfl _ _ (w.heap.size + 1) _ (ltVal (setNum l 12 x) s) (0, 0) _ rfl (setRow_heap _ _ _ _ _ _ (heap_alloc2_new w _ _)) Tryz.underlying36 rfl (size62 _ _ HRF.out)) rfl ⟨rfl, below_setRow HBM.out (Nat.le_succ _) _⟩
  · have hset : (ltVal l s).setIfInBounds 26 (.int .i64 x) = ltVal (setNum l _ x) s := HSN.out 26 rfl
    clear HSN HRN HBN
    go_enter Tryz.func7, Tryz.ntmps7
    go_wp2_with (first
      | (with_reducible refine g_alloc 36 ?_; refine wpList_alloc_as rfl _ rfl (ltVal zLt zSl) lt_zero ?_)
      | (with_reducible refine g_load 36 ?_; refine wpList_load_Row rfl _ _ rfl w.heap.size rfl (ltVal (setNum l 13 x) s) HRM.out _ Tryz.underlying36 rfl (size62 _ _ HRF.out) ?_)
      | (with_reducible refine g_store 36 ?_; refine wpList_store_row rfl _ _ _ rfl (w.heap.size + 1) (ltVal (setNum l 13 x) s) rfl rfl 36 (ltVal zLt zSl) (heap_alloc2_new w _ _) (size62 _ _ HRF.out) (sz_eq _ _ HRF.out) (ltVal_one _ _) ?_))
    exact bodyPost_ret (v := .agg (ltVal (setNum l 13 x) s)) (results_cell_row rfl _ _ (w.heap.size + 1) _ (ltVal (setNum l 13 x) s) (0, 0) _ rfl (setRow_heap _ _ _ _ _ _ (heap_alloc2_new w _ _)) Tryz.underlying36 rfl (size62 _ _ HRF.out)) rfl ⟨rfl, below_setRow HBM.out (Nat.le_succ _) _⟩
  · clear HSN HRF HRM HBM
    go_enter Tryz.func7, Tryz.ntmps7
    go_wp2_with (first
      | (with_reducible refine g_alloc 36 ?_; refine wpList_alloc_as rfl _ rfl (ltVal zLt zSl) lt_zero ?_)
      | (with_reducible refine g_load 36 ?_; refine wpList_load_Row rfl _ _ rfl w.heap.size rfl (ltVal l s) HRN.out _ Tryz.underlying36 rfl (size62 _ _ hr) ?_)
      | (with_reducible refine g_store 36 ?_; refine wpList_store_row rfl _ _ _ rfl (w.heap.size + 1) (ltVal l s) rfl rfl 36 (ltVal zLt zSl) (heap_alloc2_new w _ _) (size62 _ _ hr) (sz_eq _ _ hr) (ltVal_one _ _) ?_))
    exact bodyPost_ret (v := .agg (ltVal l s)) (results_cell_row rfl _ _ (w.heap.size + 1) _ (ltVal l s) (0, 0) _ rfl (setRow_heap _ _ _ _ _ _ (heap_alloc2_new w _ _)) Tryz.underlying36 rfl (size62 _ _ hr)) rfl ⟨rfl, below_setRow HBN.out (Nat.le_succ _) _⟩
  · clear HSN HRF HRM HBM
    go_enter Tryz.func7, Tryz.ntmps7
    go_wp2_with (first
      | (with_reducible refine g_alloc 36 ?_; refine wpList_alloc_as rfl _ rfl (ltVal zLt zSl) lt_zero ?_)
      | (with_reducible refine g_load 36 ?_; refine wpList_load_Row rfl _ _ rfl w.heap.size rfl (ltVal l s) HRN.out _ Tryz.underlying36 rfl (size62 _ _ hr) ?_)
      | (with_reducible refine g_store 36 ?_; refine wpList_store_row rfl _ _ _ rfl (w.heap.size + 1) (ltVal l s) rfl rfl 36 (ltVal zLt zSl) (heap_alloc2_new w _ _) (size62 _ _ hr) (sz_eq _ _ hr) (ltVal_one _ _) ?_))
    exact bodyPost_ret (v := .agg (ltVal l s)) (results_cell_row rfl _ _ (w.heap.size + 1) _ (ltVal l s) (0, 0) _ rfl (setRow_heap _ _ _ _ _ _ (heap_alloc2_new w _ _)) Tryz.underlying36 rfl (size62 _ _ hr)) rfl ⟨rfl, below_setRow HBN.out (Nat.le_succ _) _⟩
  · clear HSN HRF HRM HBM
    go_enter Tryz.func7, Tryz.ntmps7
    go_wp2_with (first
      | (with_reducible refine g_alloc 36 ?_; refine wpList_alloc_as rfl _ rfl (ltVal zLt zSl) lt_zero ?_)
      | (with_reducible refine g_load 36 ?_; refine wpList_load_Row rfl _ _ rfl w.heap.size rfl (ltVal l s) HRN.out _ Tryz.underlying36 rfl (size62 _ _ hr) ?_)
      | (with_reducible refine g_store 36 ?_; refine wpList_store_row rfl _ _ _ rfl (w.heap.size + 1) (ltVal l s) rfl rfl 36 (ltVal zLt zSl) (heap_alloc2_new w _ _) (size62 _ _ hr) (sz_eq _ _ hr) (ltVal_one _ _) ?_))
    exact bodyPost_ret (v := .agg (ltVal l s)) (results_cell_row rfl _ _ (w.heap.size + 1) _ (ltVal l s) (0, 0) _ rfl (setRow_heap _ _ _ _ _ _ (heap_alloc2_new w _ _)) Tryz.underlying36 rfl (size62 _ _ hr)) rfl ⟨rfl, below_setRow HBN.out (Nat.le_succ _) _⟩
end Go.Proofs.YtpgagfmpikhpkaaGreatDoor

/- kalendsref20.bounds. -/
namespace Go.Proofs.YtpgagfmpikhpkaaGreatDoor
open Go Go.RowKit

/-- The range of a field that is a number. -/
def bnd (k : Int) (f : Nat) : Int × Int :=
  match f with
  | 0 => (1, 1099511627776)
  | 1 => if (k == 1) = true then (1, 1) else if ((k == 6) || (k == 7)) = true then (2, 1099511627776) else (1, 1099511627776)
  | 2 => (0, 15)
  | 3 => (1, 64)
  | 4 => (0, 511)
  | 5 => if (k == 8) = true then (0, 63) else (0, 511)
  | 6 => (0, 255)
  | 7 => (1, 3)
  | 8 => (0, 1099511627776)
  | 11 => (0, 2251799813685248)
  | 13 => (1, 4)
  | _ => if (k == 8) = true then (1, 512) else if (k == 14) = true then (0, 5) else (0, 18)
theorem bnd_ok (k : Int) (f : Nat) : 0 ≤ (bnd k f).1 ∧ (bnd k f).1 ≤ (bnd k f).2 ∧ (bnd k f).2 ≤ 2251799813685248 := by
  unfold bnd
  split <;> (repeat' split) <;> decide
def BndGot (k : Int) (f : Nat) (w : World) (e : Ending) (w' : World) : Prop := e = .returned (.tuple #[I (bnd k f).1, I (bnd k f).2]) ∧ w' = w
set_option maxRecDepth 10000 in
set_option maxHeartbeats 4000000 in
theorem bounds_any (k : Int) (f : Nat) (hf : f < 17) (w : World) : Calls Tryz.prog 53 #[I k, I f] w (BndGot k f w) := by
  have hf' : f = 0 ∨ f = 1 ∨ f = 2 ∨ f = 3 ∨ f = 4 ∨ f = 5 ∨ f = 6 ∨ f = 7 ∨ f = 8 ∨ f = 9 ∨ f = 10 ∨ f = 11 ∨ f = 12 ∨ f = 13 ∨ f = 14 ∨ f = 15 ∨ f = 16 := by omega
  clear hf
  rcases hf' with rfl | rfl | rfl | rfl | rfl | rfl | rfl | rfl | rfl | rfl | rfl | rfl | rfl | rfl | rfl | rfl | rfl
  · go_enter Tryz.func53, Tryz.ntmps53
    go_wp2
    go_ret2
    exact ⟨rfl, rfl⟩
  · cases h1 : (k == 1)
    · cases h6 : (k == 6)
      · cases h7 : (k == 7)
        · go_enter Tryz.func53, Tryz.ntmps53
          go_wp2
          go_ret2
          exact ⟨by unfold bnd; simp only [h1, h6, h7]; rfl, rfl⟩
        · go_enter Tryz.func53, Tryz.ntmps53
          go_wp2
          go_ret2
          exact ⟨by unfold bnd; simp only [h1, h6, h7]; rfl, rfl⟩
      · go_enter Tryz.func53, Tryz.ntmps53
        go_wp2
        go_ret2
        exact ⟨by unfold bnd; simp only [h1, h6]; rfl, rfl⟩
    · go_enter Tryz.func53, Tryz.ntmps53
      go_wp2
      go_ret2
      exact ⟨by unfold bnd; simp only [h1]; rfl, rfl⟩
  · go_enter Tryz.func53, Tryz.ntmps53
    go_wp2
    go_ret2
    exact ⟨rfl, rfl⟩
  · go_enter Tryz.func53, Tryz.ntmps53
    go_wp2
    go_ret2
    exact ⟨rfl, rfl⟩
  · go_enter Tryz.func53, Tryz.ntmps53
    go_wp2
    go_ret2
    exact ⟨rfl, rfl⟩
  · cases h8 : (k == 8)
    · go_enter Tryz.func53, Tryz.ntmps53
      go_wp2
      go_ret2
      exact ⟨by unfold bnd; simp only [h8]; rfl, rfl⟩
    · go_enter Tryz.func53, Tryz.ntmps53
      go_wp2
      go_ret2
      exact ⟨by unfold bnd; simp only [h8]; rfl, rfl⟩
  · go_enter Tryz.func53, Tryz.ntmps53
    go_wp2
    go_ret2
    exact ⟨rfl, rfl⟩
  · go_enter Tryz.func53, Tryz.ntmps53
    go_wp2
    go_ret2
    exact ⟨rfl, rfl⟩
  · go_enter Tryz.func53, Tryz.ntmps53
    go_wp2
    go_ret2
    exact ⟨rfl, rfl⟩
  · cases h8 : (k == 8)
    · cases h14 : (k == 14)
      · go_enter Tryz.func53, Tryz.ntmps53
        go_wp2
        go_ret2
        exact ⟨by unfold bnd; simp only [h8, h14]; rfl, rfl⟩
      · go_enter Tryz.func53, Tryz.ntmps53
        go_wp2
        go_ret2
        exact ⟨by unfold bnd; simp only [h8, h14]; rfl, rfl⟩
    · go_enter Tryz.func53, Tryz.ntmps53
      go_wp2
      go_ret2
      exact ⟨by unfold bnd; simp only [h8]; rfl, rfl⟩
  · cases h8 : (k == 8)
    · cases h14 : (k == 14)
      · go_enter Tryz.func53, Tryz.ntmps53
        go_wp2
        go_ret2
        exact ⟨by unfold bnd; simp only [h8, h14]; rfl, rfl⟩
      · go_enter Tryz.func53, Tryz.ntmps53
        go_wp2
        go_ret2
        exact ⟨by unfold bnd; simp only [h8, h14]; rfl, rfl⟩
    · go_enter Tryz.func53, Tryz.ntmps53
      go_wp2
      go_ret2
      exact ⟨by unfold bnd; simp only [h8]; rfl, rfl⟩
  · go_enter Tryz.func53, Tryz.ntmps53
    go_wp2
    go_ret2
    exact ⟨rfl, rfl⟩
  · cases h8 : (k == 8)
    · cases h14 : (k == 14)
      · go_enter Tryz.func53, Tryz.ntmps53
        go_wp2
        go_ret2
        exact ⟨by unfold bnd; simp only [h8, h14]; rfl, rfl⟩
      · go_enter Tryz.func53, Tryz.ntmps53
        go_wp2
        go_ret2
        exact ⟨by unfold bnd; simp only [h8, h14]; rfl, rfl⟩
    · go_enter Tryz.func53, Tryz.ntmps53
      go_wp2
      go_ret2
      exact ⟨by unfold bnd; simp only [h8]; rfl, rfl⟩
  · go_enter Tryz.func53, Tryz.ntmps53
    go_wp2
    go_ret2
    exact ⟨rfl, rfl⟩
  · cases h8 : (k == 8)
    · cases h14 : (k == 14)
      · go_enter Tryz.func53, Tryz.ntmps53
        go_wp2
        go_ret2
        exact ⟨by unfold bnd; simp only [h8, h14]; rfl, rfl⟩
      · go_enter Tryz.func53, Tryz.ntmps53
        go_wp2
        go_ret2
        exact ⟨by unfold bnd; simp only [h8, h14]; rfl, rfl⟩
    · go_enter Tryz.func53, Tryz.ntmps53
      go_wp2
      go_ret2
      exact ⟨by unfold bnd; simp only [h8]; rfl, rfl⟩
  · cases h8 : (k == 8)
    · cases h14 : (k == 14)
      · go_enter Tryz.func53, Tryz.ntmps53
        go_wp2
        go_ret2
        exact ⟨by unfold bnd; simp only [h8, h14]; rfl, rfl⟩
      · go_enter Tryz.func53, Tryz.ntmps53
        go_wp2
        go_ret2
        exact ⟨by unfold bnd; simp only [h8, h14]; rfl, rfl⟩
    · go_enter Tryz.func53, Tryz.ntmps53
      go_wp2
      go_ret2
      exact ⟨by unfold bnd; simp only [h8]; rfl, rfl⟩
  · cases h8 : (k == 8)
    · cases h14 : (k == 14)
      · go_enter Tryz.func53, Tryz.ntmps53
        go_wp2
        go_ret2
        exact ⟨by unfold bnd; simp only [h8, h14]; rfl, rfl⟩
      · go_enter Tryz.func53, Tryz.ntmps53
        go_wp2
        go_ret2
        exact ⟨by unfold bnd; simp only [h8, h14]; rfl, rfl⟩
    · go_enter Tryz.func53, Tryz.ntmps53
      go_wp2
      go_ret2
      exact ⟨by unfold bnd; simp only [h8]; rfl, rfl⟩
end Go.Proofs.YtpgagfmpikhpkaaGreatDoor

/- kalendsref20.MadeSeries. -/
namespace Go.Proofs.YtpgagfmpikhpkaaGreatDoor
open Go Go.RowKit

theorem MKeep.putNew {mb : Nat} {w1 W : World} (h : MKeep mb w1 W) (b o : Nat) (u : Value) (hb : w1.heap.size ≤ b) : MKeep mb w1 (W.setCell ⟨b, o, none⟩ u) :=
  ⟨h.os, h.tape, h.output, by simpa [World.setCell] using h.size, fun k hk hn => (heap_setCell_other W _ k u (by show k ≠ b; omega)).trans (h.block k hk hn)⟩
def mvsCells (ms : List Mv) : List Value := ms.flatMap fun m => (mvCells m).toList
theorem mvsCells_len (ms : List Mv) : (mvsCells ms).length = ms.length * 5 := by
  induction ms with
  | nil => rfl
  | cons x ns ih => unfold mvsCells at ih ⊢; rw [List.flatMap_cons, List.length_append, ih, List.length_cons]; show 5 + _ = _; omega
theorem mvsCells_snoc (ms : List Mv) (m : Mv) : mvsCells (ms ++ [m]) = mvsCells ms ++ (mvCells m).toList := by simp [mvsCells]
def zSerC : Array Value := #[.slice none 0 0, I 0, I 0, .string ⟨#[]⟩, I 0, I 0, .slice none 0 0]
theorem info_move : (Tryz.prog.info? 25).map (fun i => (i.zero, i.size, i.bytes)) = some (some (.agg zMove), 5, 40) := by kernel_rfl
/-- A slice literal of one move, as a step. -/
theorem step_move_slice {o : Oper} {a : Act} {w : World} {K : Act → World → Prop} {Q : Exit → Act → World → Prop} (x : Operand) (ho : o.op = .buildSlice 28 1 #[(0, x)]) (m : Mv) (hx : a.eval x = .agg (mvCells m))
    (h : K (a.put o.dst (.slice (some ⟨w.heap.size, 0, none⟩) 1 1)) (w.alloc (.cells (mvCells m) 25))) : o.wp Tryz.prog a w K Q := by
  obtain ⟨i0, hi, hz0, hz1, hz2⟩ := info_parts info_move
  refine wp_buildSlice 28 25 1 _ ho (mvCells m) i0 (.agg zMove) Tryz.underlying28 hi hz0 (by rw [hz1]; decide) (by rw [hz1]; decide) ?_ h
  rw [hz1]
  simp only [List.map_toArray, List.map_cons, List.map_nil, hx]
  kernel_rfl
/-- append of one move, as a step. -/
theorem step_app_move {o : Oper} {a : Act} {w : World} {K : Act → World → Prop} {Q : Exit → Act → World → Prop} (s x : Operand)
    (ho : o.op = .call { callee := .builtin .append, args := #[s, x], argTypes := #[28, 28] }) (base : Nat) (v : Value) (ms : List Mv) (hs : a.eval s = v) (hown : w.ownsRow base 25 5 v ms.length (mvsCells ms)) (m : Mv)
    (hx : a.eval x = .slice (some ⟨w.heap.size, 0, none⟩) 1 1) (hn : ms.length ≤ 1000) (hb : base ≤ w.heap.size)
    (h : ∀ v' w', w'.ownsRow base 25 5 v' (ms.length + 1) (mvsCells (ms ++ [m])) → (w.alloc (.cells (mvCells m) 25)).grownBy w' v.ownBlock → K (a.put o.dst v') w') :
    o.wp Tryz.prog a (w.alloc (.cells (mvCells m) 25)) K Q := by
  obtain ⟨i0, hi, hz0, hz1, hz2⟩ := info_parts info_move
  obtain ⟨v', w', hr, h2, h3, h4, h5⟩ := run_append_own_at (P := Tryz.prog) (w.alloc (.cells (mvCells m) 25)) base 28 o.type 25 i0 (.agg zMove) 5 40 Tryz.underlying28 hi hz0 hz1 hz2 rfl (by decide) v ms.length (mvsCells ms) (hown.alloc _) ⟨w.heap.size, 0, none⟩ 1 1 (mvCells m).toList rfl (fun j u hu => by
      rw [addr_add, (Row.new w _ _).2 j]; simpa using hu) (by intro u hu; have := mv_one m; rw [Array.all_eq_true_iff_forall_mem] at this; exact this u (by simpa using hu)) (by unfold maxLen; omega) (by omega) (by simp; omega)
  unfold Oper.wp execOp
  simp only [ho, resolve, invoke, builtin, Sem.run_bind, Sem.run_pure, Result.andThen_ok, List.map_toArray, List.map_cons, List.map_nil, hs, hx, hr]
  exact h v' w' (by rw [mvsCells_snoc]; exact h2) h3
theorem GS.grown {t : TypeId} {z : Array Value} {w0 W w' : World} {mb a nd b4 b6 base e size n : Nat} {xs : List Int} {cs : Array Value} {v : Value} {ys : List Value} {o : Obj} (h : GS t z w0 mb xs a nd b4 b6 cs W) (hown : W.ownsRow base e size v n ys) (hb : b6 < base) (hg : (W.alloc o).grownBy w' v.ownBlock) : GS t z w0 mb xs a nd b4 b6 cs w' := by
  have h1 := h.hm
  have h2 := h.lo
  have h3 := h.ne
  have h4 := h.lt
  have hs := h.keep.size
  have hB : ∀ k, k < W.heap.size → k < base → w'.heap[k]? = W.heap[k]? := fun k hk hkb => by rw [hg.block k (by simp; omega) (own_ge hown k hkb), Below.heap_alloc W o k hk]
  refine ⟨h.hm, (mk_grown h.mkr hown (by omega) hg).1, ⟨hg.os.trans h.keep.os, hg.tape.trans h.keep.tape, hg.output.trans h.keep.output, by have := hg.size; simp at this; omega, fun k hk hn => (hB k (by omega) (by omega)).trans (h.keep.block k hk hn)⟩, h.lo, h.ne, (hB b4 (by omega) (by omega)).trans h.res, (hB b6 h4 hb).trans h.var⟩
structure MvsOK (ms : List Mv) (dd : Int) : Prop where
  ok : ∀ m ∈ ms, MoveOK m.day m ∧ 0 ≤ m.day ∧ m.day < dd
  up : ms.Pairwise fun a b => a.day < b.day
theorem MvsOK.more {ms : List Mv} {dd r : Int} {m : Mv} (h : MvsOK ms dd) (hm : MoveOK dd m) (h0 : 0 ≤ dd) (hr : 0 ≤ r) : MvsOK (ms ++ [m]) (dd + 1 + r) := by
  have e : m.day = dd := hm.1
  refine ⟨fun x hx => ?_, ?_⟩
  · rcases List.mem_append.1 hx with hx | hx
    · have := h.ok x hx; exact ⟨this.1, this.2.1, by omega⟩
    · rw [List.mem_singleton.1 hx]; exact ⟨by rw [e]; exact hm, by omega, by omega⟩
  · rw [List.pairwise_append]
    exact ⟨h.up, List.pairwise_singleton _ _, fun a ha b hb => by rw [List.mem_singleton.1 hb, e]; exact (h.ok a ha).2.2⟩
def serA (v : Value) (mi le : Int) (zv : ByteArray) (gp fo : Int) (vm : Value) : Array Value := #[v, I mi, I (1 + le), .string zv, I gp, I fo, vm]
def MsRel (w w1 : World) (mb : Nat) (xs : List Int) (n1 a0 : Nat) (v : Value) (mi le : Int) (zv : ByteArray) (gp fo kk : Int) (d i : Value) (wr : World) : Prop :=
  ∃ (j : Nat) (dd : Int) (ms : List Mv) (a' : Nat) (vm : Value), (j : Int) ≤ kk ∧ i = I j ∧ d = I dd ∧ 0 ≤ dd ∧ dd ≤ 20 + 10 * j ∧ ms.length = j ∧ MvsOK ms dd ∧ a' ≤ a0 + 5 * j ∧
    GS 30 zSerC w mb xs a' n1 w.heap.size w1.heap.size (serA v mi le zv gp fo vm) wr ∧ wr.ownsRow (w1.heap.size + 1) 25 5 vm ms.length (mvsCells ms) ∧ MKeep mb w1 wr
theorem cells_newM {w : World} {t : TypeId} (m : Mv) : ∀ j u, (mvCells m).toList[j]? = some u → (w.alloc (.cells (mvCells m) t)).cell? ((⟨w.heap.size, 0, none⟩ : Addr).add j) = some u := by
  intro j u hu
  rw [addr_add, (Row.new w _ t).2 j]
  simpa using hu
theorem moves_ok (m : Mv) : ∀ u ∈ (mvCells m).toList, u.oneCell' = true := by
  intro u hu
  have := mv_one m
  rw [Array.all_eq_true_iff_forall_mem] at this
  exact this u (by simpa using hu)
attribute [local go_sem] mvCells
def ZoneOK (z : ByteArray) : Prop := z = ⟨#[122]⟩ ∨ z = ⟨#[69, 97, 114, 116, 104, 47, 78, 111, 114, 116, 104]⟩ ∨ z = ⟨#[117, 116, 99, 45, 50]⟩ ∨ z = ⟨#[120, 32, 121]⟩
/-- What 'MadeSeries' gives: a rule and moves in memory of the call's own, numbers in their ranges. -/
structure SerMade (w : World) (ns : List NdV) (ms : List Mv) (mi ln : Int) (zv : ByteArray) (gp fo : Int) (vr vm : Value) (w' : World) : Prop where
  rule : RuleIs (w.heap.size + 1) w' vr ns
  made : MRule 3 ns
  len : ns.length ≤ 16
  within : Within 2002 ns
  moves : w'.ownsRow (w.heap.size + 1) 25 5 vm ms.length (mvsCells ms)
  mok : ∃ dd, dd ≤ 100 ∧ MvsOK ms dd
  mlen : ms.length ≤ 2
  min : 0 ≤ mi ∧ mi < 1440
  lng : 1 ≤ ln ∧ ln ≤ 200
  zone : ZoneOK zv
  gap : 0 ≤ gp ∧ gp < 3
  fold : 0 ≤ fo ∧ fo < 3
def Seried (w : World) (mb : Nat) (xs : List Int) (at_ nodes : Nat) (e : Ending) (w' : World) : Prop :=
  ∃ ns ms mi ln zv gp fo vr vm a' n', e = .returned (.agg #[vr, I mi, I ln, .string zv, I gp, I fo, vm]) ∧ SerMade w ns ms mi ln zv gp fo vr vm w' ∧ MkSt w' mb xs a' n' ∧ a' ≤ at_ + 400 ∧ n' ≤ nodes + 16 ∧ MKeep mb w w'
theorem ser_size (v vm : Value) (mi le : Int) (zv : ByteArray) (gp fo : Int) : (Tryz.prog.info? 30).map (·.size) = some (serA v mi le zv gp fo vm).size := by kernel_rfl
theorem ser_one (A A' : Option Addr) (n c n' c' : Nat) (mi le : Int) (zv : ByteArray) (gp fo : Int) : (serA (.slice A n c) mi le zv gp fo (.slice A' n' c')).all (·.oneCell') = true := by kernel_rfl
theorem own_slice {w : World} {base e size n : Nat} {v : Value} {xs : List Value} (h : w.ownsRow base e size v n xs) : ∃ A m c, v = .slice A m c := by
  rcases h.2 with ⟨rfl, _⟩ | ⟨g, cap, cur, rfl, _⟩
  · exact ⟨_, _, _, rfl⟩
  · exact ⟨_, _, _, rfl⟩
set_option maxRecDepth 10000 in
set_option maxHeartbeats 4000000 in
theorem madeSeries_any (w : World) (mb : Nat) (xs : List Int) (at_ nodes : Nat) (h : MkSt w mb xs at_ nodes) (hx : XsOK xs) (hat : at_ ≤ 100000) (hnd : nodes ≤ 100000) :
    Calls Tryz.prog 55 #[pt mb] w (Seried w mb xs at_ nodes) := by
  have HM0 := Lib.hid (h.grow (below_var w (.cells zSerC 30)))
  have hml := h.lt
  obtain ⟨i0, hi, hz0, hz1, hz2⟩ := info_parts info_move
  clear h
  go_enter Tryz.func55, Tryz.ntmps55
  go_wp2_with fail
  refine (rule_any xs hx 3 (by omega) (by omega) 2 (by omega) _ mb at_ nodes HM0.out (by omega) (by omega)).mono ?_
  rintro e w1 ⟨ns, v, a1, n1, rfl, hl1, hl2, hmr, hwi, hru, hm1, ha1, hn1, hk1⟩
  rw [World.size_alloc] at hru
  obtain ⟨gr, cr, rfl, hgr1, hgr2, -⟩ := hru.form (by intro e; rw [e] at hl1; exact absurd hl1 (Nat.lt_irrefl _))
  have HRU := Lib.hid hru
  have HMR := Lib.hid hmr
  have hm1lt : mb < w1.heap.size := hm1.lt
  have G0 : Hid (GS 30 zSerC w mb xs a1 n1 w.heap.size w1.heap.size #[.slice (some ⟨gr, 0, none⟩) ns.length cr, I 0, I 0, .string ⟨#[]⟩, I 0, I 0, .slice none 0 0] (w1.alloc (.cells #[.slice (some ⟨gr, 0, none⟩) ns.length cr, I 0, I 0, .string ⟨#[]⟩, I 0, I 0, .slice none 0 0] 30))) := Lib.hid (GS.start hm1 hml hk1)
  have KP := Lib.hid (MKeep.of_below (mb := mb) (below_var w1 (.cells #[.slice (some ⟨gr, 0, none⟩) ns.length cr, I 0, I 0, .string ⟨#[]⟩, I 0, I 0, .slice none 0 0] 30)))
  have hns : ns.length ≤ 16 := hl2
  have ha1' : a1 ≤ 101000 := by omega
  have HA1 : Hid (a1 ≤ at_ + 320) := Lib.hid ha1
  have HN1 : Hid (n1 ≤ nodes + 16) := Lib.hid hn1
  have HWI : Hid (Within 2002 ns) := Lib.hid hwi
  clear hru hmr hwi hm1 hk1 hl2 ha1 hn1
  go_wp2_with fail
  refine (G0.out.pick hx 1440 (by omega) (by omega) (by omega)).mono ?_
  rintro e w2 ⟨mi, rfl, mi1, mi2, G1k, G1s⟩
  have G1c := G1s.cell
  have G1f := G1s.froz
  have G1 := Lib.hid (G1s.store 1 (I mi))
  have KP := Lib.hid ((KP.out.trans G1k).putNew w1.heap.size 1 (I mi) (Nat.le_refl _))
  clear G1k G1s
  go_wp2_with fail
  clear G1c G1f
  refine (G1.out.pick hx 200 (by omega) (by omega) (by omega)).mono ?_
  rintro e w3 ⟨le, rfl, le1, le2, G2k, G2s⟩
  have G2c := G2s.cell
  have G2f := G2s.froz
  have G2 := Lib.hid (G2s.store 2 (I (1 + le)))
  have KP := Lib.hid ((KP.out.trans G2k).putNew w1.heap.size 2 (I (1 + le)) (Nat.le_refl _))
  clear G2k G2s
  go_wp2_with fail
  clear G2c G2f
  have HZR := Lib.hid (Row.new (w3.setCell ⟨w1.heap.size, 2, none⟩ (I (1 + le))) #[.string ⟨#[122]⟩, .string ⟨#[69, 97, 114, 116, 104, 47, 78, 111, 114, 116, 104]⟩, .string ⟨#[117, 116, 99, 45, 50]⟩, .string ⟨#[120, 32, 121]⟩] 9)
  have GZ := Lib.hid (G2.out.step (G2.out.mkr.grow (below_var _ (.cells #[.string ⟨#[122]⟩, .string ⟨#[69, 97, 114, 116, 104, 47, 78, 111, 114, 116, 104]⟩, .string ⟨#[117, 116, 99, 45, 50]⟩, .string ⟨#[120, 32, 121]⟩] 9))) (MKeep.of_below (below_var _ (.cells #[.string ⟨#[122]⟩, .string ⟨#[69, 97, 114, 116, 104, 47, 78, 111, 114, 116, 104]⟩, .string ⟨#[117, 116, 99, 45, 50]⟩, .string ⟨#[120, 32, 121]⟩] 9))))
  have KP := Lib.hid (KP.out.trans (MKeep.of_below (below_var _ (.cells #[.string ⟨#[122]⟩, .string ⟨#[69, 97, 114, 116, 104, 47, 78, 111, 114, 116, 104]⟩, .string ⟨#[117, 116, 99, 45, 50]⟩, .string ⟨#[120, 32, 121]⟩] 9))))
  refine (GZ.out.pick hx 4 (by omega) (by omega) (by omega)).mono ?_
  rintro e w4 ⟨zi, rfl, z1, z2, G3k, G3s⟩
  obtain ⟨zn, rfl⟩ := Int.eq_ofNat_of_zero_le z1
  have hzn : zn < 4 := by omega
  have hsz3 : (w3.setCell ⟨w1.heap.size, 2, none⟩ (I (1 + le))).heap.size = w3.heap.size := by simp [World.setCell]
  rw [hsz3] at HZR
  have hz3 : mb < w3.heap.size := by have := G2.out.mkr.lt; rw [hsz3] at this; exact this
  obtain ⟨zv, hzv, hzok⟩ : ∃ zv, (#[.string ⟨#[122]⟩, .string ⟨#[69, 97, 114, 116, 104, 47, 78, 111, 114, 116, 104]⟩, .string ⟨#[117, 116, 99, 45, 50]⟩, .string ⟨#[120, 32, 121]⟩] : Array Value)[zn]? = some (.string zv) ∧ ZoneOK zv := by
    match zn, hzn with
    | 0, _ => exact ⟨_, rfl, .inl rfl⟩
    | 1, _ => exact ⟨_, rfl, .inr (.inl rfl)⟩
    | 2, _ => exact ⟨_, rfl, .inr (.inr (.inl rfl))⟩
    | 3, _ => exact ⟨_, rfl, .inr (.inr (.inr rfl))⟩
  have hzc : w4.cell? ⟨w3.heap.size, zn, none⟩ = some (.string zv) := (World.cell?_of_block (a := ⟨w3.heap.size, zn, none⟩) (G3k.block _ HZR.out.1 (by show w3.heap.size ≠ mb; omega))).trans ((HZR.out.2 zn).trans hzv)
  have hznI : (zn : Int) < 4 := by omega
  have HZOK := Lib.hid hzok
  have G3c := G3s.cell
  have G3f := G3s.froz
  have G3 := Lib.hid (G3s.store 3 (.string zv))
  have KP := Lib.hid ((KP.out.trans G3k).putNew w1.heap.size 3 (.string zv) (Nat.le_refl _))
  clear G3k G3s hzv hzok hsz3 HZR z1 z2
  go_wp2_with fail
  clear G3c G3f hzc
  refine (G3.out.pick hx 3 (by omega) (by omega) (by omega)).mono ?_
  rintro e w5 ⟨gp, rfl, gp1, gp2, G4k, G4s⟩
  have G4c := G4s.cell
  have G4f := G4s.froz
  have G4 := Lib.hid (G4s.store 4 (I gp))
  have KP := Lib.hid ((KP.out.trans G4k).putNew w1.heap.size 4 (I gp) (Nat.le_refl _))
  clear G4k G4s
  go_wp2_with fail
  clear G4c G4f
  refine (G4.out.pick hx 3 (by omega) (by omega) (by omega)).mono ?_
  rintro e w6 ⟨fo, rfl, fo1, fo2, G5k, G5s⟩
  have G5c := G5s.cell
  have G5f := G5s.froz
  have G5 := Lib.hid (G5s.store 5 (I fo))
  have KP := Lib.hid ((KP.out.trans G5k).putNew w1.heap.size 5 (I fo) (Nat.le_refl _))
  clear G5k G5s
  go_wp2_with fail
  clear G5c G5f
  refine (G5.out.pick hx 20 (by omega) (by omega) (by omega)).mono ?_
  rintro e w7 ⟨dy, rfl, dy1, dy2, G6k, G6s⟩
  have G6 := Lib.hid G6s
  have KP := Lib.hid (KP.out.trans G6k)
  clear G6k G6s
  go_wp2_with fail
  refine (G6.out.pick hx 3 (by omega) (by omega) (by omega)).mono ?_
  rintro e w8 ⟨kk, rfl, kk1, kk2, G7k, G7s⟩
  have G7 := Lib.hid G7s
  have KP := Lib.hid (KP.out.trans G7k)
  clear G7k G7s
  go_wp2_with fail
  have hg7 : w1.heap.size + 1 ≤ w8.heap.size := G7.out.lt
  have GL : Hid (GS 30 zSerC w mb xs _ n1 w.heap.size w1.heap.size (serA (.slice (some ⟨gr, 0, none⟩) ns.length cr) mi le zv gp fo (.slice none 0 0)) w8) := Lib.hid G7.out
  clear G0 G1 G2 GZ G3 G4 G5 G6 G7 HM0
  go_loopw [5, 7] (fun d i wr => MsRel w w1 mb xs n1 (a1 + 20) (.slice (some ⟨gr, 0, none⟩) ns.length cr) mi le zv gp fo kk d i wr) (fun _ i _ => (kk - intOf i).toNat)
  case atStart => exact ⟨0, dy, [], _, .slice none 0 0, by omega, rfl, rfl, dy1, by omega, rfl, ⟨(fun m hm => nomatch hm), List.Pairwise.nil⟩, by omega, GL.out, World.ownsRow_nil _ _ _ _, KP.out⟩
  case round =>
    obtain ⟨j, dd, ms, a', vm, hj, rfl, rfl, hd1, hd2, hms, hmok, ha', hgs, hown, hkp⟩ := hrel
    have HG := Lib.hid hgs
    have HO := Lib.hid hown
    have HKP := Lib.hid hkp
    have HOK := Lib.hid hmok
    have hc := hgs.cell
    have hlt6 := hgs.lt
    have hml2 : ms.length ≤ 2 := by omega
    have HMS := Lib.hid hms
    clear hgs hown hkp hmok GL KP hms
    by_cases hlt : (j : Int) < kk
    · have hc6 : wr.cell? ⟨w1.heap.size, 6, none⟩ = some vm := hc 6
      clear hc
      have HGD : Hid (GS 30 zSerC w mb xs a' n1 w.heap.size w1.heap.size (serA (.slice (some ⟨gr, 0, none⟩) ns.length cr) mi le zv gp fo vm) wr.drew) := Lib.hid ⟨HG.out.hm, HG.out.mkr, HG.out.keep.draw, HG.out.lo, HG.out.ne, HG.out.res, HG.out.var⟩
      have HOD : Hid (wr.drew.ownsRow (w1.heap.size + 1) 25 5 vm ms.length (mvsCells ms)) := Lib.hid HO.out
      have HKD := Lib.hid HKP.out.draw
      go_wp2_with fail
      clear HG HO HKP
      go_region_law (first
        | (refine step_append_lies _ (by rfl) _ _ _ (by rfl) (w1.heap.size + 1) 25 i0 (.agg zMove) 5 40 Tryz.underlying28 hi hz0 hz1 hz2 rfl (by omega) vm ms.length (mvsCells ms) (by rfl) (HO5.out.alloc _) ⟨w5.heap.size, 0, none⟩ 1 1 (mvCells m).toList (by rfl) rfl (cells_newM m) (moves_ok m) (by omega) (by unfold maxLen; omega) (by omega) (by simp; omega) _ rfl ?_; intro gg cap w6 hown6 hgrow6 hat6 hlt6'; have HG6 := Lib.hid (HS5.out.grown HO5.out (Nat.lt_succ_self _) hgrow6); have HK6 := Lib.hid (mkeep_grown HK5.out (ownsRow_base' HO5.out (Nat.le_succ _)) hgrow6); have HO6 := Lib.hid hown6; have hc66 : w6.cell? ⟨w1.heap.size, 6, none⟩ = some vm := HG6.out.cell 6; have hf66 := HG6.out.froz 6; clear hown6 hgrow6 hat6)
        | (go_simp; go_at_call 54; refine (madeMove_any _ mb xs a' n1 dd HGD.out.mkr hx (by omega)).mono ?_; rintro e w5 ⟨m, a5, rfl, hmv, hm5, ha5, hk5⟩; have HS5 := Lib.hid (HGD.out.step hm5 hk5); have hc5 : w5.cell? ⟨w1.heap.size, 6, none⟩ = some vm := HS5.out.cell 6; have hl5 := HS5.out.lt; have HO5 := Lib.hid (ownsRow_mkeep HOD.out hk5 (by omega)); have HK5 := Lib.hid (HKD.out.trans hk5); have HMV := Lib.hid hmv; have HA5 := Lib.hid ha5; clear hmv hm5 ha5 hk5))
      all_goals
        go_wp2_with fail
        have HG7 := Lib.hid (HG6.out.store 6 (.slice (some ⟨gg, 0, none⟩) (ms.length + 1) cap))
        have HK7 := Lib.hid (HK6.out.putNew w1.heap.size 6 (.slice (some ⟨gg, 0, none⟩) (ms.length + 1) cap) (Nat.le_refl _))
        have HO7 := Lib.hid (ownsRow_setCell_below (a := ⟨w1.heap.size, 6, none⟩) HO6.out (Nat.lt_succ_self _) (.slice (some ⟨gg, 0, none⟩) (ms.length + 1) cap))
        refine (HG7.out.pick hx 9 (by have := HA5.out; omega) (by omega) (by omega)).mono ?_
        rintro e w9 ⟨r, rfl, hr1, hr2, hk9, hg9⟩
        have HG9 := Lib.hid hg9
        have HO9 := Lib.hid (ownsRow_mkeep HO7.out hk9 (by omega))
        have HK9 := Lib.hid (HK7.out.trans hk9)
        clear hk9 hg9
        go_wp2_with fail
        go_roundw
        case rel => exact ⟨j + 1, _, ms ++ [m], a5 + 1, _, by omega, by go_num, by first | rfl | go_num, by omega, by push_cast; omega, by rw [List.length_append, HMS.out]; rfl, HOK.out.more HMV.out hd1 hr1, by have := HA5.out; omega, HG9.out, by rw [mvsCells_snoc, List.length_append]; exact HO9.out, HK9.out⟩
        case measure => simp [intOf]; omega
    · obtain ⟨Am, mm, cm, rfl⟩ := own_slice HO.out
      have HRW := Lib.hid HG.out.row
      go_wp2_with (first
        | (with_reducible refine g_load 30 ?_; refine wpList_load_Row rfl _ _ rfl w1.heap.size rfl (serA (.slice (some ⟨gr, 0, none⟩) ns.length cr) mi le zv gp fo (.slice Am mm cm)) HRW.out _ Tryz.underlying30 rfl (ser_size _ _ _ _ _ _ _) ?_)
        | (with_reducible refine g_store 30 ?_; refine wpList_store_row rfl _ _ _ rfl w.heap.size (serA (.slice (some ⟨gr, 0, none⟩) ns.length cr) mi le zv gp fo (.slice Am mm cm)) rfl rfl 30 zSerC HG.out.res (ser_size _ _ _ _ _ _ _) rfl (ser_one _ _ _ _ _ _ _ _ _ _ _) ?_))
      have hsz := HKP.out.size
      have hsm : SerMade w ns ms mi (1 + le) zv gp fo (.slice (some ⟨gr, 0, none⟩) ns.length cr) (.slice Am mm cm) (wr.setRow w.heap.size (serA (.slice (some ⟨gr, 0, none⟩) ns.length cr) mi le zv gp fo (.slice Am mm cm))) :=
        { rule := (HRU.out.mkeep HKP.out (by omega)).of_blocks (by simp) fun k hk _ => setRow_other _ _ k _ (by omega)
          made := HMR.out, len := hns, within := HWI.out
          moves := ownsRow_base' (ownsRow_blocks HO.out fun k hk _ => setRow_other _ _ k _ (by omega)) (by omega)
          mok := ⟨dd, by omega, HOK.out⟩, mlen := by omega, min := ⟨mi1, mi2⟩, lng := ⟨by omega, by omega⟩, zone := HZOK.out, gap := ⟨gp1, gp2⟩, fold := ⟨fo1, fo2⟩ }
      exact bodyPost_ret (v := .agg (serA (.slice (some ⟨gr, 0, none⟩) ns.length cr) mi le zv gp fo (.slice Am mm cm))) (results_cell_row rfl _ _ w.heap.size _ (serA (.slice (some ⟨gr, 0, none⟩) ns.length cr) mi le zv gp fo (.slice Am mm cm)) (0, 0) _ rfl (setRow_heap _ _ _ _ _ _ HG.out.res) Tryz.underlying30 rfl (ser_size _ _ _ _ _ _ _)) rfl ⟨ns, ms, mi, 1 + le, zv, gp, fo, _, _, a', n1, rfl, hsm, HG.out.fin.1, by have := HA1.out; omega, HN1.out, HG.out.fin.2⟩
end Go.Proofs.YtpgagfmpikhpkaaGreatDoor

/- Equality of lists of numbers: kalendsref20.SameInts, slices.Equal. -/
namespace Go.Proofs.YtpgagfmpikhpkaaGreatDoor
open Go Go.RowKit

theorem beq_takeI (xs ys : List Int) (hl : xs.length = ys.length) : (∀ j, j < xs.length → xs[j]?.getD 0 = ys[j]?.getD 0) ↔ xs = ys := by
  constructor
  · intro h
    apply List.ext_getElem hl
    intro i h1 h2
    have := h i h1
    simpa [h1, h2] using this
  · rintro rfl _ _; rfl
def SameRelI (n : Nat) (xs ys : List Int) (i : Value) : Prop := ∃ k : Nat, k ≤ n ∧ i = .int .i64 k ∧ ∀ j, j < k → xs[j]?.getD 0 = ys[j]?.getD 0
theorem ints_ne {x y : Int} (h : x ≠ y) : (x != y) = true := by rw [neq_dec]; exact decide_eq_true h
theorem ints_same (x : Int) : (x != x) = false := by rw [neq_dec]; exact decide_eq_false (by omega)
set_option maxRecDepth 10000 in
set_option maxHeartbeats 1000000 in
theorem sameInts_ne (A B : Option Addr) (n m c d : Nat) (w : World) (h : n ≠ m) :
    Calls Tryz.prog 24 #[.slice A n c, .slice B m d] w fun e w' => e = .returned (.bool false) ∧ w = w' := by
  have hb : ((n : Int) != (m : Int)) = true := by rw [neq_dec]; exact decide_eq_true (by omega)
  go_enter Tryz.func24, Tryz.ntmps24
  go_wp2
  go_ret
  exact ⟨rfl, rfl⟩
set_option maxRecDepth 10000 in
set_option maxHeartbeats 1000000 in
theorem sameInts_some (b1 o1 b2 o2 n c d : Nat) (xs ys : List Int) (hx : xs.length = n) (hy : ys.length = n) (w : World) (hA : ∀ j, j < n → w.cell? ⟨b1, o1 + j, none⟩ = some (I (xs[j]?.getD 0))) (hB : ∀ j, j < n → w.cell? ⟨b2, o2 + j, none⟩ = some (I (ys[j]?.getD 0))) (hn : n ≤ 140737488355328) :
    Calls Tryz.prog 24 #[.slice (some ⟨b1, o1, none⟩) n c, .slice (some ⟨b2, o2, none⟩) n d] w (Gives (.bool (xs == ys)) w) := by
  have hb : ((n : Int) != (n : Int)) = false := by rw [neq_dec]; exact decide_eq_false (by omega)
  have HX := Lib.hid hx
  have HY := Lib.hid hy
  have HA := Lib.hid hA
  have HB := Lib.hid hB
  clear hx hy hA hB
  go_enter Tryz.func24, Tryz.ntmps24
  go_wp2
  go_loopw [5] (fun i wr => SameRelI n xs ys i ∧ ∃ q, wr = w.drewN q) (fun i _ => n - (intOf i).toNat)
  case atStart => exact ⟨⟨0, Nat.zero_le _, rfl, fun j hj => absurd hj (by omega)⟩, 0, rfl⟩
  case round =>
    obtain ⟨⟨k, hk, rfl, hall⟩, q, rfl⟩ := hrel
    have HL := Lib.hid hall
    clear hall
    by_cases hlt : k < n
    · have h1 := HA.out k hlt
      have h2 := HB.out k hlt
      obtain ⟨x, hx⟩ : ∃ x, xs[k]?.getD 0 = x := ⟨_, rfl⟩
      obtain ⟨y, hy⟩ : ∃ y, ys[k]?.getD 0 = y := ⟨_, rfl⟩
      rw [hx] at h1
      rw [hy] at h2
      have HX1 := Lib.hid hx
      have HY1 := Lib.hid hy
      clear hx hy
      have i0 : (0 : Int) ≤ (k : Int) := by omega
      have i1 : (k : Int) < (n : Int) := by omega
      by_cases hxy : x = y
      · subst hxy
        have hne := ints_same x
        go_wp2
        go_quiet (fail)
        go_wp2
        go_roundw
        case rel => exact ⟨⟨k + 1, by omega, by go_num, fun j hj => by
            rcases Nat.lt_succ_iff_lt_or_eq.1 hj with h | h
            · exact HL.out j h
            · subst h; rw [HX1.out, HY1.out]⟩, _, rfl⟩
        case measure => simp [intOf]; omega
      · have hne := ints_ne hxy
        have HXY := Lib.hid hxy
        clear hxy
        go_wp2
        go_quiet (fail)
        go_wp2
        go_ret
        refine ⟨ret_bool ?_, ?_⟩
        · symm; rw [beq_eq_false_iff_ne]; intro e; exact HXY.out (by rw [← HX1.out, ← HY1.out, e])
        · first | exact below_drewN' _ _ | (rw [World.drewN_drewN]; exact below_drewN' _ _)
    · have he : xs = ys := (beq_takeI xs ys (HX.out.trans HY.out.symm)).1 (fun j hj => HL.out j (by have := HX.out; omega))
      have HE := Lib.hid he
      clear he
      go_wp2
      go_ret
      exact ⟨ret_bool (by rw [HE.out]; simp), below_drewN' _ _⟩
set_option maxRecDepth 10000 in
set_option maxHeartbeats 1000000 in
theorem sameInts_none (A B : Option Addr) (c d : Nat) (w : World) :
    Calls Tryz.prog 24 #[.slice A 0 c, .slice B 0 d] w (Gives (.bool true) w) := by
  go_enter Tryz.func24, Tryz.ntmps24
  go_wp2
  go_loop [5] (fun i => i = .int .i64 0) (fun _ => 0)
  case atStart => rfl
  case round =>
    subst hrel
    go_wp2
    go_ret
    exact ⟨rfl, Below.refl _ _⟩
theorem sameInts_any (A B : Option Addr) (c d : Nat) (xs ys : List Int) (w : World) (hA : IntsAt w w.heap.size A xs) (hB : IntsAt w w.heap.size B ys) (hn : xs.length ≤ 140737488355328) :
    Calls Tryz.prog 24 #[.slice A xs.length c, .slice B ys.length d] w (Gives (.bool (xs == ys)) w) := by
  by_cases h : xs.length = ys.length
  · by_cases h0 : xs.length = 0
    · have h1 : ys.length = 0 := by omega
      have e1 := List.eq_nil_of_length_eq_zero h0
      have e2 := List.eq_nil_of_length_eq_zero h1
      subst e1 e2
      exact sameInts_none A B c d w
    · rcases hA with hA | ⟨b1, o1, rfl, _, hc1⟩
      · exact absurd hA h0
      · rcases hB with hB | ⟨b2, o2, rfl, _, hc2⟩
        · omega
        · rw [← h]
          exact sameInts_some b1 o1 b2 o2 _ c d xs ys rfl h.symm w hc1 (fun j hj => hc2 j (by omega)) hn
  · have e : (xs == ys) = false := beq_eq_false_iff_ne.2 (fun e => h (by rw [e]))
    rw [e]
    exact (sameInts_ne A B _ _ c d w h).mono fun e w' ⟨he, hw⟩ => ⟨he, by rw [← hw]; exact Below.refl _ _⟩
set_option maxRecDepth 10000 in
set_option maxHeartbeats 1000000 in
theorem eqInts_ne (A B : Option Addr) (n m c d : Nat) (w : World) (h : n ≠ m) :
    Calls Tryz.prog 27 #[.slice A n c, .slice B m d] w fun e w' => e = .returned (.bool false) ∧ w = w' := by
  have hb : ((n : Int) != (m : Int)) = true := by rw [neq_dec]; exact decide_eq_true (by omega)
  go_enter Tryz.func27, Tryz.ntmps27
  go_wp2
  go_ret
  exact ⟨rfl, rfl⟩
set_option maxRecDepth 10000 in
set_option maxHeartbeats 1000000 in
theorem eqInts_some (b1 o1 b2 o2 n c d : Nat) (xs ys : List Int) (hx : xs.length = n) (hy : ys.length = n) (w : World) (hA : ∀ j, j < n → w.cell? ⟨b1, o1 + j, none⟩ = some (I (xs[j]?.getD 0))) (hB : ∀ j, j < n → w.cell? ⟨b2, o2 + j, none⟩ = some (I (ys[j]?.getD 0))) (hn : n ≤ 140737488355328) :
    Calls Tryz.prog 27 #[.slice (some ⟨b1, o1, none⟩) n c, .slice (some ⟨b2, o2, none⟩) n d] w (Gives (.bool (xs == ys)) w) := by
  have hb : ((n : Int) != (n : Int)) = false := by rw [neq_dec]; exact decide_eq_false (by omega)
  have HX := Lib.hid hx
  have HY := Lib.hid hy
  have HA := Lib.hid hA
  have HB := Lib.hid hB
  clear hx hy hA hB
  go_enter Tryz.func27, Tryz.ntmps27
  go_wp2
  go_loopw [13] (fun i wr => SameRelI n xs ys i ∧ ∃ q, wr = w.drewN q) (fun i _ => n - (intOf i).toNat)
  case atStart => exact ⟨⟨0, Nat.zero_le _, rfl, fun j hj => absurd hj (by omega)⟩, 0, rfl⟩
  case round =>
    obtain ⟨⟨k, hk, rfl, hall⟩, q, rfl⟩ := hrel
    have HL := Lib.hid hall
    clear hall
    by_cases hlt : k < n
    · have h1 := HA.out k hlt
      have h2 := HB.out k hlt
      obtain ⟨x, hx⟩ : ∃ x, xs[k]?.getD 0 = x := ⟨_, rfl⟩
      obtain ⟨y, hy⟩ : ∃ y, ys[k]?.getD 0 = y := ⟨_, rfl⟩
      rw [hx] at h1
      rw [hy] at h2
      have HX1 := Lib.hid hx
      have HY1 := Lib.hid hy
      clear hx hy
      have i0 : (0 : Int) ≤ (k : Int) := by omega
      have i1 : (k : Int) < (n : Int) := by omega
      by_cases hxy : x = y
      · subst hxy
        have hne := ints_same x
        go_wp2
        go_quiet (fail)
        go_wp2
        go_roundw
        case rel => exact ⟨⟨k + 1, by omega, by go_num, fun j hj => by
            rcases Nat.lt_succ_iff_lt_or_eq.1 hj with h | h
            · exact HL.out j h
            · subst h; rw [HX1.out, HY1.out]⟩, _, rfl⟩
        case measure => simp [intOf]; omega
      · have hne := ints_ne hxy
        have HXY := Lib.hid hxy
        clear hxy
        go_wp2
        go_quiet (fail)
        go_wp2
        go_ret
        refine ⟨ret_bool ?_, ?_⟩
        · symm; rw [beq_eq_false_iff_ne]; intro e; exact HXY.out (by rw [← HX1.out, ← HY1.out, e])
        · first | exact below_drewN' _ _ | (rw [World.drewN_drewN]; exact below_drewN' _ _)
    · have he : xs = ys := (beq_takeI xs ys (HX.out.trans HY.out.symm)).1 (fun j hj => HL.out j (by have := HX.out; omega))
      have HE := Lib.hid he
      clear he
      go_wp2
      go_ret
      exact ⟨ret_bool (by rw [HE.out]; simp), below_drewN' _ _⟩
set_option maxRecDepth 10000 in
set_option maxHeartbeats 1000000 in
theorem eqInts_none (A B : Option Addr) (c d : Nat) (w : World) :
    Calls Tryz.prog 27 #[.slice A 0 c, .slice B 0 d] w (Gives (.bool true) w) := by
  go_enter Tryz.func27, Tryz.ntmps27
  go_wp2
  go_loop [13] (fun i => i = .int .i64 0) (fun _ => 0)
  case atStart => rfl
  case round =>
    subst hrel
    go_wp2
    go_ret
    exact ⟨rfl, Below.refl _ _⟩
theorem eqInts_any (A B : Option Addr) (c d : Nat) (xs ys : List Int) (w : World) (hA : IntsAt w w.heap.size A xs) (hB : IntsAt w w.heap.size B ys) (hn : xs.length ≤ 140737488355328) :
    Calls Tryz.prog 27 #[.slice A xs.length c, .slice B ys.length d] w (Gives (.bool (xs == ys)) w) := by
  by_cases h : xs.length = ys.length
  · by_cases h0 : xs.length = 0
    · have h1 : ys.length = 0 := by omega
      have e1 := List.eq_nil_of_length_eq_zero h0
      have e2 := List.eq_nil_of_length_eq_zero h1
      subst e1 e2
      exact eqInts_none A B c d w
    · rcases hA with hA | ⟨b1, o1, rfl, _, hc1⟩
      · exact absurd hA h0
      · rcases hB with hB | ⟨b2, o2, rfl, _, hc2⟩
        · omega
        · rw [← h]
          exact eqInts_some b1 o1 b2 o2 _ c d xs ys rfl h.symm w hc1 (fun j hj => hc2 j (by omega)) hn
  · have e : (xs == ys) = false := beq_eq_false_iff_ne.2 (fun e => h (by rw [e]))
    rw [e]
    exact (eqInts_ne A B _ _ c d w h).mono fun e w' ⟨he, hw⟩ => ⟨he, by rw [← hw]; exact Below.refl _ _⟩
end Go.Proofs.YtpgagfmpikhpkaaGreatDoor
