/- The texts Leaf, RuleD, Over, Moved, Both, RuleS, in this order. -/
import Derived.Test.YtenbgpcdoljkgaaGreatDoorLeafD
import Derived.Great.BuildSlice
import Derived.Deep.DeepCutAuto
import Derived.Deep.CutBlock
/- (*kalendsref07.Maker).leaf: a leaf in the ranges that its kind asks for. -/
namespace Go.Proofs.YtenbgpcdoljkgaaGreatDoor
open Go Go.RowKit

section
variable {P : Program} {ops : Array Oper} {Q : Exit → Act → World → Prop} {a : Act} {w : World} {rest : List Oper} {d : Option Tmp} {t : TypeId} {pos : String} {af : Array Edge} {g : Option (Nat × Bool)}
theorem g_load (ty : TypeId) {x : Operand} (h : wpList P ops Q (⟨d, .load ty x, t, pos, af, g⟩ :: rest) a w) : wpList P ops Q (⟨d, .load ty x, t, pos, af, g⟩ :: rest) a w := h
theorem g_store (ty : TypeId) {x y : Operand} (h : wpList P ops Q (⟨d, .store ty x y, t, pos, af, g⟩ :: rest) a w) : wpList P ops Q (⟨d, .store ty x y, t, pos, af, g⟩ :: rest) a w := h
end
def LeafOK (cals : Int) (d : Nd) : Prop :=
  d.r = 0 ∧
  ((d.kind = 1 ∧ d.cal = 0 ∧ d.l = 0 ∧ 1 ≤ d.n ∧ d.n ≤ 12 ∧ 0 ≤ d.m ∧ d.m < 20 ∧ d.list = [] ∧ d.name = ⟨#[]⟩) ∨
   (d.kind = 2 ∧ 0 ≤ d.cal ∧ d.cal < cals ∧ d.l = 0 ∧ 1 ≤ d.n ∧ d.n ≤ 4 ∧ 0 ≤ d.m ∧ d.m < d.n ∧ d.list = [] ∧ d.name = ⟨#[]⟩) ∨
   (d.kind = 3 ∧ 0 ≤ d.cal ∧ d.cal < cals ∧ d.l = 0 ∧ d.n = 0 ∧ d.m = 0 ∧ Rising 1 4 d.list ∧ d.name = ⟨#[]⟩) ∨
   (d.kind = 4 ∧ 0 ≤ d.cal ∧ d.cal < cals ∧ d.l = 0 ∧ d.n = 0 ∧ d.m = 0 ∧ Rising (-4) 7 d.list ∧ d.name = ⟨#[]⟩) ∨
   (d.kind = 5 ∧ d.cal = 0 ∧ d.l = 0 ∧ d.n = 0 ∧ d.m = 0 ∧ Rising 0 6 d.list ∧ d.name = ⟨#[]⟩) ∨
   (d.kind = 6 ∧ 0 ≤ d.cal ∧ d.cal < cals ∧ d.l = 0 ∧ d.n = 0 ∧ d.m = 0 ∧ Rising 1 4 d.list ∧ d.name = ⟨#[]⟩) ∨
   (d.kind = 7 ∧ 0 ≤ d.cal ∧ d.cal < cals ∧ 0 ≤ d.l ∧ d.l < 2 ∧ ((1 ≤ d.n ∧ d.n ≤ 3) ∨ (-3 ≤ d.n ∧ d.n ≤ -1)) ∧ 0 ≤ d.m ∧ d.m < 7 ∧ d.list = [] ∧ d.name = ⟨#[]⟩) ∨
   (d.kind = 18 ∧ d.cal = 0 ∧ d.l = 0 ∧ d.n = 0 ∧ d.m = 0 ∧ d.list = [] ∧ ∃ k : Int, 0 ≤ k ∧ k < 2 ∧ d.name = ⟨#[110]⟩ ++ digit k))
set_option maxRecDepth 10000 in
set_option maxHeartbeats 4000000 in
theorem leaf_any (w : World) (mb : Nat) (xs : List Int) (at_ nodes : Nat) (cals : Int) (h : MkSt w mb xs at_ nodes) (hx : XsOK xs) (hat : at_ ≤ 10000000) (hc1 : 0 < cals) (hc2 : cals ≤ 1000) :
    Calls Tryz.prog 79 #[pt mb, I cals] w (Leafed w mb xs at_ nodes (LeafOK cals)) := by
  have HM0 := Lib.hid (h.grow (below_var w (.cells zNode 85)))
  have HX := Lib.hid hx
  have hml := h.lt
  clear h hx
  go_enter Tryz.func79, Tryz.ntmps79
  go_wp2_with fail
  refine (pick_any _ mb xs at_ nodes 8 HM0.out HX.out (by omega) (by omega) (by omega)).mono ?_
  rintro e w1 ⟨r, rfl, hr1, hr2, hm1, hk1⟩
  have HM1 := Lib.hid hm1
  have HK1 := Lib.hid hk1
  have hlt1 : mb < w1.heap.size := hm1.lt
  clear hm1 hk1 HM0
  have hr : r = 0 ∨ r = 1 ∨ r = 2 ∨ r = 3 ∨ r = 4 ∨ r = 5 ∨ r = 6 ∨ r = 7 := by omega
  clear hr1 hr2
  rcases hr with rfl | rfl | rfl | rfl | rfl | rfl | rfl | rfl
  · have L0 : Hid (LS w mb xs (at_ + 1) nodes w.heap.size w1.heap.size #[I 1, I 0, I 0, I 0, I 0, I 0, .slice none 0 0, .string ⟨#[]⟩] (w1.alloc (.cells #[I 1, I 0, I 0, I 0, I 0, I 0, .slice none 0 0, .string ⟨#[]⟩] 85))) := Lib.hid (LS.start HM1.out hml HK1.out)
    have L0c := L0.out.cell
    have L0f := L0.out.froz
    go_wp2_with fail
    clear L0c L0f
    refine (L0.out.pick HX.out 12 (by omega) (by omega) (by omega)).mono ?_
    rintro e w2 ⟨n, rfl, n1, n2, L1S⟩
    have L1c := L1S.cell
    have L1f := L1S.froz
    have L1 := Lib.hid (L1S.store 4 (I (1 + n)))
    clear L1S
    go_wp2_with fail
    clear L1c L1f
    refine (L1.out.pick HX.out 20 (by omega) (by omega) (by omega)).mono ?_
    rintro e w3 ⟨m, rfl, m1, m2, L2S⟩
    have L2c := L2S.cell
    have L2f := L2S.froz
    have L2 := Lib.hid (L2S.store 5 (I m))
    clear L2S
    have HD : Hid (LS w mb xs _ nodes w.heap.size w1.heap.size (ndCells ⟨1, 0, 0, 0, 1 + n, m, [], ⟨#[]⟩⟩ none 0) _) := Lib.hid L2.out
    have HRW : Hid (Row _ w1.heap.size (ndCells ⟨1, 0, 0, 0, 1 + n, m, [], ⟨#[]⟩⟩ none 0)) := Lib.hid ⟨HD.out.lt, HD.out.cell⟩
    go_wp2_with (first
      | (with_reducible refine g_load 85 ?_; refine wpList_load_Row rfl _ _ rfl w1.heap.size rfl (ndCells ⟨1, 0, 0, 0, 1 + n, m, [], ⟨#[]⟩⟩ none 0) HRW.out _ Tryz.underlying85 rfl (nd_size _ _ _) ?_)
      | (with_reducible refine g_store 85 ?_; refine wpList_store_row rfl _ _ _ rfl w.heap.size (ndCells ⟨1, 0, 0, 0, 1 + n, m, [], ⟨#[]⟩⟩ none 0) rfl rfl 85 zNode HD.out.res (nd_size _ _ _) rfl (nd_one _ _ _) ?_))
    exact bodyPost_ret (v := .agg (ndCells ⟨1, 0, 0, 0, 1 + n, m, [], ⟨#[]⟩⟩ none 0)) (results_cell_row rfl _ _ w.heap.size _ (ndCells ⟨1, 0, 0, 0, 1 + n, m, [], ⟨#[]⟩⟩ none 0) (0, 0) _ rfl (setRow_heap _ _ _ _ _ _ HD.out.res) Tryz.underlying85 rfl (nd_size _ _ _)) rfl (HD.out.done at_ (by omega) _ (⟨rfl, .inl ⟨rfl, rfl, rfl, by show 1 ≤ 1 + n; omega, by show 1 + n ≤ 12; omega, m1, m2, rfl, rfl⟩⟩) (.inl rfl))
  · have L0 : Hid (LS w mb xs (at_ + 1) nodes w.heap.size w1.heap.size #[I 2, I 0, I 0, I 0, I 0, I 0, .slice none 0 0, .string ⟨#[]⟩] (w1.alloc (.cells #[I 2, I 0, I 0, I 0, I 0, I 0, .slice none 0 0, .string ⟨#[]⟩] 85))) := Lib.hid (LS.start HM1.out hml HK1.out)
    have L0c := L0.out.cell
    have L0f := L0.out.froz
    go_wp2_with fail
    clear L0c L0f
    refine (L0.out.pick HX.out cals (by omega) (by omega) (by omega)).mono ?_
    rintro e w2 ⟨q, rfl, q1, q2, L1S⟩
    have L1c := L1S.cell
    have L1f := L1S.froz
    have L1 := Lib.hid (L1S.store 1 (I q))
    clear L1S
    go_wp2_with fail
    clear L1c L1f
    refine (L1.out.pick HX.out 4 (by omega) (by omega) (by omega)).mono ?_
    rintro e w3 ⟨n, rfl, n1, n2, L2S⟩
    have L2c := L2S.cell
    have L2f := L2S.froz
    have L2 := Lib.hid (L2S.store 4 (I (1 + n)))
    clear L2S
    go_wp2_with fail
    clear L2c L2f
    refine (L2.out.pick HX.out (1 + n) (by omega) (by omega) (by omega)).mono ?_
    rintro e w4 ⟨m, rfl, m1, m2, L3S⟩
    have L3c := L3S.cell
    have L3f := L3S.froz
    have L3 := Lib.hid (L3S.store 5 (I m))
    clear L3S
    have HD : Hid (LS w mb xs _ nodes w.heap.size w1.heap.size (ndCells ⟨2, q, 0, 0, 1 + n, m, [], ⟨#[]⟩⟩ none 0) _) := Lib.hid L3.out
    have HRW : Hid (Row _ w1.heap.size (ndCells ⟨2, q, 0, 0, 1 + n, m, [], ⟨#[]⟩⟩ none 0)) := Lib.hid ⟨HD.out.lt, HD.out.cell⟩
    go_wp2_with (first
      | (with_reducible refine g_load 85 ?_; refine wpList_load_Row rfl _ _ rfl w1.heap.size rfl (ndCells ⟨2, q, 0, 0, 1 + n, m, [], ⟨#[]⟩⟩ none 0) HRW.out _ Tryz.underlying85 rfl (nd_size _ _ _) ?_)
      | (with_reducible refine g_store 85 ?_; refine wpList_store_row rfl _ _ _ rfl w.heap.size (ndCells ⟨2, q, 0, 0, 1 + n, m, [], ⟨#[]⟩⟩ none 0) rfl rfl 85 zNode HD.out.res (nd_size _ _ _) rfl (nd_one _ _ _) ?_))
    exact bodyPost_ret (v := .agg (ndCells ⟨2, q, 0, 0, 1 + n, m, [], ⟨#[]⟩⟩ none 0)) (results_cell_row rfl _ _ w.heap.size _ (ndCells ⟨2, q, 0, 0, 1 + n, m, [], ⟨#[]⟩⟩ none 0) (0, 0) _ rfl (setRow_heap _ _ _ _ _ _ HD.out.res) Tryz.underlying85 rfl (nd_size _ _ _)) rfl (HD.out.done at_ (by omega) _ (⟨rfl, .inr (.inl ⟨rfl, q1, q2, rfl, by show 1 ≤ 1 + n; omega, by show 1 + n ≤ 4; omega, m1, m2, rfl, rfl⟩)⟩) (.inl rfl))
  · have L0 : Hid (LS w mb xs (at_ + 1) nodes w.heap.size w1.heap.size #[I 3, I 0, I 0, I 0, I 0, I 0, .slice none 0 0, .string ⟨#[]⟩] (w1.alloc (.cells #[I 3, I 0, I 0, I 0, I 0, I 0, .slice none 0 0, .string ⟨#[]⟩] 85))) := Lib.hid (LS.start HM1.out hml HK1.out)
    have L0c := L0.out.cell
    have L0f := L0.out.froz
    go_wp2_with fail
    clear L0c L0f
    refine (L0.out.pick HX.out cals (by omega) (by omega) (by omega)).mono ?_
    rintro e w2 ⟨q, rfl, q1, q2, L1S⟩
    have L1c := L1S.cell
    have L1f := L1S.froz
    have L1 := Lib.hid (L1S.store 1 (I q))
    clear L1S
    go_wp2_with fail
    clear L1c L1f
    refine (L1.out.rise HX.out (1) 4 (by omega) (by omega) (by omega) (by omega) (by omega)).mono ?_
    rintro e w3 ⟨zs, A, c, a', rfl, hz, hli, ha', L2S⟩
    have L2c := L2S.cell
    have L2f := L2S.froz
    have HLI : Hid (LI (w1.heap.size + 1) _ A zs) := Lib.hid ((hli.lower L1.out.lt).of_blocks (w' := w3.setCell ⟨w1.heap.size, 6, none⟩ (.slice A zs.length c)) (by simp [World.setCell]) fun k hk1 _ => heap_setCell_other _ _ k _ (by show k ≠ w1.heap.size; omega))
    have L2 := Lib.hid (L2S.store 6 (.slice A zs.length c))
    have HZ := Lib.hid hz
    clear L2S hli hz
    have HD : Hid (LS w mb xs _ nodes w.heap.size w1.heap.size (ndCells ⟨3, q, 0, 0, 0, 0, zs, ⟨#[]⟩⟩ A c) _) := Lib.hid L2.out
    have HRW : Hid (Row _ w1.heap.size (ndCells ⟨3, q, 0, 0, 0, 0, zs, ⟨#[]⟩⟩ A c)) := Lib.hid ⟨HD.out.lt, HD.out.cell⟩
    go_wp2_with (first
      | (with_reducible refine g_load 85 ?_; refine wpList_load_Row rfl _ _ rfl w1.heap.size rfl (ndCells ⟨3, q, 0, 0, 0, 0, zs, ⟨#[]⟩⟩ A c) HRW.out _ Tryz.underlying85 rfl (nd_size _ _ _) ?_)
      | (with_reducible refine g_store 85 ?_; refine wpList_store_row rfl _ _ _ rfl w.heap.size (ndCells ⟨3, q, 0, 0, 0, 0, zs, ⟨#[]⟩⟩ A c) rfl rfl 85 zNode HD.out.res (nd_size _ _ _) rfl (nd_one _ _ _) ?_))
    exact bodyPost_ret (v := .agg (ndCells ⟨3, q, 0, 0, 0, 0, zs, ⟨#[]⟩⟩ A c)) (results_cell_row rfl _ _ w.heap.size _ (ndCells ⟨3, q, 0, 0, 0, 0, zs, ⟨#[]⟩⟩ A c) (0, 0) _ rfl (setRow_heap _ _ _ _ _ _ HD.out.res) Tryz.underlying85 rfl (nd_size _ _ _)) rfl (HD.out.done at_ (by omega) _ (⟨rfl, .inr (.inr (.inl ⟨rfl, q1, q2, rfl, rfl, rfl, HZ.out, rfl⟩))⟩) (HLI.out))
  · have L0 : Hid (LS w mb xs (at_ + 1) nodes w.heap.size w1.heap.size #[I 4, I 0, I 0, I 0, I 0, I 0, .slice none 0 0, .string ⟨#[]⟩] (w1.alloc (.cells #[I 4, I 0, I 0, I 0, I 0, I 0, .slice none 0 0, .string ⟨#[]⟩] 85))) := Lib.hid (LS.start HM1.out hml HK1.out)
    have L0c := L0.out.cell
    have L0f := L0.out.froz
    go_wp2_with fail
    clear L0c L0f
    refine (L0.out.pick HX.out cals (by omega) (by omega) (by omega)).mono ?_
    rintro e w2 ⟨q, rfl, q1, q2, L1S⟩
    have L1c := L1S.cell
    have L1f := L1S.froz
    have L1 := Lib.hid (L1S.store 1 (I q))
    clear L1S
    go_wp2_with fail
    clear L1c L1f
    refine (L1.out.rise HX.out (-4) 7 (by omega) (by omega) (by omega) (by omega) (by omega)).mono ?_
    rintro e w3 ⟨zs, A, c, a', rfl, hz, hli, ha', L2S⟩
    have L2c := L2S.cell
    have L2f := L2S.froz
    have HLI : Hid (LI (w1.heap.size + 1) _ A zs) := Lib.hid ((hli.lower L1.out.lt).of_blocks (w' := w3.setCell ⟨w1.heap.size, 6, none⟩ (.slice A zs.length c)) (by simp [World.setCell]) fun k hk1 _ => heap_setCell_other _ _ k _ (by show k ≠ w1.heap.size; omega))
    have L2 := Lib.hid (L2S.store 6 (.slice A zs.length c))
    have HZ := Lib.hid hz
    clear L2S hli hz
    have HD : Hid (LS w mb xs _ nodes w.heap.size w1.heap.size (ndCells ⟨4, q, 0, 0, 0, 0, zs, ⟨#[]⟩⟩ A c) _) := Lib.hid L2.out
    have HRW : Hid (Row _ w1.heap.size (ndCells ⟨4, q, 0, 0, 0, 0, zs, ⟨#[]⟩⟩ A c)) := Lib.hid ⟨HD.out.lt, HD.out.cell⟩
    go_wp2_with (first
      | (with_reducible refine g_load 85 ?_; refine wpList_load_Row rfl _ _ rfl w1.heap.size rfl (ndCells ⟨4, q, 0, 0, 0, 0, zs, ⟨#[]⟩⟩ A c) HRW.out _ Tryz.underlying85 rfl (nd_size _ _ _) ?_)
      | (with_reducible refine g_store 85 ?_; refine wpList_store_row rfl _ _ _ rfl w.heap.size (ndCells ⟨4, q, 0, 0, 0, 0, zs, ⟨#[]⟩⟩ A c) rfl rfl 85 zNode HD.out.res (nd_size _ _ _) rfl (nd_one _ _ _) ?_))
    exact bodyPost_ret (v := .agg (ndCells ⟨4, q, 0, 0, 0, 0, zs, ⟨#[]⟩⟩ A c)) (results_cell_row rfl _ _ w.heap.size _ (ndCells ⟨4, q, 0, 0, 0, 0, zs, ⟨#[]⟩⟩ A c) (0, 0) _ rfl (setRow_heap _ _ _ _ _ _ HD.out.res) Tryz.underlying85 rfl (nd_size _ _ _)) rfl (HD.out.done at_ (by omega) _ (⟨rfl, .inr (.inr (.inr (.inl ⟨rfl, q1, q2, rfl, rfl, rfl, HZ.out, rfl⟩)))⟩) (HLI.out))
  · have L0 : Hid (LS w mb xs (at_ + 1) nodes w.heap.size w1.heap.size #[I 5, I 0, I 0, I 0, I 0, I 0, .slice none 0 0, .string ⟨#[]⟩] (w1.alloc (.cells #[I 5, I 0, I 0, I 0, I 0, I 0, .slice none 0 0, .string ⟨#[]⟩] 85))) := Lib.hid (LS.start HM1.out hml HK1.out)
    have L0c := L0.out.cell
    have L0f := L0.out.froz
    go_wp2_with fail
    clear L0c L0f
    refine (L0.out.rise HX.out (0) 6 (by omega) (by omega) (by omega) (by omega) (by omega)).mono ?_
    rintro e w3 ⟨zs, A, c, a', rfl, hz, hli, ha', L2S⟩
    have L2c := L2S.cell
    have L2f := L2S.froz
    have HLI : Hid (LI (w1.heap.size + 1) _ A zs) := Lib.hid ((hli.lower L0.out.lt).of_blocks (w' := w3.setCell ⟨w1.heap.size, 6, none⟩ (.slice A zs.length c)) (by simp [World.setCell]) fun k hk1 _ => heap_setCell_other _ _ k _ (by show k ≠ w1.heap.size; omega))
    have L2 := Lib.hid (L2S.store 6 (.slice A zs.length c))
    have HZ := Lib.hid hz
    clear L2S hli hz
    have HD : Hid (LS w mb xs _ nodes w.heap.size w1.heap.size (ndCells ⟨5, 0, 0, 0, 0, 0, zs, ⟨#[]⟩⟩ A c) _) := Lib.hid L2.out
    have HRW : Hid (Row _ w1.heap.size (ndCells ⟨5, 0, 0, 0, 0, 0, zs, ⟨#[]⟩⟩ A c)) := Lib.hid ⟨HD.out.lt, HD.out.cell⟩
    go_wp2_with (first
      | (with_reducible refine g_load 85 ?_; refine wpList_load_Row rfl _ _ rfl w1.heap.size rfl (ndCells ⟨5, 0, 0, 0, 0, 0, zs, ⟨#[]⟩⟩ A c) HRW.out _ Tryz.underlying85 rfl (nd_size _ _ _) ?_)
      | (with_reducible refine g_store 85 ?_; refine wpList_store_row rfl _ _ _ rfl w.heap.size (ndCells ⟨5, 0, 0, 0, 0, 0, zs, ⟨#[]⟩⟩ A c) rfl rfl 85 zNode HD.out.res (nd_size _ _ _) rfl (nd_one _ _ _) ?_))
    exact bodyPost_ret (v := .agg (ndCells ⟨5, 0, 0, 0, 0, 0, zs, ⟨#[]⟩⟩ A c)) (results_cell_row rfl _ _ w.heap.size _ (ndCells ⟨5, 0, 0, 0, 0, 0, zs, ⟨#[]⟩⟩ A c) (0, 0) _ rfl (setRow_heap _ _ _ _ _ _ HD.out.res) Tryz.underlying85 rfl (nd_size _ _ _)) rfl (HD.out.done at_ (by omega) _ (⟨rfl, .inr (.inr (.inr (.inr (.inl ⟨rfl, rfl, rfl, rfl, rfl, HZ.out, rfl⟩))))⟩) (HLI.out))
  · have L0 : Hid (LS w mb xs (at_ + 1) nodes w.heap.size w1.heap.size #[I 6, I 0, I 0, I 0, I 0, I 0, .slice none 0 0, .string ⟨#[]⟩] (w1.alloc (.cells #[I 6, I 0, I 0, I 0, I 0, I 0, .slice none 0 0, .string ⟨#[]⟩] 85))) := Lib.hid (LS.start HM1.out hml HK1.out)
    have L0c := L0.out.cell
    have L0f := L0.out.froz
    go_wp2_with fail
    clear L0c L0f
    refine (L0.out.pick HX.out 2 (by omega) (by omega) (by omega)).mono ?_
    rintro e w2 ⟨t, rfl, t1, t2, L1S⟩
    have L1c := L1S.cell
    have L1f := L1S.froz
    have L1 := Lib.hid L1S
    clear L1S
    have ht : t = 0 ∨ t = 1 := by omega
    rcases ht with rfl | rfl
    · have L1k := Lib.hid (L1.out.store 0 (I 1))
      go_wp2_with fail
      clear L1c L1f
      refine (L1k.out.pick HX.out 12 (by omega) (by omega) (by omega)).mono ?_
      rintro e w3 ⟨n, rfl, n1, n2, L2S⟩
      have L2c := L2S.cell
      have L2f := L2S.froz
      have L2 := Lib.hid (L2S.store 4 (I (1 + n)))
      clear L2S
      go_wp2_with fail
      clear L2c L2f
      refine (L2.out.pick HX.out 20 (by omega) (by omega) (by omega)).mono ?_
      rintro e w4 ⟨m, rfl, m1, m2, L3S⟩
      have L3c := L3S.cell
      have L3f := L3S.froz
      have L3 := Lib.hid (L3S.store 5 (I m))
      clear L3S
      have HD : Hid (LS w mb xs _ nodes w.heap.size w1.heap.size (ndCells ⟨1, 0, 0, 0, 1 + n, m, [], ⟨#[]⟩⟩ none 0) _) := Lib.hid L3.out
      have HRW : Hid (Row _ w1.heap.size (ndCells ⟨1, 0, 0, 0, 1 + n, m, [], ⟨#[]⟩⟩ none 0)) := Lib.hid ⟨HD.out.lt, HD.out.cell⟩
      go_wp2_with (first
        | (with_reducible refine g_load 85 ?_; refine wpList_load_Row rfl _ _ rfl w1.heap.size rfl (ndCells ⟨1, 0, 0, 0, 1 + n, m, [], ⟨#[]⟩⟩ none 0) HRW.out _ Tryz.underlying85 rfl (nd_size _ _ _) ?_)
        | (with_reducible refine g_store 85 ?_; refine wpList_store_row rfl _ _ _ rfl w.heap.size (ndCells ⟨1, 0, 0, 0, 1 + n, m, [], ⟨#[]⟩⟩ none 0) rfl rfl 85 zNode HD.out.res (nd_size _ _ _) rfl (nd_one _ _ _) ?_))
      exact bodyPost_ret (v := .agg (ndCells ⟨1, 0, 0, 0, 1 + n, m, [], ⟨#[]⟩⟩ none 0)) (results_cell_row rfl _ _ w.heap.size _ (ndCells ⟨1, 0, 0, 0, 1 + n, m, [], ⟨#[]⟩⟩ none 0) (0, 0) _ rfl (setRow_heap _ _ _ _ _ _ HD.out.res) Tryz.underlying85 rfl (nd_size _ _ _)) rfl (HD.out.done at_ (by omega) _ (⟨rfl, .inl ⟨rfl, rfl, rfl, by show 1 ≤ 1 + n; omega, by show 1 + n ≤ 12; omega, m1, m2, rfl, rfl⟩⟩) (.inl rfl))
    · go_wp2_with fail
      clear L1c L1f
      refine (L1.out.pick HX.out cals (by omega) (by omega) (by omega)).mono ?_
      rintro e w3 ⟨q, rfl, q1, q2, L2S⟩
      have L2c := L2S.cell
      have L2f := L2S.froz
      have L2 := Lib.hid (L2S.store 1 (I q))
      clear L2S
      go_wp2_with fail
      clear L2c L2f
      refine (L2.out.rise HX.out (1) 4 (by omega) (by omega) (by omega) (by omega) (by omega)).mono ?_
      rintro e w4 ⟨zs, A, c, a', rfl, hz, hli, ha', L3S⟩
      have L3c := L3S.cell
      have L3f := L3S.froz
      have HLI : Hid (LI (w1.heap.size + 1) _ A zs) := Lib.hid ((hli.lower L2.out.lt).of_blocks (w' := w4.setCell ⟨w1.heap.size, 6, none⟩ (.slice A zs.length c)) (by simp [World.setCell]) fun k hk1 _ => heap_setCell_other _ _ k _ (by show k ≠ w1.heap.size; omega))
      have L3 := Lib.hid (L3S.store 6 (.slice A zs.length c))
      have HZ := Lib.hid hz
      clear L3S hli hz
      have HD : Hid (LS w mb xs _ nodes w.heap.size w1.heap.size (ndCells ⟨6, q, 0, 0, 0, 0, zs, ⟨#[]⟩⟩ A c) _) := Lib.hid L3.out
      have HRW : Hid (Row _ w1.heap.size (ndCells ⟨6, q, 0, 0, 0, 0, zs, ⟨#[]⟩⟩ A c)) := Lib.hid ⟨HD.out.lt, HD.out.cell⟩
      go_wp2_with (first
        | (with_reducible refine g_load 85 ?_; refine wpList_load_Row rfl _ _ rfl w1.heap.size rfl (ndCells ⟨6, q, 0, 0, 0, 0, zs, ⟨#[]⟩⟩ A c) HRW.out _ Tryz.underlying85 rfl (nd_size _ _ _) ?_)
        | (with_reducible refine g_store 85 ?_; refine wpList_store_row rfl _ _ _ rfl w.heap.size (ndCells ⟨6, q, 0, 0, 0, 0, zs, ⟨#[]⟩⟩ A c) rfl rfl 85 zNode HD.out.res (nd_size _ _ _) rfl (nd_one _ _ _) ?_))
      exact bodyPost_ret (v := .agg (ndCells ⟨6, q, 0, 0, 0, 0, zs, ⟨#[]⟩⟩ A c)) (results_cell_row rfl _ _ w.heap.size _ (ndCells ⟨6, q, 0, 0, 0, 0, zs, ⟨#[]⟩⟩ A c) (0, 0) _ rfl (setRow_heap _ _ _ _ _ _ HD.out.res) Tryz.underlying85 rfl (nd_size _ _ _)) rfl (HD.out.done at_ (by omega) _ (⟨rfl, .inr (.inr (.inr (.inr (.inr (.inl ⟨rfl, q1, q2, rfl, rfl, rfl, HZ.out, rfl⟩)))))⟩) (HLI.out))
  · have L0 : Hid (LS w mb xs (at_ + 1) nodes w.heap.size w1.heap.size #[I 7, I 0, I 0, I 0, I 0, I 0, .slice none 0 0, .string ⟨#[]⟩] (w1.alloc (.cells #[I 7, I 0, I 0, I 0, I 0, I 0, .slice none 0 0, .string ⟨#[]⟩] 85))) := Lib.hid (LS.start HM1.out hml HK1.out)
    have L0c := L0.out.cell
    have L0f := L0.out.froz
    go_wp2_with fail
    clear L0c L0f
    refine (L0.out.pick HX.out cals (by omega) (by omega) (by omega)).mono ?_
    rintro e w2 ⟨q, rfl, q1, q2, L1S⟩
    have L1c := L1S.cell
    have L1f := L1S.froz
    have L1 := Lib.hid (L1S.store 1 (I q))
    clear L1S
    go_wp2_with fail
    clear L1c L1f
    refine (L1.out.pick HX.out 3 (by omega) (by omega) (by omega)).mono ?_
    rintro e w3 ⟨n, rfl, n1, n2, L2S⟩
    have L2c := L2S.cell
    have L2f := L2S.froz
    have L2 := Lib.hid (L2S.store 4 (I (1 + n)))
    clear L2S
    go_wp2_with fail
    clear L2c L2f
    refine (L2.out.pick HX.out 2 (by omega) (by omega) (by omega)).mono ?_
    rintro e w4 ⟨t, rfl, t1, t2, L3S⟩
    have L3c := L3S.cell
    have L3f := L3S.froz
    have L3 := Lib.hid L3S
    clear L3S
    have ht : t = 0 ∨ t = 1 := by omega
    rcases ht with rfl | rfl
    · go_wp2_with fail
      clear L3c L3f
      refine (L3.out.pick HX.out 7 (by omega) (by omega) (by omega)).mono ?_
      rintro e w5 ⟨m, rfl, m1, m2, L4S⟩
      have L4c := L4S.cell
      have L4f := L4S.froz
      have L4 := Lib.hid (L4S.store 5 (I m))
      clear L4S
      go_wp2_with fail
      clear L4c L4f
      refine (L4.out.pick HX.out 2 (by omega) (by omega) (by omega)).mono ?_
      rintro e w6 ⟨l, rfl, l1, l2, L5S⟩
      have L5c := L5S.cell
      have L5f := L5S.froz
      have L5 := Lib.hid (L5S.store 2 (I l))
      clear L5S
      have HD : Hid (LS w mb xs _ nodes w.heap.size w1.heap.size (ndCells ⟨7, q, l, 0, 1 + n, m, [], ⟨#[]⟩⟩ none 0) _) := Lib.hid L5.out
      have HRW : Hid (Row _ w1.heap.size (ndCells ⟨7, q, l, 0, 1 + n, m, [], ⟨#[]⟩⟩ none 0)) := Lib.hid ⟨HD.out.lt, HD.out.cell⟩
      go_wp2_with (first
        | (with_reducible refine g_load 85 ?_; refine wpList_load_Row rfl _ _ rfl w1.heap.size rfl (ndCells ⟨7, q, l, 0, 1 + n, m, [], ⟨#[]⟩⟩ none 0) HRW.out _ Tryz.underlying85 rfl (nd_size _ _ _) ?_)
        | (with_reducible refine g_store 85 ?_; refine wpList_store_row rfl _ _ _ rfl w.heap.size (ndCells ⟨7, q, l, 0, 1 + n, m, [], ⟨#[]⟩⟩ none 0) rfl rfl 85 zNode HD.out.res (nd_size _ _ _) rfl (nd_one _ _ _) ?_))
      exact bodyPost_ret (v := .agg (ndCells ⟨7, q, l, 0, 1 + n, m, [], ⟨#[]⟩⟩ none 0)) (results_cell_row rfl _ _ w.heap.size _ (ndCells ⟨7, q, l, 0, 1 + n, m, [], ⟨#[]⟩⟩ none 0) (0, 0) _ rfl (setRow_heap _ _ _ _ _ _ HD.out.res) Tryz.underlying85 rfl (nd_size _ _ _)) rfl (HD.out.done at_ (by omega) _ (⟨rfl, .inr (.inr (.inr (.inr (.inr (.inr (.inl ⟨rfl, q1, q2, l1, l2, .inl (by show 1 ≤ 1 + n ∧ 1 + n ≤ 3; omega), m1, m2, rfl, rfl⟩))))))⟩) (.inl rfl))
    · have L3k := Lib.hid (L3.out.store 4 (I (-(1 + n))))
      go_wp2_with fail
      clear L3c L3f
      refine (L3k.out.pick HX.out 7 (by omega) (by omega) (by omega)).mono ?_
      rintro e w5 ⟨m, rfl, m1, m2, L4S⟩
      have L4c := L4S.cell
      have L4f := L4S.froz
      have L4 := Lib.hid (L4S.store 5 (I m))
      clear L4S
      go_wp2_with fail
      clear L4c L4f
      refine (L4.out.pick HX.out 2 (by omega) (by omega) (by omega)).mono ?_
      rintro e w6 ⟨l, rfl, l1, l2, L5S⟩
      have L5c := L5S.cell
      have L5f := L5S.froz
      have L5 := Lib.hid (L5S.store 2 (I l))
      clear L5S
      have HD : Hid (LS w mb xs _ nodes w.heap.size w1.heap.size (ndCells ⟨7, q, l, 0, -(1 + n), m, [], ⟨#[]⟩⟩ none 0) _) := Lib.hid L5.out
      have HRW : Hid (Row _ w1.heap.size (ndCells ⟨7, q, l, 0, -(1 + n), m, [], ⟨#[]⟩⟩ none 0)) := Lib.hid ⟨HD.out.lt, HD.out.cell⟩
      go_wp2_with (first
        | (with_reducible refine g_load 85 ?_; refine wpList_load_Row rfl _ _ rfl w1.heap.size rfl (ndCells ⟨7, q, l, 0, -(1 + n), m, [], ⟨#[]⟩⟩ none 0) HRW.out _ Tryz.underlying85 rfl (nd_size _ _ _) ?_)
        | (with_reducible refine g_store 85 ?_; refine wpList_store_row rfl _ _ _ rfl w.heap.size (ndCells ⟨7, q, l, 0, -(1 + n), m, [], ⟨#[]⟩⟩ none 0) rfl rfl 85 zNode HD.out.res (nd_size _ _ _) rfl (nd_one _ _ _) ?_))
      exact bodyPost_ret (v := .agg (ndCells ⟨7, q, l, 0, -(1 + n), m, [], ⟨#[]⟩⟩ none 0)) (results_cell_row rfl _ _ w.heap.size _ (ndCells ⟨7, q, l, 0, -(1 + n), m, [], ⟨#[]⟩⟩ none 0) (0, 0) _ rfl (setRow_heap _ _ _ _ _ _ HD.out.res) Tryz.underlying85 rfl (nd_size _ _ _)) rfl (HD.out.done at_ (by omega) _ (⟨rfl, .inr (.inr (.inr (.inr (.inr (.inr (.inl ⟨rfl, q1, q2, l1, l2, .inr (by show -3 ≤ -(1 + n) ∧ -(1 + n) ≤ -1; omega), m1, m2, rfl, rfl⟩))))))⟩) (.inl rfl))
  · have L0 : Hid (LS w mb xs (at_ + 1) nodes w.heap.size w1.heap.size #[I 8, I 0, I 0, I 0, I 0, I 0, .slice none 0 0, .string ⟨#[]⟩] (w1.alloc (.cells #[I 8, I 0, I 0, I 0, I 0, I 0, .slice none 0 0, .string ⟨#[]⟩] 85))) := Lib.hid (LS.start HM1.out hml HK1.out)
    have L0c := L0.out.cell
    have L0f := L0.out.froz
    have hnm : (w1.alloc (.cells #[I 8, I 0, I 0, I 0, I 0, I 0, .slice none 0 0, .string ⟨#[]⟩] 85)).cell? ⟨mb, 2, none⟩ = some (I 2) := by obtain ⟨A, c, g1, _⟩ := L0.out.mkr; exact cell_of_row _ mb 2 _ _ _ g1
    have L0k : Hid (LS w mb xs (at_ + 1) nodes w.heap.size w1.heap.size #[I 18, I 0, I 0, I 0, I 0, I 0, .slice none 0 0, .string ⟨#[]⟩] (w1.alloc (.cells #[I 18, I 0, I 0, I 0, I 0, I 0, .slice none 0 0, .string ⟨#[]⟩] 85))) := Lib.hid (LS.start HM1.out hml HK1.out)
    have hnm2 : (w1.alloc (.cells #[I 18, I 0, I 0, I 0, I 0, I 0, .slice none 0 0, .string ⟨#[]⟩] 85)).cell? ⟨mb, 2, none⟩ = some (I 2) := by obtain ⟨A, c, g1, _⟩ := L0k.out.mkr; exact cell_of_row _ mb 2 _ _ _ g1
    go_wp2_with fail
    clear L0c L0f hnm hnm2
    refine (L0k.out.pick HX.out 2 (by omega) (by omega) (by omega)).mono ?_
    rintro e w2 ⟨k, rfl, k1, k2, L1S⟩
    have L1c := L1S.cell
    have L1f := L1S.froz
    have L1 := Lib.hid L1S
    clear L1S
    go_wp2_with fail
    refine (decimal_any k k1 (by omega) _).mono ?_
    rintro e w3 ⟨rfl, hb3⟩
    have L2 := Lib.hid (L1.out.step (L1.out.mkr.grow hb3) (MKeep.of_below hb3))
    have L2c := L2.out.cell
    have L2f := L2.out.froz
    clear L1c L1f hb3
    have L3 := Lib.hid (L2.out.store 7 (.string (⟨#[110]⟩ ++ digit k)))
    have HD : Hid (LS w mb xs _ nodes w.heap.size w1.heap.size (ndCells ⟨18, 0, 0, 0, 0, 0, [], ⟨#[110]⟩ ++ digit k⟩ none 0) _) := Lib.hid L3.out
    have HRW : Hid (Row _ w1.heap.size (ndCells ⟨18, 0, 0, 0, 0, 0, [], ⟨#[110]⟩ ++ digit k⟩ none 0)) := Lib.hid ⟨HD.out.lt, HD.out.cell⟩
    go_wp2_with (first
      | (with_reducible refine g_load 85 ?_; refine wpList_load_Row rfl _ _ rfl w1.heap.size rfl (ndCells ⟨18, 0, 0, 0, 0, 0, [], ⟨#[110]⟩ ++ digit k⟩ none 0) HRW.out _ Tryz.underlying85 rfl (nd_size _ _ _) ?_)
      | (with_reducible refine g_store 85 ?_; refine wpList_store_row rfl _ _ _ rfl w.heap.size (ndCells ⟨18, 0, 0, 0, 0, 0, [], ⟨#[110]⟩ ++ digit k⟩ none 0) rfl rfl 85 zNode HD.out.res (nd_size _ _ _) rfl (nd_one _ _ _) ?_))
    exact bodyPost_ret (v := .agg (ndCells ⟨18, 0, 0, 0, 0, 0, [], ⟨#[110]⟩ ++ digit k⟩ none 0)) (results_cell_row rfl _ _ w.heap.size _ (ndCells ⟨18, 0, 0, 0, 0, 0, [], ⟨#[110]⟩ ++ digit k⟩ none 0) (0, 0) _ rfl (setRow_heap _ _ _ _ _ _ HD.out.res) Tryz.underlying85 rfl (nd_size _ _ _)) rfl (HD.out.done at_ (by omega) _ (⟨rfl, .inr (.inr (.inr (.inr (.inr (.inr (.inr (⟨rfl, rfl, rfl, rfl, rfl, rfl, k, k1, k2, rfl⟩)))))))⟩) (.inl rfl))
end Go.Proofs.YtenbgpcdoljkgaaGreatDoor

/- Rules as they lie; kalendsref07.Two and over. -/
namespace Go.Proofs.YtenbgpcdoljkgaaGreatDoor
open Go Go.RowKit

structure NdV where
  d : Nd
  A : Option Addr
  c : Nat
def NdV.cells (x : NdV) : List Value := (ndCells x.d x.A x.c).toList
def rcells (ns : List NdV) : List Value := ns.flatMap NdV.cells
theorem NdV.len (x : NdV) : x.cells.length = 8 := rfl
theorem rcells_len (ns : List NdV) : (rcells ns).length = ns.length * 8 := by
  induction ns with
  | nil => rfl
  | cons x ns ih => unfold rcells at ih ⊢; rw [List.flatMap_cons, List.length_append, ih, x.len, List.length_cons]; omega
theorem rcells_app (ns ms : List NdV) : rcells (ns ++ ms) = rcells ns ++ rcells ms := by simp [rcells]
theorem rcells_one (x : NdV) : rcells [x] = x.cells := by simp [rcells]
theorem rcells_ok (ns : List NdV) : ∀ u ∈ rcells ns, u.oneCell' = true := by
  intro u hu
  unfold rcells at hu
  obtain ⟨x, _, hx⟩ := List.mem_flatMap.1 hu
  have := nd_one x.d x.A x.c
  rw [Array.all_eq_true_iff_forall_mem] at this
  exact this u (by simpa [NdV.cells] using hx)
/-- A rule in a row that is not older than block lo, and so its lists. -/
structure RuleIs (lo : Nat) (w : World) (v : Value) (ns : List NdV) : Prop where
  row : w.ownsRow lo 85 8 v ns.length (rcells ns)
  lists : ∀ x ∈ ns, LI lo w x.A x.d.list
theorem ownsRow_blocks {lo e size n : Nat} {w w' : World} {v : Value} {xs : List Value} (h : w.ownsRow lo e size v n xs) (hb : ∀ k, lo ≤ k → k < w.heap.size → w'.heap[k]? = w.heap[k]?) : w'.ownsRow lo e size v n xs := by
  refine ⟨h.1, ?_⟩
  rcases h.2 with h | ⟨g, cap, cur, rfl, hg, hh, hr⟩
  · exact .inl h
  · exact .inr ⟨g, cap, cur, rfl, hg, (hb g hg (Array.getElem?_eq_some_iff.1 hh).1).trans hh, hr⟩
theorem RuleIs.of_blocks {lo : Nat} {w w' : World} {v : Value} {ns : List NdV} (h : RuleIs lo w v ns) (hs : w.heap.size ≤ w'.heap.size) (hb : ∀ k, lo ≤ k → k < w.heap.size → w'.heap[k]? = w.heap[k]?) : RuleIs lo w' v ns :=
  ⟨ownsRow_blocks h.row hb, fun x hx => (h.lists x hx).of_blocks hs hb⟩
theorem RuleIs.below {lo : Nat} {w w' : World} {v : Value} {ns : List NdV} (h : RuleIs lo w v ns) (hb : Below w.heap.size w w') : RuleIs lo w' v ns := h.of_blocks hb.size fun k _ h2 => hb.block k h2
theorem RuleIs.mkeep {lo mb : Nat} {w w' : World} {v : Value} {ns : List NdV} (h : RuleIs lo w v ns) (hk : MKeep mb w w') (hm : mb < lo) : RuleIs lo w' v ns := h.of_blocks hk.size fun k h1 h2 => hk.block k h2 (by omega)
theorem info_node : (Tryz.prog.info? 85).map (fun i => (i.zero, i.size, i.bytes)) = some (some (.agg zNode), 8, 88) := by kernel_rfl
/-- append of nodes to a row of the call's own. -/
theorem wpList_app_nodes {ops : Array Oper} {rest : List Oper} {o : Oper} {a : Act} {Q : Exit → Act → World → Prop} {w : World} (hgd : o.guard = none) (s x : Operand)
    (ho : o.op = .call { callee := .builtin .append, args := #[s, x], argTypes := #[27, 27] }) (base : Nat) (v : Value) (ns : List NdV) (hs : a.eval s = v) (hown : w.ownsRow base 85 8 v ns.length (rcells ns))
    (ad : Addr) (c : Nat) (ms : List NdV) (hx : a.eval x = .slice (some ad) ms.length c) (hnews : ∀ j u, (rcells ms)[j]? = some u → w.cell? (ad.add j) = some u) (hn : ns.length + ms.length ≤ 1000000) (hb : base ≤ w.heap.size)
    (h : ∀ v' w', w'.ownsRow base 85 8 v' (ns ++ ms).length (rcells (ns ++ ms)) → w.grownBy w' v.ownBlock → wpList Tryz.prog ops Q rest (a.put o.dst v') w') :
    wpList Tryz.prog ops Q (o :: rest) a w := by
  obtain ⟨i0, hi, hz0, hz1, hz2⟩ := info_parts info_node
  refine wpList_append_own_at _ hgd s x 27 ho base 85 i0 (.agg zNode) 8 88 Tryz.underlying27 hi hz0 hz1 hz2 rfl (by decide) v ns.length (rcells ns) hs hown ad ms.length c (rcells ms) hx (rcells_len ms) hnews (rcells_ok ms) (by unfold maxLen; omega) (by omega) hb (fun v' w' h1 h2 _ _ => h v' w' (by rw [List.length_append, rcells_app]; exact h1) h2)
/-- A slice literal of one node. -/
theorem wpList_node_slice {ops : Array Oper} {rest : List Oper} {o : Oper} {a : Act} {Q : Exit → Act → World → Prop} {w : World} (hgd : o.guard = none) (x : Operand) (ho : o.op = .buildSlice 27 1 #[(0, x)]) (d : Nd) (A : Option Addr) (c : Nat)
    (hx : a.eval x = .agg (ndCells d A c)) (h : wpList Tryz.prog ops Q rest (a.put o.dst (.slice (some ⟨w.heap.size, 0, none⟩) 1 1)) (w.alloc (.cells (ndCells d A c) 85))) : wpList Tryz.prog ops Q (o :: rest) a w := by
  obtain ⟨i0, hi, hz0, hz1, hz2⟩ := info_parts info_node
  refine wpList_buildSlice hgd 27 85 1 _ ho (ndCells d A c) i0 (.agg zNode) Tryz.underlying27 hi hz0 (by rw [hz1]; decide) (by rw [hz1]; decide) ?_ h
  rw [hz1]
  simp only [List.map_toArray, List.map_cons, List.map_nil, hx]
  kernel_rfl
section
variable {P : Program} {ops : Array Oper} {Q : Exit → Act → World → Prop} {a : Act} {w : World} {rest : List Oper} {d : Option Tmp} {t : TypeId} {pos : String} {af : Array Edge} {g : Option (Nat × Bool)}
theorem g_bslice (ty : TypeId) {n : Nat} {x : Array (Nat × Operand)} (h : wpList P ops Q (⟨d, .buildSlice ty n x, t, pos, af, g⟩ :: rest) a w) : wpList P ops Q (⟨d, .buildSlice ty n x, t, pos, af, g⟩ :: rest) a w := h
end
theorem own_empty (w : World) (lo : Nat) (h : lo ≤ w.heap.size) : (w.alloc (.cells #[] 85)).ownsRow lo 85 8 (.slice (some ⟨w.heap.size, 0, none⟩) 0 0) ([] : List NdV).length (rcells []) :=
  ⟨rfl, .inr ⟨w.heap.size, 0, #[], rfl, h, heap_alloc_last w _, Nat.le_refl _, Nat.zero_le _, rfl, rfl⟩⟩
theorem RuleIs.form {lo : Nat} {w : World} {v : Value} {ns : List NdV} (h : RuleIs lo w v ns) (hn : ns ≠ []) : ∃ g cap, v = .slice (some ⟨g, 0, none⟩) ns.length cap ∧ lo ≤ g ∧ g < w.heap.size ∧ ∀ j u, (rcells ns)[j]? = some u → w.cell? ⟨g, j, none⟩ = some u := by
  obtain ⟨h0, ⟨_, h1⟩ | ⟨g, cap, cur, rfl, hg, hb, h1, h2, h3, h4⟩⟩ := h.row
  · exact absurd (List.eq_nil_of_length_eq_zero h1) hn
  · refine ⟨g, cap, rfl, hg, (Array.getElem?_eq_some_iff.1 hb).1, fun j u hu => ?_⟩
    rw [cell_of_row w g j _ _ _ hb]
    rw [← h4] at hu
    rw [List.getElem?_take] at hu
    split at hu
    · simpa using hu
    · cases hu
def twoB (k : Int) : Bool := (k == 8) || (k == 9) || (k == 10) || (k == 17)
set_option maxRecDepth 10000 in
set_option maxHeartbeats 400000 in
theorem two_any (k : Int) (w : World) : Calls Tryz.prog 80 #[I k] w fun e w' => e = .returned (.bool (twoB k)) ∧ w' = w := by
  unfold twoB
  cases h1 : (k == 8)
  · cases h2 : (k == 9)
    · cases h3 : (k == 10)
      · cases h4 : (k == 17)
        all_goals
          go_enter Tryz.func80, Tryz.ntmps80
          go_wp2
          go_ret
          exact ⟨rfl, rfl⟩
      · go_enter Tryz.func80, Tryz.ntmps80
        go_wp2
        go_ret
        exact ⟨rfl, rfl⟩
    · go_enter Tryz.func80, Tryz.ntmps80
      go_wp2
      go_ret
      exact ⟨rfl, rfl⟩
  · go_enter Tryz.func80, Tryz.ntmps80
    go_wp2
    go_ret
    exact ⟨rfl, rfl⟩
end Go.Proofs.YtenbgpcdoljkgaaGreatDoor

/- kalendsref07.over. -/
namespace Go.Proofs.YtenbgpcdoljkgaaGreatDoor
open Go Go.RowKit

theorem grown_mk {lo : Nat} {w w1 : World} {v : Value} (h : w.grownBy w1 v.ownBlock) {e size n : Nat} {xs : List Value} {w0 : World} (hw : Below w0.heap.size w0 w) (hown : w.ownsRow w0.heap.size e size v n xs) : Below w0.heap.size w0 w1 :=
  have _ := lo
  ⟨h.os.trans hw.os, h.tape.trans hw.tape, h.output.trans hw.output, Nat.le_trans hw.size h.size, fun k hk => (h.block k (Nat.lt_of_lt_of_le hk hw.size) (own_ge hown k hk)).trans (hw.block k hk)⟩
theorem ownsRow_base' {w : World} {base base' e size n : Nat} {v : Value} {xs : List Value} (h : w.ownsRow base e size v n xs) (hb : base' ≤ base) : w.ownsRow base' e size v n xs := by
  refine ⟨h.1, ?_⟩
  rcases h.2 with h | ⟨g, cap, cur, rfl, hg, hh⟩
  · exact .inl h
  · exact .inr ⟨g, cap, cur, rfl, Nat.le_trans hb hg, hh⟩
theorem cells_new {w : World} {x : NdV} {t : TypeId} : ∀ j u, (rcells [x])[j]? = some u → (w.alloc (.cells (ndCells x.d x.A x.c) t)).cell? ((⟨w.heap.size, 0, none⟩ : Addr).add j) = some u := by
  intro j u hu
  have hadd : (⟨w.heap.size, 0, none⟩ : Addr).add j = ⟨w.heap.size, j, none⟩ := by unfold Addr.add; split <;> simp_all
  rw [hadd, (Row.new w _ t).2 j]
  rw [rcells_one] at hu
  simpa [NdV.cells] using hu
/-- The new rule: old nodes, then one that uses the last of them. -/
def RuleGot (lo : Nat) (w : World) (ns : List NdV) (e : Ending) (w' : World) : Prop := ∃ v, e = .returned v ∧ RuleIs lo w' v ns ∧ Below w.heap.size w w'
def overN (ns : List NdV) (x : NdV) : List NdV := ns ++ [⟨{ x.d with l := (ns.length : Int) - 1 }, x.A, x.c⟩]
theorem nd_get0 (d : Nd) (A : Option Addr) (c : Nat) : (ndCells d A c)[0]? = some (I d.kind) := rfl
theorem nd_get2 (d : Nd) (A : Option Addr) (c : Nat) : (ndCells d A c)[2]? = some (I d.l) := rfl
theorem nd_get3 (d : Nd) (A : Option Addr) (c : Nat) : (ndCells d A c)[3]? = some (I d.r) := rfl
attribute [local go_sem] nd_get0 nd_get2 nd_get3
theorem addr_add (g j : Nat) : (⟨g, 0, none⟩ : Addr).add j = ⟨g, j, none⟩ := by unfold Addr.add; split <;> simp_all
set_option maxRecDepth 10000 in
set_option maxHeartbeats 1000000 in
theorem over_any (lo : Nat) (w : World) (v : Value) (ns : List NdV) (x : NdV) (hr : RuleIs lo w v ns) (hne : ns ≠ []) (hl : LI lo w x.A x.d.list) (hn : ns.length ≤ 1000) (hlo : lo ≤ w.heap.size) :
    Calls Tryz.prog 83 #[v, .agg (ndCells x.d x.A x.c)] w (RuleGot lo w (overN ns x)) := by
  obtain ⟨g, cap, rfl, hg1, hg2, hcells⟩ := hr.form hne
  have hpos : 0 < ns.length := by cases ns; exact absurd rfl hne; simp
  have HR := Lib.hid hr
  have HL := Lib.hid hl
  have HC := Lib.hid hcells
  clear hr hl hcells
  go_enter Tryz.func83, Tryz.ntmps83
  obtain ⟨y, hy⟩ : ∃ y : NdV, (⟨{ x.d with l := (ns.length : Int) - 1 }, x.A, x.c⟩ : NdV) = y := ⟨_, rfl⟩
  have hyc : (ndCells x.d x.A x.c).setIfInBounds 2 (.int .i64 ((ns.length : Int) - 1)) = ndCells y.d y.A y.c := by rw [← hy]; rfl
  have HOV : Hid (overN ns x = ns ++ [y]) := Lib.hid (by rw [← hy]; rfl)
  have HLY : Hid (LI lo w y.A y.d.list) := Lib.hid (by rw [← hy]; exact HL.out)
  have HBa := Lib.hid (below_trans (below_var w (.cells (ndCells y.d y.A y.c) 85)) (below_var _ (.cells #[] 85)))
  have HOE : Hid (((w.alloc (.cells (ndCells y.d y.A y.c) 85)).alloc (.cells #[] 85)).ownsRow w.heap.size 85 8 (.slice (some ⟨w.heap.size + 1, 0, none⟩) 0 0) ([] : List NdV).length (rcells [])) := Lib.hid (by have := own_empty (w.alloc (.cells (ndCells y.d y.A y.c) 85)) w.heap.size (by simp); rwa [World.size_alloc] at this)
  have HNEW : Hid (∀ j u, (rcells ns)[j]? = some u → ((w.alloc (.cells (ndCells y.d y.A y.c) 85)).alloc (.cells #[] 85)).cell? ((⟨g, 0, none⟩ : Addr).add j) = some u) := Lib.hid (fun j u hu => by rw [addr_add]; exact (HBa.out.cell (p := ⟨g, j, none⟩) hg2).trans (HC.out j u hu))
  go_upto_region 2 with fail
  try rw [hyc]
  clear hyc hy
  go_wp2_with (at_builtin; refine wpList_app_nodes rfl _ _ rfl w.heap.size _ [] rfl HOE.out ⟨g, 0, none⟩ cap ns rfl HNEW.out (by simp; omega) (by simp; omega) ?_)
  intro v1 w1 hown1 hgrow1
  have HB1 := Lib.hid (grown_mk (lo := lo) hgrow1 HBa.out HOE.out)
  have hnb : w1.heap[w.heap.size]? = some (.cells (ndCells y.d y.A y.c) 85 (0, 0)) := (hgrow1.block w.heap.size (by simp; omega) (by simp [Value.ownBlock])).trans (heap_alloc2_old w _ _)
  have HRW : Hid (Row w1 w.heap.size (ndCells y.d y.A y.c)) := Lib.hid ⟨(Array.getElem?_eq_some_iff.1 hnb).1, fun i => cell_of_row w1 _ i _ _ _ hnb⟩
  have HO1 := Lib.hid hown1
  clear hown1 hgrow1 hnb HBa HOE HNEW
  go_wp2_with (first
    | (with_reducible refine g_load 85 ?_; refine wpList_load_Row rfl _ _ rfl w.heap.size rfl (ndCells y.d y.A y.c) HRW.out _ Tryz.underlying85 rfl (nd_size _ _ _) ?_)
    | (with_reducible refine g_bslice 27 ?_; refine wpList_node_slice rfl _ rfl y.d y.A y.c rfl ?_)
    | (at_builtin; refine wpList_app_nodes rfl _ _ rfl w.heap.size _ ([] ++ ns) rfl (HO1.out.alloc _) ⟨w1.heap.size, 0, none⟩ 1 [y] rfl cells_new (by simp; omega) (by have := HB1.out.size; simp; omega) ?_))
  intro v2 w2 hown2 hgrow2
  have HB2 := Lib.hid (grown_mk (lo := lo) hgrow2 (below_trans HB1.out (below_var w1 _)) (HO1.out.alloc _))
  have HO2 := Lib.hid hown2
  clear hown2 hgrow2
  go_wp2_with fail
  go_ret
  refine ⟨v2, rfl, ⟨?_, ?_⟩, HB2.out⟩
  · rw [HOV.out, List.length_append]
    exact ownsRow_base' HO2.out hlo
  · rw [HOV.out]
    intro z hz
    rcases List.mem_append.1 hz with hz | hz
    · exact ((HR.out.lists z hz).of_blocks HB2.out.size fun k _ h2 => HB2.out.block k h2)
    · rw [List.mem_singleton.1 hz]
      exact HLY.out.of_blocks HB2.out.size fun k _ h2 => HB2.out.block k h2
end Go.Proofs.YtenbgpcdoljkgaaGreatDoor

/- kalendsref07.Moved. -/
namespace Go.Proofs.YtenbgpcdoljkgaaGreatDoor
open Go Go.RowKit

theorem rcells_cons (x : NdV) (ns : List NdV) : rcells (x :: ns) = x.cells ++ rcells ns := by simp [rcells]
theorem rcells_mid (pre : List NdV) (x : NdV) (post : List NdV) (f : Nat) (hf : f < 8) : (rcells (pre ++ x :: post))[pre.length * 8 + f]? = x.cells[f]? := by
  rw [rcells_app, rcells_cons, List.getElem?_append_right (by rw [rcells_len]; omega), rcells_len, Nat.add_sub_cancel_left, List.getElem?_append_left (by rw [x.len]; exact hf)]
theorem rcells_set (pre : List NdV) (x y : NdV) (post : List NdV) (f : Nat) (hf : f < 8) (u : Value) (hy : x.cells.set f u = y.cells) : (rcells (pre ++ x :: post)).set (pre.length * 8 + f) u = rcells (pre ++ y :: post) := by
  rw [rcells_app, rcells_cons, List.set_append_right _ _ (by rw [rcells_len]; omega), rcells_len, Nat.add_sub_cancel_left, List.set_append_left _ _ (by rw [x.len]; exact hf), hy, rcells_app, rcells_cons]
theorem ownsRow_put {w : World} {base e size n : Nat} {g cap : Nat} {xs : List Value} (h : w.ownsRow base e size (.slice (some ⟨g, 0, none⟩) n cap) n xs) (j : Nat) (u : Value) (hj : j < xs.length) : (w.setCell ⟨g, j, none⟩ u).ownsRow base e size (.slice (some ⟨g, 0, none⟩) n cap) n (xs.set j u) := by
  obtain ⟨h0, ⟨h1, _⟩ | ⟨g', cap', cur, h1, hg, hh, h2, h3, h4, h5⟩⟩ := h
  · cases h1
  · injection h1 with h1 h1' h1''
    injection h1 with h1
    injection h1 with h1
    subst h1 h1''
    refine ⟨by rw [List.length_set]; exact h0, .inr ⟨g, cap, cur.setIfInBounds j u, rfl, hg, heap_setCell_same w g j _ _ _ hh, h2, h3, by simpa using h4, ?_⟩⟩
    have hlt : j < n * size := by rw [← h0]; exact hj
    rw [Array.toList_setIfInBounds, List.take_set, h5]
theorem own_cell {w : World} {base e size n : Nat} {g cap : Nat} {xs : List Value} (h : w.ownsRow base e size (.slice (some ⟨g, 0, none⟩) n cap) n xs) (j : Nat) (u : Value) (hu : xs[j]? = some u) : w.cell? ⟨g, j, none⟩ = some u ∧ w.frozen? ⟨g, j, none⟩ = false := by
  obtain ⟨h0, ⟨h1, _⟩ | ⟨g', cap', cur, h1, hg, hh, h2, h3, h4, h5⟩⟩ := h
  · cases h1
  · injection h1 with h1 h1' h1''
    injection h1 with h1
    injection h1 with h1
    subst h1 h1''
    refine ⟨?_, frozen_of_row w g j _ _ hh⟩
    rw [cell_of_row w g j _ _ _ hh]
    rw [← h5, List.getElem?_take] at hu
    split at hu
    · simpa using hu
    · cases hu
theorem own_blk {w : World} {base e size n : Nat} {g cap : Nat} {xs : List Value} (h : w.ownsRow base e size (.slice (some ⟨g, 0, none⟩) n cap) n xs) : base ≤ g := by
  obtain ⟨h0, ⟨h1, _⟩ | ⟨g', cap', cur, h1, hg, _⟩⟩ := h
  · cases h1
  · injection h1 with h1
    injection h1 with h1
    injection h1 with h1
    omega
def opB (k : Int) : Bool := decide (8 ≤ k) && decide (k ≤ 17)
def mvd (b : Int) (x : NdV) : NdV := ⟨{ x.d with l := if opB x.d.kind then x.d.l + b else x.d.l, r := if twoB x.d.kind then x.d.r + b else x.d.r }, x.A, x.c⟩
def movedN (b : Int) (ns : List NdV) : List NdV := ns.map (mvd b)
def MvRel (w : World) (v : Value) (ns : List NdV) (b : Int) (i : Value) (wr : World) : Prop :=
  ∃ pre rest, ns = pre ++ rest ∧ i = I pre.length ∧ wr.ownsRow w.heap.size 85 8 v ns.length (rcells (movedN b pre ++ rest)) ∧ Below w.heap.size w wr
/-- Numbers small enough that adding the offset does not wrap. -/
def Small (ns : List NdV) : Prop := ∀ x ∈ ns, -1000 ≤ x.d.l ∧ x.d.l ≤ 100000 ∧ -1000 ≤ x.d.r ∧ x.d.r ≤ 100000
attribute [local go_sem] nd_get0 nd_get2 nd_get3
set_option maxRecDepth 10000 in
set_option maxHeartbeats 1000000 in
theorem moved_any (lo : Nat) (w : World) (v : Value) (ns : List NdV) (b : Int) (hr : RuleIs lo w v ns) (hne : ns ≠ []) (hn : ns.length ≤ 1000) (hlo : lo ≤ w.heap.size) (hs : Small ns) (hb1 : 0 ≤ b) (hb2 : b ≤ 1000) :
    Calls Tryz.prog 109 #[v, I b] w (RuleGot lo w (movedN b ns)) := by
  obtain ⟨g, cap, rfl, hg1, hg2, hcells⟩ := hr.form hne
  have HR := Lib.hid hr
  have HC := Lib.hid hcells
  have HS := Lib.hid hs
  clear hr hcells hs
  go_enter Tryz.func109, Tryz.ntmps109
  have HBa := Lib.hid (below_var w (.cells #[] 85))
  have HOE := Lib.hid (own_empty w w.heap.size (Nat.le_refl _))
  have HNEW : Hid (∀ j u, (rcells ns)[j]? = some u → (w.alloc (.cells #[] 85)).cell? ((⟨g, 0, none⟩ : Addr).add j) = some u) := Lib.hid (fun j u hu => by rw [addr_add]; exact (HBa.out.cell (p := ⟨g, j, none⟩) hg2).trans (HC.out j u hu))
  go_wp2_with (at_builtin; refine wpList_app_nodes rfl _ _ rfl w.heap.size _ [] rfl HOE.out ⟨g, 0, none⟩ cap ns rfl HNEW.out (by simp; omega) (by simp) ?_)
  intro v1 w1 hown1 hgrow1
  have hpos : 0 < ns.length := by cases ns; exact absurd rfl hne; simp
  obtain ⟨g1, cap1, rfl, _⟩ := own_form hown1 (by simpa using hpos)
  have HB1 := Lib.hid (grown_mk (lo := lo) hgrow1 HBa.out HOE.out)
  have HO1 : Hid (w1.ownsRow w.heap.size 85 8 (.slice (some ⟨g1, 0, none⟩) ns.length cap1) ns.length (rcells ns)) := Lib.hid hown1
  clear hown1 hgrow1 HBa HOE HNEW
  go_wp2_with fail
  go_loopw [6] (fun i wr => MvRel w (.slice (some ⟨g1, 0, none⟩) ns.length cap1) ns b i wr) (fun i _ => ns.length - (intOf i).toNat)
  case atStart => exact ⟨[], ns, rfl, rfl, HO1.out, HB1.out⟩
  case round =>
    obtain ⟨pre, rest, hns, rfl, hown, hb⟩ := hrel
    have HB := Lib.hid hb
    clear hb HO1 HB1
    cases rest with
    | nil =>
      rw [List.append_nil] at hns hown
      have hlen : ns.length = pre.length := by rw [hns]
      have HN := Lib.hid hns
      have HO := Lib.hid hown
      clear hns hown
      go_wp2_with fail
      go_ret
      refine ⟨_, rfl, ⟨?_, ?_⟩, HB.out⟩
      · rw [HN.out]
        have := HO.out
        rw [HN.out] at this
        unfold movedN at this ⊢
        rw [List.length_map]
        exact ownsRow_base' this hlo
      · intro z hz
        unfold movedN at hz
        obtain ⟨y, hy, rfl⟩ := List.mem_map.1 hz
        exact (HR.out.lists y hy).of_blocks HB.out.size fun k _ h2 => HB.out.block k h2
    | cons x post =>
      have hk : pre.length < ns.length := by rw [hns]; simp
      have hltI : (pre.length : Int) < (ns.length : Int) := by omega
      have hxs := HS.out x (by rw [hns]; simp)
      obtain ⟨hx1, hx2, hx3, hx4⟩ := hxs
      have hpl : (movedN b pre).length = pre.length := by unfold movedN; simp
      obtain ⟨P, hP⟩ : ∃ P, movedN b pre = P := ⟨_, rfl⟩
      rw [hP] at hown hpl
      have HP := Lib.hid hP
      have HNS := Lib.hid hns
      have hj : ∀ f, f < 8 → (rcells (P ++ x :: post))[pre.length * 8 + f]? = x.cells[f]? := fun f hf => by rw [← hpl]; exact rcells_mid P x post f hf
      have c0 := own_cell hown (pre.length * 8) (I x.d.kind) (hj 0 (by omega))
      have c2 := own_cell hown (pre.length * 8 + 2) (I x.d.l) (hj 2 (by omega))
      have c3 := own_cell hown (pre.length * 8 + 3) (I x.d.r) (hj 3 (by omega))
      have HO := Lib.hid hown
      clear hown hj hP hns
      have hcase : (x.d.kind < 8 ∨ 17 < x.d.kind) ∨ (8 ≤ x.d.kind ∧ x.d.kind ≤ 17) := by omega
      rcases hcase with hkk | ⟨hk1, hk2⟩
      · have ht : twoB x.d.kind = false := by unfold twoB; simp only [beq_dec]; rw [decide_eq_false (by omega), decide_eq_false (by omega), decide_eq_false (by omega), decide_eq_false (by omega)]; rfl
        have ho : opB x.d.kind = false := by unfold opB; rcases hkk with h | h; rw [decide_eq_false (by omega)]; rfl; rw [decide_eq_false (p := x.d.kind ≤ 17) (by omega), Bool.and_false]
        have HT := Lib.hid ht
        have HX : Hid (mvd b x = x) := Lib.hid (by unfold mvd; rw [ht, ho]; rfl)
        clear ht ho
        rcases hkk with hkk | hkk
        all_goals
          go_wp2_with (go_at_call 80; refine (two_any _ _).mono ?_; rintro e w5 ⟨rfl, rfl⟩; rw [HT.out])
          go_roundw
          case rel => exact ⟨pre ++ [x], post, by rw [List.append_assoc]; exact HNS.out, by rw [List.length_append]; go_num, by unfold movedN at HP ⊢; rw [List.map_append, HP.out, List.map_singleton, HX.out, List.append_assoc]; exact HO.out, HB.out⟩
          case measure => simp [intOf]; omega
      · have ho : opB x.d.kind = true := by unfold opB; rw [decide_eq_true hk1, decide_eq_true hk2]; rfl
        have HB2 : Hid (Below w.heap.size w (wr.setCell ⟨g1, pre.length * 8 + 2, none⟩ (I (x.d.l + b)))) := Lib.hid (HB.out.setCell (p := ⟨g1, pre.length * 8 + 2, none⟩) (own_blk HO.out) _)
        have hsz : pre.length * 8 + 3 < (rcells (P ++ x :: post)).length := by rw [rcells_len, List.length_append, List.length_cons, hpl]; omega
        obtain ⟨y, hy⟩ : ∃ y : NdV, (⟨{ x.d with l := x.d.l + b }, x.A, x.c⟩ : NdV) = y := ⟨_, rfl⟩
        have ey : y.d.kind = x.d.kind := by rw [← hy]
        have er : y.d.r = x.d.r := by rw [← hy]
        have HO2 : Hid ((wr.setCell ⟨g1, pre.length * 8 + 2, none⟩ (I (x.d.l + b))).ownsRow w.heap.size 85 8 (.slice (some ⟨g1, 0, none⟩) ns.length cap1) ns.length (rcells (P ++ y :: post))) := Lib.hid (by
          have := ownsRow_put HO.out (pre.length * 8 + 2) (I (x.d.l + b)) (by omega)
          rw [← hpl, rcells_set P x y post 2 (by omega) _ (by rw [← hy]; rfl), hpl] at this
          exact this)
        have hj2 : ∀ f, f < 8 → (rcells (P ++ y :: post))[pre.length * 8 + f]? = y.cells[f]? := fun f hf => by rw [← hpl]; exact rcells_mid P y post f hf
        have d0 := own_cell HO2.out (pre.length * 8) (I x.d.kind) ((hj2 0 (by omega)).trans (by rw [← ey]; rfl))
        have d3 := own_cell HO2.out (pre.length * 8 + 3) (I x.d.r) ((hj2 3 (by omega)).trans (by rw [← er]; rfl))
        clear c3 hj2
        cases ht : twoB x.d.kind
        · have HT := Lib.hid ht
          have HX : Hid (mvd b x = y) := Lib.hid (by unfold mvd; rw [ht, ho, ← hy]; rfl)
          clear ht ho hy ey er
          go_wp2_with (go_at_call 80; refine (two_any _ _).mono ?_; rintro e w5 ⟨rfl, rfl⟩; rw [HT.out])
          go_roundw
          case rel => exact ⟨pre ++ [x], post, by rw [List.append_assoc]; exact HNS.out, by rw [List.length_append]; go_num, by unfold movedN at HP ⊢; rw [List.map_append, HP.out, List.map_singleton, HX.out, List.append_assoc]; exact HO2.out, HB2.out⟩
          case measure => simp [intOf]; omega
        · have HT := Lib.hid ht
          obtain ⟨z, hz⟩ : ∃ z : NdV, (⟨{ y.d with r := x.d.r + b }, y.A, y.c⟩ : NdV) = z := ⟨_, rfl⟩
          have HX : Hid (mvd b x = z) := Lib.hid (by unfold mvd; rw [ht, ho, ← hz, ← hy]; rfl)
          have HB3 : Hid (Below w.heap.size w ((wr.setCell ⟨g1, pre.length * 8 + 2, none⟩ (I (x.d.l + b))).setCell ⟨g1, pre.length * 8 + 3, none⟩ (I (x.d.r + b)))) := Lib.hid (HB2.out.setCell (p := ⟨g1, pre.length * 8 + 3, none⟩) (own_blk HO2.out) _)
          have HO3 : Hid (((wr.setCell ⟨g1, pre.length * 8 + 2, none⟩ (I (x.d.l + b))).setCell ⟨g1, pre.length * 8 + 3, none⟩ (I (x.d.r + b))).ownsRow w.heap.size 85 8 (.slice (some ⟨g1, 0, none⟩) ns.length cap1) ns.length (rcells (P ++ z :: post))) := Lib.hid (by
            have := ownsRow_put HO2.out (pre.length * 8 + 3) (I (x.d.r + b)) (by rw [rcells_len, List.length_append, List.length_cons, hpl]; omega)
            rw [← hpl, rcells_set P y z post 3 (by omega) _ (by rw [← hz]; rfl), hpl] at this
            exact this)
          clear ht ho hy hz ey er
          go_wp2_with (go_at_call 80; refine (two_any _ _).mono ?_; rintro e w5 ⟨rfl, rfl⟩; rw [HT.out])
          go_roundw
          case rel => exact ⟨pre ++ [x], post, by rw [List.append_assoc]; exact HNS.out, by rw [List.length_append]; go_num, by unfold movedN at HP ⊢; rw [List.map_append, HP.out, List.map_singleton, HX.out, List.append_assoc]; exact HO3.out, HB3.out⟩
          case measure => simp [intOf]; omega
end Go.Proofs.YtenbgpcdoljkgaaGreatDoor

/- kalendsref07.Both. -/
namespace Go.Proofs.YtenbgpcdoljkgaaGreatDoor
open Go Go.RowKit

def bothN (ns ms : List NdV) (x : NdV) : List NdV := ns ++ movedN ns.length ms ++ [⟨{ x.d with l := (ns.length : Int) - 1, r := (ns.length : Int) + ms.length - 1 }, x.A, x.c⟩]
theorem own_below {lo e size n : Nat} {w w' : World} {v : Value} {xs : List Value} (h : w.ownsRow lo e size v n xs) (hb : Below w.heap.size w w') : w'.ownsRow lo e size v n xs := ownsRow_blocks h fun k _ h2 => hb.block k h2
attribute [local go_sem] nd_get0 nd_get2 nd_get3
set_option maxRecDepth 10000 in
set_option maxHeartbeats 1000000 in
theorem both_any (lo : Nat) (w : World) (v u : Value) (ns ms : List NdV) (x : NdV) (hr : RuleIs lo w v ns) (hne : ns ≠ []) (hm : RuleIs lo w u ms) (hme : ms ≠ []) (hsm : Small ms) (hl : LI lo w x.A x.d.list) (hn : ns.length ≤ 400) (hn2 : ms.length ≤ 400) (hlo : lo ≤ w.heap.size) :
    Calls Tryz.prog 81 #[v, u, .agg (ndCells x.d x.A x.c)] w (RuleGot lo w (bothN ns ms x)) := by
  obtain ⟨g, cap, rfl, hg1, hg2, hcells⟩ := hr.form hne
  obtain ⟨g', cap', rfl, _, _, _⟩ := hm.form hme
  have hpos : 0 < ns.length := by cases ns; exact absurd rfl hne; simp
  have HR := Lib.hid hr
  have HM := Lib.hid hm
  have HSM := Lib.hid hsm
  have HL := Lib.hid hl
  have HC := Lib.hid hcells
  clear hr hl hcells hm hsm
  go_enter Tryz.func81, Tryz.ntmps81
  obtain ⟨y, hy⟩ : ∃ y : NdV, (⟨{ x.d with l := (ns.length : Int) - 1, r := (ns.length : Int) + ms.length - 1 }, x.A, x.c⟩ : NdV) = y := ⟨_, rfl⟩
  have hyc : ((ndCells x.d x.A x.c).setIfInBounds 2 (.int .i64 ((ns.length : Int) - 1))).setIfInBounds 3 (.int .i64 ((ns.length : Int) + (ms.length : Int) - 1)) = ndCells y.d y.A y.c := by rw [← hy]; rfl
  have HOV : Hid (bothN ns ms x = ns ++ movedN ns.length ms ++ [y]) := Lib.hid (by rw [← hy]; rfl)
  have HLY : Hid (LI lo w y.A y.d.list) := Lib.hid (by rw [← hy]; exact HL.out)
  have HBa := Lib.hid (below_trans (below_var w (.cells (ndCells y.d y.A y.c) 85)) (below_var _ (.cells #[] 85)))
  have HOE : Hid (((w.alloc (.cells (ndCells y.d y.A y.c) 85)).alloc (.cells #[] 85)).ownsRow (w.heap.size + 1) 85 8 (.slice (some ⟨w.heap.size + 1, 0, none⟩) 0 0) ([] : List NdV).length (rcells [])) := Lib.hid (by have := own_empty (w.alloc (.cells (ndCells y.d y.A y.c) 85)) (w.heap.size + 1) (by simp); rwa [World.size_alloc] at this)
  have HNEW : Hid (∀ j u, (rcells ns)[j]? = some u → ((w.alloc (.cells (ndCells y.d y.A y.c) 85)).alloc (.cells #[] 85)).cell? ((⟨g, 0, none⟩ : Addr).add j) = some u) := Lib.hid (fun j u hu => by rw [addr_add]; exact (HBa.out.cell (p := ⟨g, j, none⟩) hg2).trans (HC.out j u hu))
  have g3 : ((ndCells x.d x.A x.c).setIfInBounds 2 (.int .i64 ((ns.length : Int) - 1)))[3]? = some (I x.d.r) := rfl
  go_upto_region 3 with fail
  try rw [hyc]
  clear hyc hy g3
  go_wp2_with (at_builtin; refine wpList_app_nodes rfl _ _ rfl (w.heap.size + 1) _ [] rfl HOE.out ⟨g, 0, none⟩ cap ns rfl HNEW.out (by simp; omega) (by simp) ?_)
  intro v1 w1 hown1 hgrow1
  have HB1 := Lib.hid (grown_mk (lo := lo) hgrow1 HBa.out (ownsRow_base' HOE.out (Nat.le_succ _)))
  have hnb : w1.heap[w.heap.size]? = some (.cells (ndCells y.d y.A y.c) 85 (0, 0)) := (hgrow1.block w.heap.size (by simp; omega) (by simp [Value.ownBlock])).trans (heap_alloc2_old w _ _)
  have HRW : Hid (Row w1 w.heap.size (ndCells y.d y.A y.c)) := Lib.hid ⟨(Array.getElem?_eq_some_iff.1 hnb).1, fun i => cell_of_row w1 _ i _ _ _ hnb⟩
  have HO1 : Hid (w1.ownsRow (w.heap.size + 1) 85 8 v1 ns.length (rcells ns)) := Lib.hid hown1
  clear hown1 hgrow1 hnb HBa HOE HNEW
  go_wp2_with fail
  refine (moved_any lo w1 _ ms ns.length (HM.out.below HB1.out) hme (by omega) (Nat.le_trans hlo HB1.out.size) HSM.out (by omega) (by omega)).mono ?_
  rintro e w2 ⟨u2, rfl, hm2, hb2⟩
  have hmn : movedN ns.length ms ≠ [] := by unfold movedN; intro e; exact hme (List.map_eq_nil_iff.1 e)
  have hml : (movedN ns.length ms).length = ms.length := by unfold movedN; simp
  obtain ⟨g2, cap2, rfl, _, _, hc2⟩ := hm2.form hmn
  have HB2 := Lib.hid (below_trans HB1.out hb2)
  have HRW2 := Lib.hid (HRW.out.keep hb2)
  have HO2 := Lib.hid (own_below HO1.out hb2)
  have HN2 : Hid (∀ j u, (rcells (movedN ns.length ms))[j]? = some u → w2.cell? ((⟨g2, 0, none⟩ : Addr).add j) = some u) := Lib.hid (fun j u hu => by rw [addr_add]; exact hc2 j u hu)
  have HM2 := Lib.hid hm2
  clear hb2 hc2 hm2 HRW HO1
  obtain ⟨M, hM⟩ : ∃ M, movedN ns.length ms = M := ⟨_, rfl⟩
  rw [hM] at hml HN2 HM2 HOV ⊢
  have HML := Lib.hid hml
  have HMD := Lib.hid hM
  clear hM hmn hml
  go_wp2_with (at_builtin; refine wpList_app_nodes rfl _ _ rfl (w.heap.size + 1) _ ns rfl HO2.out ⟨g2, 0, none⟩ cap2 M rfl HN2.out (by have := HML.out; omega) HRW2.out.1 ?_)
  intro v3 w3 hown3 hgrow3
  have hln3 : (ns ++ M).length ≤ 800 := by have := HML.out; rw [List.length_append]; omega
  obtain ⟨N3, hN3⟩ : ∃ N, ns ++ M = N := ⟨_, rfl⟩
  have e3 : ns.length + M.length = N3.length := by rw [← hN3, List.length_append]
  rw [hN3] at hown3 hln3
  rw [e3] at hown3
  clear e3
  have HN3 := Lib.hid hN3
  clear hN3
  have HB3 := Lib.hid (grown_mk (lo := lo) hgrow3 HB2.out (ownsRow_base' HO2.out (Nat.le_succ _)))
  have hne2 : some w.heap.size ≠ v1.ownBlock := own_ge HO2.out _ (Nat.lt_succ_self _)
  have HRW3 : Hid (Row w3 w.heap.size (ndCells y.d y.A y.c)) := Lib.hid ⟨Nat.lt_of_lt_of_le HRW2.out.1 hgrow3.size, fun i => (World.cell?_of_block (a := ⟨w.heap.size, i, none⟩) (hgrow3.block _ HRW2.out.1 hne2)).trans (HRW2.out.2 i)⟩
  have HO3 := Lib.hid hown3
  clear hown3 hgrow3 hne2
  go_wp2_with (first
    | (with_reducible refine g_load 85 ?_; refine wpList_load_Row rfl _ _ rfl w.heap.size rfl (ndCells y.d y.A y.c) HRW3.out _ Tryz.underlying85 rfl (nd_size _ _ _) ?_)
    | (with_reducible refine g_bslice 27 ?_; refine wpList_node_slice rfl _ rfl y.d y.A y.c rfl ?_)
    | (at_builtin; refine wpList_app_nodes rfl _ _ rfl (w.heap.size + 1) _ N3 rfl (HO3.out.alloc _) ⟨w3.heap.size, 0, none⟩ 1 [y] rfl cells_new (by simp; omega) (by have := HRW3.out.1; simp; omega) ?_))
  intro v4 w4 hown4 hgrow4
  have HB4 := Lib.hid (grown_mk (lo := lo) hgrow4 (below_trans HB3.out (below_var w3 _)) (ownsRow_base' (HO3.out.alloc _) (Nat.le_succ _)))
  have HO4 := Lib.hid hown4
  clear hown4 hgrow4
  go_wp2_with fail
  go_ret
  refine ⟨v4, rfl, ⟨?_, ?_⟩, HB4.out⟩
  · rw [HOV.out, HN3.out, List.length_append]
    exact ownsRow_base' HO4.out (by omega)
  · rw [HOV.out]
    intro z hz
    rcases List.mem_append.1 hz with hz | hz
    · rcases List.mem_append.1 hz with hz | hz
      · exact ((HR.out.lists z hz).of_blocks HB4.out.size fun k _ h2 => HB4.out.block k h2)
      · rw [← HMD.out] at hz
        obtain ⟨t, ht, rfl⟩ := List.mem_map.1 hz
        exact ((HM.out.lists t ht).of_blocks HB4.out.size fun k _ h2 => HB4.out.block k h2)
    · rw [List.mem_singleton.1 hz]
      exact HLY.out.of_blocks HB4.out.size fun k _ h2 => HB4.out.block k h2
end Go.Proofs.YtenbgpcdoljkgaaGreatDoor

/- (*kalendsref07.Maker).Rule: what it makes, and a node under way. -/
namespace Go.Proofs.YtenbgpcdoljkgaaGreatDoor
open Go Go.RowKit

def OneOK (cals : Int) (d : Nd) : Prop :=
  d.r = 0 ∧ d.name = ⟨#[]⟩ ∧
  ((d.kind = 11 ∧ d.cal = 0 ∧ -7 ≤ d.n ∧ d.n ≤ 7 ∧ d.m = 0 ∧ d.list = []) ∨
   ((d.kind = 12 ∨ d.kind = 13) ∧ d.cal = 0 ∧ 0 ≤ d.n ∧ d.n < 60 ∧ d.m = 0 ∧ d.list = []) ∨
   ((d.kind = 14 ∨ d.kind = 15) ∧ d.cal = 0 ∧ d.n = 0 ∧ d.m = 0 ∧ Rising 0 60 d.list) ∨
   (d.kind = 16 ∧ 0 ≤ d.cal ∧ d.cal < cals ∧ d.n = 0 ∧ 0 ≤ d.m ∧ d.m < 2 ∧ Rising (-3) 3 d.list))
def TwoOK (d : Nd) : Prop := d.cal = 0 ∧ d.m = 0 ∧ d.list = [] ∧ d.name = ⟨#[]⟩ ∧ (((d.kind = 8 ∨ d.kind = 9 ∨ d.kind = 10) ∧ d.n = 0) ∨ (d.kind = 17 ∧ 1 ≤ d.n ∧ d.n ≤ 3))
/-- The rules that a maker makes. -/
inductive MRule (cals : Int) : List NdV → Prop
  | leaf (x : NdV) (h : LeafOK cals x.d) : MRule cals [x]
  | one (ns : List NdV) (x : NdV) (hn : MRule cals ns) (h : OneOK cals x.d) : MRule cals (overN ns x)
  | two (ns ms : List NdV) (x : NdV) (hn : MRule cals ns) (hm : MRule cals ms) (h : TwoOK x.d) : MRule cals (bothN ns ms x)
def Within (B : Int) (ns : List NdV) : Prop := ∀ x ∈ ns, 0 ≤ x.d.l ∧ x.d.l ≤ B ∧ 0 ≤ x.d.r ∧ x.d.r ≤ B
theorem Within.small {B : Int} {ns : List NdV} (h : Within B ns) (hB : B ≤ 100000) : Small ns := fun x hx => by have := h x hx; omega
theorem Within.more {B B' : Int} {ns : List NdV} (h : Within B ns) (hB : B ≤ B') : Within B' ns := fun x hx => by have := h x hx; omega
theorem Within.over {B B' : Int} {ns : List NdV} {x : NdV} (h : Within B ns) (hB : B ≤ B') (hn : 0 < ns.length) (hl : (ns.length : Int) ≤ B') (hr : x.d.r = 0) : Within B' (overN ns x) := by
  intro y hy
  rcases List.mem_append.1 hy with hy | hy
  · exact h.more hB y hy
  · rw [List.mem_singleton.1 hy]
    exact ⟨by show 0 ≤ (ns.length : Int) - 1; omega, by show (ns.length : Int) - 1 ≤ B'; omega, by show 0 ≤ x.d.r; omega, by show x.d.r ≤ B'; omega⟩
theorem Within.both {B B' : Int} {ns ms : List NdV} {x : NdV} (h : Within B ns) (hm : Within B ms) (hB : B + ns.length ≤ B') (hn : 0 < ns.length) (hl : (ns.length : Int) + ms.length ≤ B') : Within B' (bothN ns ms x) := by
  intro y hy
  rcases List.mem_append.1 hy with hy | hy
  · rcases List.mem_append.1 hy with hy | hy
    · exact h.more (by omega) y hy
    · obtain ⟨z, hz, rfl⟩ := List.mem_map.1 hy
      have := hm z hz
      refine ⟨?_, ?_, ?_, ?_⟩ <;> (show _ ≤ _; unfold mvd; dsimp only; split <;> omega)
  · rw [List.mem_singleton.1 hy]
    exact ⟨by show 0 ≤ (ns.length : Int) - 1; omega, by show (ns.length : Int) - 1 ≤ B'; omega, by show 0 ≤ (ns.length : Int) + ms.length - 1; omega, by show (ns.length : Int) + ms.length - 1 ≤ B'; omega⟩
def Ruled (deep : Nat) (lo : Nat) (w : World) (mb : Nat) (xs : List Int) (at_ nodes : Nat) (cals : Int) (e : Ending) (w' : World) : Prop :=
  ∃ ns v a' n', e = .returned v ∧ 0 < ns.length ∧ ns.length ≤ 4 ^ deep ∧ MRule cals ns ∧ Within (1000 * deep + 2) ns ∧ RuleIs lo w' v ns ∧ MkSt w' mb xs a' n' ∧ a' ≤ at_ + 20 * 4 ^ deep ∧ n' ≤ nodes + 4 ^ deep ∧ MKeep mb w w'
/-- A node's variable at block b, the maker at mb. -/
structure NS (w0 : World) (lo mb : Nat) (xs : List Int) (a nd b : Nat) (cs : Array Value) (W : World) : Prop where
  hm : mb < lo
  lo : lo ≤ w0.heap.size
  mkr : MkSt W mb xs a nd
  keep : MKeep mb w0 W
  b0 : w0.heap.size ≤ b
  var : W.heap[b]? = some (.cells cs 85 (0, 0))
section
variable {w0 W W' : World} {lo mb a a' nd nd' b : Nat} {xs : List Int} {cs : Array Value}
theorem NS.lt (h : NS w0 lo mb xs a nd b cs W) : b < W.heap.size := (Array.getElem?_eq_some_iff.1 h.var).1
theorem NS.cell (h : NS w0 lo mb xs a nd b cs W) : ∀ i, W.cell? ⟨b, i, none⟩ = cs[i]? := fun i => cell_of_row W b i _ _ _ h.var
theorem NS.froz (h : NS w0 lo mb xs a nd b cs W) : ∀ i, W.frozen? ⟨b, i, none⟩ = false := fun i => frozen_of_row W b i _ _ h.var
theorem NS.row (h : NS w0 lo mb xs a nd b cs W) : Row W b cs := ⟨h.lt, h.cell⟩
theorem NS.step (h : NS w0 lo mb xs a nd b cs W) (hm : MkSt W' mb xs a' nd') (hk : MKeep mb W W') : NS w0 lo mb xs a' nd' b cs W' :=
  have h1 := h.hm
  have h2 := h.lo
  have h3 := h.b0
  ⟨h.hm, h.lo, hm, h.keep.trans hk, h.b0, (hk.block b h.lt (by omega)).trans h.var⟩
theorem NS.pick (h : NS w0 lo mb xs a nd b cs W) (hx : XsOK xs) (n : Int) (ha : a ≤ 1000000000) (hn : 0 < n) (hn2 : n ≤ 1000000000000000000) :
    Calls Tryz.prog 26 #[pt mb, I n] W fun e W' => ∃ r, e = .returned (I r) ∧ 0 ≤ r ∧ r < n ∧ MKeep mb W W' ∧ NS w0 lo mb xs (a + 1) nd b cs W' :=
  (pick_any W mb xs a nd n h.mkr hx ha hn hn2).mono fun _ _ ⟨r, h1, h2, h3, h4, h5⟩ => ⟨r, h1, h2, h3, h5, h.step h4 h5⟩
theorem NS.rise (h : NS w0 lo mb xs a nd b cs W) (hx : XsOK xs) (low high : Int) (ha : a ≤ 100000000) (h1 : -1000 ≤ low) (h2 : low ≤ high) (h3 : high ≤ 1000) (h4 : 0 < high) :
    Calls Tryz.prog 82 #[pt mb, I low, I high] W fun e W' => ∃ zs A c a', e = .returned (.slice A zs.length c) ∧ Rising low high zs ∧ LI W.heap.size W' A zs ∧ a' ≤ a + 6 ∧ MKeep mb W W' ∧ NS w0 lo mb xs a' nd b cs W' :=
  (rising_any W mb xs a nd low high h.mkr hx ha h1 h2 h3 h4).mono fun _ _ ⟨zs, v, a', e1, e2, e3, e4, e5, e6⟩ => by
    obtain ⟨A, c, rfl, hli⟩ := LI.of_owns e3
    exact ⟨zs, A, c, a', e1, e2, hli, e5, e6, h.step e4 e6⟩
theorem NS.store (h : NS w0 lo mb xs a nd b cs W) (o : Nat) (v : Value) : NS w0 lo mb xs a nd b (cs.setIfInBounds o v) (W.setCell ⟨b, o, none⟩ v) := by
  have h1 := h.hm
  have h2 := h.lo
  have h3 := h.b0
  have hb : Below b W (W.setCell ⟨b, o, none⟩ v) := (Below.refl b W).setCell (p := ⟨b, o, none⟩) (Nat.le_refl _) _
  refine ⟨h.hm, h.lo, h.mkr.far _ _ (by show mb < b; omega), ?_, h.b0, heap_setCell_same W b o _ _ _ h.var⟩
  exact ⟨hb.os.trans h.keep.os, hb.tape.trans h.keep.tape, hb.output.trans h.keep.output, Nat.le_trans h.keep.size hb.size, fun k hk hn => (hb.block k (by omega)).trans (h.keep.block k hk hn)⟩
end
/-- A rule that lies beside the node's variable outlives a store into it. -/
theorem RuleIs.beside {lo : Nat} {W : World} {v : Value} {ns : List NdV} (h : RuleIs lo W v ns) {b o : Nat} {u : Value} (hb : ∀ g n c, v = .slice (some ⟨g, 0, none⟩) n c → g ≠ b) (hl : ∀ x ∈ ns, ∀ g off, x.A = some ⟨g, off, none⟩ → x.d.list.length ≠ 0 → g ≠ b) : RuleIs lo (W.setCell ⟨b, o, none⟩ u) v ns := by
  refine ⟨?_, fun x hx => ?_⟩
  · obtain ⟨h0, h1 | ⟨g, cap, cur, rfl, hg, hh, hr⟩⟩ := h.row
    · exact ⟨h0, .inl h1⟩
    · exact ⟨h0, .inr ⟨g, cap, cur, rfl, hg, (heap_setCell_other W _ g u (hb g _ _ rfl)).trans hh, hr⟩⟩
  · rcases h.lists x hx with h1 | ⟨g, off, hA, h1, h2, hc⟩
    · exact .inl h1
    · by_cases hz : x.d.list.length = 0
      · exact .inl hz
      · exact .inr ⟨g, off, hA, h1, by simpa [World.setCell] using h2, fun j hj => (World.cell?_of_block (a := ⟨g, off + j, none⟩) (heap_setCell_other W _ g u (hl x hx g off hA hz))).trans (hc j hj)⟩
theorem rule_one {lo : Nat} {W : World} {x : NdV} (hlo : lo ≤ W.heap.size) (hl : LI lo W x.A x.d.list) : RuleIs lo (W.alloc (.cells (ndCells x.d x.A x.c) 85)) (.slice (some ⟨W.heap.size, 0, none⟩) 1 1) [x] := by
  refine ⟨⟨rfl, .inr ⟨W.heap.size, 1, ndCells x.d x.A x.c, rfl, hlo, heap_alloc_last W _, Nat.le_refl _, by unfold maxLen; omega, rfl, by rw [rcells_one]; rfl⟩⟩, fun y hy => ?_⟩
  rw [List.mem_singleton.1 hy]
  exact hl.of_blocks (below_var W _).size fun k _ h2 => (below_var W _).block k h2
end Go.Proofs.YtenbgpcdoljkgaaGreatDoor
