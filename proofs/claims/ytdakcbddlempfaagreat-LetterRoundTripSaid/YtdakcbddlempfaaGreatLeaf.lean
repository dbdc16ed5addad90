/- (*kalendsref07.Maker).leaf: a leaf in the ranges that its kind asks for. -/
import Derived.Test.YtdakcbddlempfaaGreatLeafD
namespace Go.Proofs.YtdakcbddlempfaaGreat
open Go Go.RowKit

section
variable {P : Program} {ops : Array Oper} {Q : Exit → Act → World → Prop} {a : Act} {w : World} {rest : List Oper} {d : Option Tmp} {t : TypeId} {pos : String} {af : Array Edge} {g : Option (Nat × Bool)}
theorem g_load (ty : TypeId) {x : Operand} (h : wpList P ops Q (⟨d, .load ty x, t, pos, af, g⟩ :: rest) a w) : wpList P ops Q (⟨d, .load ty x, t, pos, af, g⟩ :: rest) a w := h
theorem g_store (ty : TypeId) {x y : Operand} (h : wpList P ops Q (⟨d, .store ty x y, t, pos, af, g⟩ :: rest) a w) : wpList P ops Q (⟨d, .store ty x y, t, pos, af, g⟩ :: rest) a w := h
end
def LeafOK (cals : Int) (d : Nd) : Prop :=
  d.r = 0 ∧
  ((d.kind = 1 ∧ d.cal = 0 ∧ d.l = 0 ∧ 1 ≤ d.n ∧ d.n ≤ 12 ∧ 0 ≤ d.m ∧ d.m < 20 ∧ d.list = [] ∧ d.name = ⟨#[]⟩) ∨
   (d.kind = 2 ∧ 0 ≤ d.cal ∧ d.cal < cals ∧ d.l = 0 ∧ 1 ≤ d.n ∧ d.n ≤ 4 ∧ 0 ≤ d.m ∧ d.m < d.n ∧ d.list = [] ∧ d.name = ⟨#[]⟩) ∨
   (d.kind = 3 ∧ 0 ≤ d.cal ∧ d.cal < cals ∧ d.l = 0 ∧ d.n = 0 ∧ d.m = 0 ∧ Rising 1 4 d.list ∧ d.name = ⟨#[]⟩) ∨
   (d.kind = 4 ∧ 0 ≤ d.cal ∧ d.cal < cals ∧ d.l = 0 ∧ d.n = 0 ∧ d.m = 0 ∧ Rising (-4) 7 d.list ∧ d.name = ⟨#[]⟩) ∨
   (d.kind = 5 ∧ d.cal = 0 ∧ d.l = 0 ∧ d.n = 0 ∧ d.m = 0 ∧ Rising 0 6 d.list ∧ d.name = ⟨#[]⟩) ∨
   (d.kind = 6 ∧ 0 ≤ d.cal ∧ d.cal < cals ∧ d.l = 0 ∧ d.n = 0 ∧ d.m = 0 ∧ Rising 1 4 d.list ∧ d.name = ⟨#[]⟩) ∨
   (d.kind = 7 ∧ 0 ≤ d.cal ∧ d.cal < cals ∧ 0 ≤ d.l ∧ d.l < 2 ∧ ((1 ≤ d.n ∧ d.n ≤ 3) ∨ (-3 ≤ d.n ∧ d.n ≤ -1)) ∧ 0 ≤ d.m ∧ d.m < 7 ∧ d.list = [] ∧ d.name = ⟨#[]⟩) ∨
   (d.kind = 18 ∧ d.cal = 0 ∧ d.l = 0 ∧ d.n = 0 ∧ d.m = 0 ∧ d.list = [] ∧ ∃ k : Int, 0 ≤ k ∧ k < 2 ∧ d.name = ⟨#[110]⟩ ++ digit k))
set_option maxRecDepth 10000 in
set_option maxHeartbeats 4000000 in
theorem leaf_any (w : World) (mb : Nat) (xs : List Int) (at_ nodes : Nat) (cals : Int) (h : MkSt w mb xs at_ nodes) (hx : XsOK xs) (hat : at_ ≤ 10000000) (hc1 : 0 < cals) (hc2 : cals ≤ 1000) :
    Calls Tryz.prog 91 #[pt mb, I cals] w (Leafed w mb xs at_ nodes (LeafOK cals)) := by
  have HM0 := Lib.hid (h.grow (below_var w (.cells zNode 87)))
  have HX := Lib.hid hx
  have hml := h.lt
  clear h hx
  go_enter Tryz.func91, Tryz.ntmps91
  go_wp2_with fail
  refine (pick_any _ mb xs at_ nodes 8 HM0.out HX.out (by omega) (by omega) (by omega)).mono ?_
  rintro e w1 ⟨r, rfl, hr1, hr2, hm1, hk1⟩
  have HM1 := Lib.hid hm1
  have HK1 := Lib.hid hk1
  have hlt1 : mb < w1.heap.size := hm1.lt
  clear hm1 hk1 HM0
  have hr : r = 0 ∨ r = 1 ∨ r = 2 ∨ r = 3 ∨ r = 4 ∨ r = 5 ∨ r = 6 ∨ r = 7 := by omega
  clear hr1 hr2
  rcases hr with rfl | rfl | rfl | rfl | rfl | rfl | rfl | rfl
  · have L0 : Hid (LS w mb xs (at_ + 1) nodes w.heap.size w1.heap.size #[I 1, I 0, I 0, I 0, I 0, I 0, .slice none 0 0, .string ⟨#[]⟩] (w1.alloc (.cells #[I 1, I 0, I 0, I 0, I 0, I 0, .slice none 0 0, .string ⟨#[]⟩] 87))) := Lib.hid (LS.start HM1.out hml HK1.out)
    have L0c := L0.out.cell
    have L0f := L0.out.froz
    go_wp2_with fail
    clear L0c L0f
    refine (L0.out.pick HX.out 12 (by omega) (by omega) (by omega)).mono ?_
    rintro e w2 ⟨n, rfl, n1, n2, L1S⟩
    have L1c := L1S.cell
    have L1f := L1S.froz
    have L1 := Lib.hid (L1S.store 4 (I (1 + n)))
    clear L1S
    go_wp2_with fail
    clear L1c L1f
    refine (L1.out.pick HX.out 20 (by omega) (by omega) (by omega)).mono ?_
    rintro e w3 ⟨m, rfl, m1, m2, L2S⟩
    have L2c := L2S.cell
    have L2f := L2S.froz
    have L2 := Lib.hid (L2S.store 5 (I m))
    clear L2S
    have HD : Hid (LS w mb xs _ nodes w.heap.size w1.heap.size (ndCells ⟨1, 0, 0, 0, 1 + n, m, [], ⟨#[]⟩⟩ none 0) _) := Lib.hid L2.out
    have HRW : Hid (Row _ w1.heap.size (ndCells ⟨1, 0, 0, 0, 1 + n, m, [], ⟨#[]⟩⟩ none 0)) := Lib.hid ⟨HD.out.lt, HD.out.cell⟩
    go_wp2_with (first
      | (with_reducible refine g_load 87 ?_; refine wpList_load_Row rfl _ _ rfl w1.heap.size rfl (ndCells ⟨1, 0, 0, 0, 1 + n, m, [], ⟨#[]⟩⟩ none 0) HRW.out _ Tryz.underlying87 rfl (nd_size _ _ _) ?_)
      | (with_reducible refine g_store 87 ?_; refine wpList_store_row rfl _ _ _ rfl w.heap.size (ndCells ⟨1, 0, 0, 0, 1 + n, m, [], ⟨#[]⟩⟩ none 0) rfl rfl 87 zNode HD.out.res (nd_size _ _ _) rfl (nd_one _ _ _) ?_))
    exact bodyPost_ret (v := .agg (ndCells ⟨1, 0, 0, 0, 1 + n, m, [], ⟨#[]⟩⟩ none 0)) (results_cell_row rfl _ _ w.heap.size _ (ndCells ⟨1, 0, 0, 0, 1 + n, m, [], ⟨#[]⟩⟩ none 0) (0, 0) _ rfl (setRow_heap _ _ _ _ _ _ HD.out.res) Tryz.underlying87 rfl (nd_size _ _ _)) rfl (HD.out.done at_ (by omega) _ (⟨rfl, .inl ⟨rfl, rfl, rfl, by show 1 ≤ 1 + n; omega, by show 1 + n ≤ 12; omega, m1, m2, rfl, rfl⟩⟩) (.inl rfl))
  · have L0 : Hid (LS w mb xs (at_ + 1) nodes w.heap.size w1.heap.size #[I 2, I 0, I 0, I 0, I 0, I 0, .slice none 0 0, .string ⟨#[]⟩] (w1.alloc (.cells #[I 2, I 0, I 0, I 0, I 0, I 0, .slice none 0 0, .string ⟨#[]⟩] 87))) := Lib.hid (LS.start HM1.out hml HK1.out)
    have L0c := L0.out.cell
    have L0f := L0.out.froz
    go_wp2_with fail
    clear L0c L0f
    refine (L0.out.pick HX.out cals (by omega) (by omega) (by omega)).mono ?_
    rintro e w2 ⟨q, rfl, q1, q2, L1S⟩
    have L1c := L1S.cell
    have L1f := L1S.froz
    have L1 := Lib.hid (L1S.store 1 (I q))
    clear L1S
    go_wp2_with fail
    clear L1c L1f
    refine (L1.out.pick HX.out 4 (by omega) (by omega) (by omega)).mono ?_
    rintro e w3 ⟨n, rfl, n1, n2, L2S⟩
    have L2c := L2S.cell
    have L2f := L2S.froz
    have L2 := Lib.hid (L2S.store 4 (I (1 + n)))
    clear L2S
    go_wp2_with fail
    clear L2c L2f
    refine (L2.out.pick HX.out (1 + n) (by omega) (by omega) (by omega)).mono ?_
    rintro e w4 ⟨m, rfl, m1, m2, L3S⟩
    have L3c := L3S.cell
    have L3f := L3S.froz
    have L3 := Lib.hid (L3S.store 5 (I m))
    clear L3S
    have HD : Hid (LS w mb xs _ nodes w.heap.size w1.heap.size (ndCells ⟨2, q, 0, 0, 1 + n, m, [], ⟨#[]⟩⟩ none 0) _) := Lib.hid L3.out
    have HRW : Hid (Row _ w1.heap.size (ndCells ⟨2, q, 0, 0, 1 + n, m, [], ⟨#[]⟩⟩ none 0)) := Lib.hid ⟨HD.out.lt, HD.out.cell⟩
    go_wp2_with (first
      | (with_reducible refine g_load 87 ?_; refine wpList_load_Row rfl _ _ rfl w1.heap.size rfl (ndCells ⟨2, q, 0, 0, 1 + n, m, [], ⟨#[]⟩⟩ none 0) HRW.out _ Tryz.underlying87 rfl (nd_size _ _ _) ?_)
      | (with_reducible refine g_store 87 ?_; refine wpList_store_row rfl _ _ _ rfl w.heap.size (ndCells ⟨2, q, 0, 0, 1 + n, m, [], ⟨#[]⟩⟩ none 0) rfl rfl 87 zNode HD.out.res (nd_size _ _ _) rfl (nd_one _ _ _) ?_))
    exact bodyPost_ret (v := .agg (ndCells ⟨2, q, 0, 0, 1 + n, m, [], ⟨#[]⟩⟩ none 0)) (results_cell_row rfl _ _ w.heap.size _ (ndCells ⟨2, q, 0, 0, 1 + n, m, [], ⟨#[]⟩⟩ none 0) (0, 0) _ rfl (setRow_heap _ _ _ _ _ _ HD.out.res) Tryz.underlying87 rfl (nd_size _ _ _)) rfl (HD.out.done at_ (by omega) _ (⟨rfl, .inr (.inl ⟨rfl, q1, q2, rfl, by show 1 ≤ 1 + n; omega, by show 1 + n ≤ 4; omega, m1, m2, rfl, rfl⟩)⟩) (.inl rfl))
  · have L0 : Hid (LS w mb xs (at_ + 1) nodes w.heap.size w1.heap.size #[I 3, I 0, I 0, I 0, I 0, I 0, .slice none 0 0, .string ⟨#[]⟩] (w1.alloc (.cells #[I 3, I 0, I 0, I 0, I 0, I 0, .slice none 0 0, .string ⟨#[]⟩] 87))) := Lib.hid (LS.start HM1.out hml HK1.out)
    have L0c := L0.out.cell
    have L0f := L0.out.froz
    go_wp2_with fail
    clear L0c L0f
    refine (L0.out.pick HX.out cals (by omega) (by omega) (by omega)).mono ?_
    rintro e w2 ⟨q, rfl, q1, q2, L1S⟩
    have L1c := L1S.cell
    have L1f := L1S.froz
    have L1 := Lib.hid (L1S.store 1 (I q))
    clear L1S
    go_wp2_with fail
    clear L1c L1f
    refine (L1.out.rise HX.out (1) 4 (by omega) (by omega) (by omega) (by omega) (by omega)).mono ?_
    rintro e w3 ⟨zs, A, c, a', rfl, hz, hli, ha', L2S⟩
    have L2c := L2S.cell
    have L2f := L2S.froz
    have HLI : Hid (LI (w1.heap.size + 1) _ A zs) := Lib.hid ((hli.lower L1.out.lt).of_blocks (w' := w3.setCell ⟨w1.heap.size, 6, none⟩ (.slice A zs.length c)) (by simp [World.setCell]) fun k hk1 _ => heap_setCell_other _ _ k _ (by show k ≠ w1.heap.size; omega))
    have L2 := Lib.hid (L2S.store 6 (.slice A zs.length c))
    have HZ := Lib.hid hz
    clear L2S hli hz
    have HD : Hid (LS w mb xs _ nodes w.heap.size w1.heap.size (ndCells ⟨3, q, 0, 0, 0, 0, zs, ⟨#[]⟩⟩ A c) _) := Lib.hid L2.out
    have HRW : Hid (Row _ w1.heap.size (ndCells ⟨3, q, 0, 0, 0, 0, zs, ⟨#[]⟩⟩ A c)) := Lib.hid ⟨HD.out.lt, HD.out.cell⟩
    go_wp2_with (first
      | (with_reducible refine g_load 87 ?_; refine wpList_load_Row rfl _ _ rfl w1.heap.size rfl (ndCells ⟨3, q, 0, 0, 0, 0, zs, ⟨#[]⟩⟩ A c) HRW.out _ Tryz.underlying87 rfl (nd_size _ _ _) ?_)
      | (with_reducible refine g_store 87 ?_; refine wpList_store_row rfl _ _ _ rfl w.heap.size (ndCells ⟨3, q, 0, 0, 0, 0, zs, ⟨#[]⟩⟩ A c) rfl rfl 87 zNode HD.out.res (nd_size _ _ _) rfl (nd_one _ _ _) ?_))
    exact bodyPost_ret (v := .agg (ndCells ⟨3, q, 0, 0, 0, 0, zs, ⟨#[]⟩⟩ A c)) (results_cell_row rfl _ _ w.heap.size _ (ndCells ⟨3, q, 0, 0, 0, 0, zs, ⟨#[]⟩⟩ A c) (0, 0) _ rfl (setRow_heap _ _ _ _ _ _ HD.out.res) Tryz.underlying87 rfl (nd_size _ _ _)) rfl (HD.out.done at_ (by omega) _ (⟨rfl, .inr (.inr (.inl ⟨rfl, q1, q2, rfl, rfl, rfl, HZ.out, rfl⟩))⟩) (HLI.out))
  · have L0 : Hid (LS w mb xs (at_ + 1) nodes w.heap.size w1.heap.size #[I 4, I 0, I 0, I 0, I 0, I 0, .slice none 0 0, .string ⟨#[]⟩] (w1.alloc (.cells #[I 4, I 0, I 0, I 0, I 0, I 0, .slice none 0 0, .string ⟨#[]⟩] 87))) := Lib.hid (LS.start HM1.out hml HK1.out)
    have L0c := L0.out.cell
    have L0f := L0.out.froz
    go_wp2_with fail
    clear L0c L0f
    refine (L0.out.pick HX.out cals (by omega) (by omega) (by omega)).mono ?_
    rintro e w2 ⟨q, rfl, q1, q2, L1S⟩
    have L1c := L1S.cell
    have L1f := L1S.froz
    have L1 := Lib.hid (L1S.store 1 (I q))
    clear L1S
    go_wp2_with fail
    clear L1c L1f
    refine (L1.out.rise HX.out (-4) 7 (by omega) (by omega) (by omega) (by omega) (by omega)).mono ?_
    rintro e w3 ⟨zs, A, c, a', rfl, hz, hli, ha', L2S⟩
    have L2c := L2S.cell
    have L2f := L2S.froz
    have HLI : Hid (LI (w1.heap.size + 1) _ A zs) := Lib.hid ((hli.lower L1.out.lt).of_blocks (w' := w3.setCell ⟨w1.heap.size, 6, none⟩ (.slice A zs.length c)) (by simp [World.setCell]) fun k hk1 _ => heap_setCell_other _ _ k _ (by show k ≠ w1.heap.size; omega))
    have L2 := Lib.hid (L2S.store 6 (.slice A zs.length c))
    have HZ := Lib.hid hz
    clear L2S hli hz
    have HD : Hid (LS w mb xs _ nodes w.heap.size w1.heap.size (ndCells ⟨4, q, 0, 0, 0, 0, zs, ⟨#[]⟩⟩ A c) _) := Lib.hid L2.out
    have HRW : Hid (Row _ w1.heap.size (ndCells ⟨4, q, 0, 0, 0, 0, zs, ⟨#[]⟩⟩ A c)) := Lib.hid ⟨HD.out.lt, HD.out.cell⟩
    go_wp2_with (first
      | (with_reducible refine g_load 87 ?_; refine wpList_load_Row rfl _ _ rfl w1.heap.size rfl (ndCells ⟨4, q, 0, 0, 0, 0, zs, ⟨#[]⟩⟩ A c) HRW.out _ Tryz.underlying87 rfl (nd_size _ _ _) ?_)
      | (with_reducible refine g_store 87 ?_; refine wpList_store_row rfl _ _ _ rfl w.heap.size (ndCells ⟨4, q, 0, 0, 0, 0, zs, ⟨#[]⟩⟩ A c) rfl rfl 87 zNode HD.out.res (nd_size _ _ _) rfl (nd_one _ _ _) ?_))
    exact bodyPost_ret (v := .agg (ndCells ⟨4, q, 0, 0, 0, 0, zs, ⟨#[]⟩⟩ A c)) (results_cell_row rfl _ _ w.heap.size _ (ndCells ⟨4, q, 0, 0, 0, 0, zs, ⟨#[]⟩⟩ A c) (0, 0) _ rfl (setRow_heap _ _ _ _ _ _ HD.out.res) Tryz.underlying87 rfl (nd_size _ _ _)) rfl (HD.out.done at_ (by omega) _ (⟨rfl, .inr (.inr (.inr (.inl ⟨rfl, q1, q2, rfl, rfl, rfl, HZ.out, rfl⟩)))⟩) (HLI.out))
  · have L0 : Hid (LS w mb xs (at_ + 1) nodes w.heap.size w1.heap.size #[I 5, I 0, I 0, I 0, I 0, I 0, .slice none 0 0, .string ⟨#[]⟩] (w1.alloc (.cells #[I 5, I 0, I 0, I 0, I 0, I 0, .slice none 0 0, .string ⟨#[]⟩] 87))) := Lib.hid (LS.start HM1.out hml HK1.out)
    have L0c := L0.out.cell
    have L0f := L0.out.froz
    go_wp2_with fail
    clear L0c L0f
    refine (L0.out.rise HX.out (0) 6 (by omega) (by omega) (by omega) (by omega) (by omega)).mono ?_
    rintro e w3 ⟨zs, A, c, a', rfl, hz, hli, ha', L2S⟩
    have L2c := L2S.cell
    have L2f := L2S.froz
    have HLI : Hid (LI (w1.heap.size + 1) _ A zs) := Lib.hid ((hli.lower L0.out.lt).of_blocks (w' := w3.setCell ⟨w1.heap.size, 6, none⟩ (.slice A zs.length c)) (by simp [World.setCell]) fun k hk1 _ => heap_setCell_other _ _ k _ (by show k ≠ w1.heap.size; omega))
    have L2 := Lib.hid (L2S.store 6 (.slice A zs.length c))
    have HZ := Lib.hid hz
    clear L2S hli hz
    have HD : Hid (LS w mb xs _ nodes w.heap.size w1.heap.size (ndCells ⟨5, 0, 0, 0, 0, 0, zs, ⟨#[]⟩⟩ A c) _) := Lib.hid L2.out
    have HRW : Hid (Row _ w1.heap.size (ndCells ⟨5, 0, 0, 0, 0, 0, zs, ⟨#[]⟩⟩ A c)) := Lib.hid ⟨HD.out.lt, HD.out.cell⟩
    go_wp2_with (first
      | (with_reducible refine g_load 87 ?_; refine wpList_load_Row rfl _ _ rfl w1.heap.size rfl (ndCells ⟨5, 0, 0, 0, 0, 0, zs, ⟨#[]⟩⟩ A c) HRW.out _ Tryz.underlying87 rfl (nd_size _ _ _) ?_)
      | (with_reducible refine g_store 87 ?_; refine wpList_store_row rfl _ _ _ rfl w.heap.size (ndCells ⟨5, 0, 0, 0, 0, 0, zs, ⟨#[]⟩⟩ A c) rfl rfl 87 zNode HD.out.res (nd_size _ _ _) rfl (nd_one _ _ _) ?_))
    exact bodyPost_ret (v := .agg (ndCells ⟨5, 0, 0, 0, 0, 0, zs, ⟨#[]⟩⟩ A c)) (results_cell_row rfl _ _ w.heap.size _ (ndCells ⟨5, 0, 0, 0, 0, 0, zs, ⟨#[]⟩⟩ A c) (0, 0) _ rfl (setRow_heap _ _ _ _ _ _ HD.out.res) Tryz.underlying87 rfl (nd_size _ _ _)) rfl (HD.out.done at_ (by omega) _ (⟨rfl, .inr (.inr (.inr (.inr (.inl ⟨rfl, rfl, rfl, rfl, rfl, HZ.out, rfl⟩))))⟩) (HLI.out))
  · have L0 : Hid (LS w mb xs (at_ + 1) nodes w.heap.size w1.heap.size #[I 6, I 0, I 0, I 0, I 0, I 0, .slice none 0 0, .string ⟨#[]⟩] (w1.alloc (.cells #[I 6, I 0, I 0, I 0, I 0, I 0, .slice none 0 0, .string ⟨#[]⟩] 87))) := Lib.hid (LS.start HM1.out hml HK1.out)
    have L0c := L0.out.cell
    have L0f := L0.out.froz
    go_wp2_with fail
    clear L0c L0f
    refine (L0.out.pick HX.out 2 (by omega) (by omega) (by omega)).mono ?_
    rintro e w2 ⟨t, rfl, t1, t2, L1S⟩
    have L1c := L1S.cell
    have L1f := L1S.froz
    have L1 := Lib.hid L1S
    clear L1S
    have ht : t = 0 ∨ t = 1 := by omega
    rcases ht with rfl | rfl
    · have L1k := Lib.hid (L1.out.store 0 (I 1))
      go_wp2_with fail
      clear L1c L1f
      refine (L1k.out.pick HX.out 12 (by omega) (by omega) (by omega)).mono ?_
      rintro e w3 ⟨n, rfl, n1, n2, L2S⟩
      have L2c := L2S.cell
      have L2f := L2S.froz
      have L2 := Lib.hid (L2S.store 4 (I (1 + n)))
      clear L2S
      go_wp2_with fail
      clear L2c L2f
      refine (L2.out.pick HX.out 20 (by omega) (by omega) (by omega)).mono ?_
      rintro e w4 ⟨m, rfl, m1, m2, L3S⟩
      have L3c := L3S.cell
      have L3f := L3S.froz
      have L3 := Lib.hid (L3S.store 5 (I m))
      clear L3S
      have HD : Hid (LS w mb xs _ nodes w.heap.size w1.heap.size (ndCells ⟨1, 0, 0, 0, 1 + n, m, [], ⟨#[]⟩⟩ none 0) _) := Lib.hid L3.out
      have HRW : Hid (Row _ w1.heap.size (ndCells ⟨1, 0, 0, 0, 1 + n, m, [], ⟨#[]⟩⟩ none 0)) := Lib.hid ⟨HD.out.lt, HD.out.cell⟩
      go_wp2_with (first
        | (with_reducible refine g_load 87 ?_; refine wpList_load_Row rfl _ _ rfl w1.heap.size rfl (ndCells ⟨1, 0, 0, 0, 1 + n, m, [], ⟨#[]⟩⟩ none 0) HRW.out _ Tryz.underlying87 rfl (nd_size _ _ _) ?_)
        | (with_reducible refine g_store 87 ?_; refine wpList_store_row rfl _ _ _ rfl w.heap.size (ndCells ⟨1, 0, 0, 0, 1 + n, m, [], ⟨#[]⟩⟩ none 0) rfl rfl 87 zNode HD.out.res (nd_size _ _ _) rfl (nd_one _ _ _) ?_))
      exact bodyPost_ret (v := .agg (ndCells ⟨1, 0, 0, 0, 1 + n, m, [], ⟨#[]⟩⟩ none 0)) (results_cell_row rfl _ _ w.heap.size _ (ndCells ⟨1, 0, 0, 0, 1 + n, m, [], ⟨#[]⟩⟩ none 0) (0, 0) _ rfl (setRow_heap _ _ _ _ _ _ HD.out.res) Tryz.underlying87 rfl (nd_size _ _ _)) rfl (HD.out.done at_ (by omega) _ (⟨rfl, .inl ⟨rfl, rfl, rfl, by show 1 ≤ 1 + n; omega, by show 1 + n ≤ 12; omega, m1, m2, rfl, rfl⟩⟩) (.inl rfl))
    · go_wp2_with fail
      clear L1c L1f
      refine (L1.out.pick HX.out cals (by omega) (by omega) (by omega)).mono ?_
      rintro e w3 ⟨q, rfl, q1, q2, L2S⟩
      have L2c := L2S.cell
      have L2f := L2S.froz
      have L2 := Lib.hid (L2S.store 1 (I q))
      clear L2S
      go_wp2_with fail
      clear L2c L2f
      refine (L2.out.rise HX.out (1) 4 (by omega) (by omega) (by omega) (by omega) (by omega)).mono ?_
      rintro e w4 ⟨zs, A, c, a', rfl, hz, hli, ha', L3S⟩
      have L3c := L3S.cell
      have L3f := L3S.froz
      have HLI : Hid (LI (w1.heap.size + 1) _ A zs) := Lib.hid ((hli.lower L2.out.lt).of_blocks (w' := w4.setCell ⟨w1.heap.size, 6, none⟩ (.slice A zs.length c)) (by simp [World.setCell]) fun k hk1 _ => heap_setCell_other _ _ k _ (by show k ≠ w1.heap.size; omega))
      have L3 := Lib.hid (L3S.store 6 (.slice A zs.length c))
      have HZ := Lib.hid hz
      clear L3S hli hz
      have HD : Hid (LS w mb xs _ nodes w.heap.size w1.heap.size (ndCells ⟨6, q, 0, 0, 0, 0, zs, ⟨#[]⟩⟩ A c) _) := Lib.hid L3.out
      have HRW : Hid (Row _ w1.heap.size (ndCells ⟨6, q, 0, 0, 0, 0, zs, ⟨#[]⟩⟩ A c)) := Lib.hid ⟨HD.out.lt, HD.out.cell⟩
      go_wp2_with (first
        | (with_reducible refine g_load 87 ?_; refine wpList_load_Row rfl _ _ rfl w1.heap.size rfl (ndCells ⟨6, q, 0, 0, 0, 0, zs, ⟨#[]⟩⟩ A c) HRW.out _ Tryz.underlying87 rfl (nd_size _ _ _) ?_)
        | (with_reducible refine g_store 87 ?_; refine wpList_store_row rfl _ _ _ rfl w.heap.size (ndCells ⟨6, q, 0, 0, 0, 0, zs, ⟨#[]⟩⟩ A c) rfl rfl 87 zNode HD.out.res (nd_size _ _ _) rfl (nd_one _ _ _) ?_))
      exact bodyPost_ret (v := .agg (ndCells ⟨6, q, 0, 0, 0, 0, zs, ⟨#[]⟩⟩ A c)) (results_cell_row rfl _ _ w.heap.size _ (ndCells ⟨6, q, 0, 0, 0, 0, zs, ⟨#[]⟩⟩ A c) (0, 0) _ rfl (setRow_heap _ _ _ _ _ _ HD.out.res) Tryz.underlying87 rfl (nd_size _ _ _)) rfl (HD.out.done at_ (by omega) _ (⟨rfl, .inr (.inr (.inr (.inr (.inr (.inl ⟨rfl, q1, q2, rfl, rfl, rfl, HZ.out, rfl⟩)))))⟩) (HLI.out))
  · have L0 : Hid (LS w mb xs (at_ + 1) nodes w.heap.size w1.heap.size #[I 7, I 0, I 0, I 0, I 0, I 0, .slice none 0 0, .string ⟨#[]⟩] (w1.alloc (.cells #[I 7, I 0, I 0, I 0, I 0, I 0, .slice none 0 0, .string ⟨#[]⟩] 87))) := Lib.hid (LS.start HM1.out hml HK1.out)
    have L0c := L0.out.cell
    have L0f := L0.out.froz
    go_wp2_with fail
    clear L0c L0f
    refine (L0.out.pick HX.out cals (by omega) (by omega) (by omega)).mono ?_
    rintro e w2 ⟨q, rfl, q1, q2, L1S⟩
    have L1c := L1S.cell
    have L1f := L1S.froz
    have L1 := Lib.hid (L1S.store 1 (I q))
    clear L1S
    go_wp2_with fail
    clear L1c L1f
    refine (L1.out.pick HX.out 3 (by omega) (by omega) (by omega)).mono ?_
    rintro e w3 ⟨n, rfl, n1, n2, L2S⟩
    have L2c := L2S.cell
    have L2f := L2S.froz
    have L2 := Lib.hid (L2S.store 4 (I (1 + n)))
    clear L2S
    go_wp2_with fail
    clear L2c L2f
    refine (L2.out.pick HX.out 2 (by omega) (by omega) (by omega)).mono ?_
    rintro e w4 ⟨t, rfl, t1, t2, L3S⟩
    have L3c := L3S.cell
    have L3f := L3S.froz
    have L3 := Lib.hid L3S
    clear L3S
    have ht : t = 0 ∨ t = 1 := by omega
    rcases ht with rfl | rfl
    · go_wp2_with fail
      clear L3c L3f
      refine (L3.out.pick HX.out 7 (by omega) (by omega) (by omega)).mono ?_
      rintro e w5 ⟨m, rfl, m1, m2, L4S⟩
      have L4c := L4S.cell
      have L4f := L4S.froz
      have L4 := Lib.hid (L4S.store 5 (I m))
      clear L4S
      go_wp2_with fail
      clear L4c L4f
      refine (L4.out.pick HX.out 2 (by omega) (by omega) (by omega)).mono ?_
      rintro e w6 ⟨l, rfl, l1, l2, L5S⟩
      have L5c := L5S.cell
      have L5f := L5S.froz
      have L5 := Lib.hid (L5S.store 2 (I l))
      clear L5S
      have HD : Hid (LS w mb xs _ nodes w.heap.size w1.heap.size (ndCells ⟨7, q, l, 0, 1 + n, m, [], ⟨#[]⟩⟩ none 0) _) := Lib.hid L5.out
      have HRW : Hid (Row _ w1.heap.size (ndCells ⟨7, q, l, 0, 1 + n, m, [], ⟨#[]⟩⟩ none 0)) := Lib.hid ⟨HD.out.lt, HD.out.cell⟩
      go_wp2_with (first
        | (with_reducible refine g_load 87 ?_; refine wpList_load_Row rfl _ _ rfl w1.heap.size rfl (ndCells ⟨7, q, l, 0, 1 + n, m, [], ⟨#[]⟩⟩ none 0) HRW.out _ Tryz.underlying87 rfl (nd_size _ _ _) ?_)
        | (with_reducible refine g_store 87 ?_; refine wpList_store_row rfl _ _ _ rfl w.heap.size (ndCells ⟨7, q, l, 0, 1 + n, m, [], ⟨#[]⟩⟩ none 0) rfl rfl 87 zNode HD.out.res (nd_size _ _ _) rfl (nd_one _ _ _) ?_))
      exact bodyPost_ret (v := .agg (ndCells ⟨7, q, l, 0, 1 + n, m, [], ⟨#[]⟩⟩ none 0)) (results_cell_row rfl _ _ w.heap.size _ (ndCells ⟨7, q, l, 0, 1 + n, m, [], ⟨#[]⟩⟩ none 0) (0, 0) _ rfl (setRow_heap _ _ _ _ _ _ HD.out.res) Tryz.underlying87 rfl (nd_size _ _ _)) rfl (HD.out.done at_ (by omega) _ (⟨rfl, .inr (.inr (.inr (.inr (.inr (.inr (.inl ⟨rfl, q1, q2, l1, l2, .inl (by show 1 ≤ 1 + n ∧ 1 + n ≤ 3; omega), m1, m2, rfl, rfl⟩))))))⟩) (.inl rfl))
    · have L3k := Lib.hid (L3.out.store 4 (I (-(1 + n))))
      go_wp2_with fail
      clear L3c L3f
      refine (L3k.out.pick HX.out 7 (by omega) (by omega) (by omega)).mono ?_
      rintro e w5 ⟨m, rfl, m1, m2, L4S⟩
      have L4c := L4S.cell
      have L4f := L4S.froz
      have L4 := Lib.hid (L4S.store 5 (I m))
      clear L4S
      go_wp2_with fail
      clear L4c L4f
      refine (L4.out.pick HX.out 2 (by omega) (by omega) (by omega)).mono ?_
      rintro e w6 ⟨l, rfl, l1, l2, L5S⟩
      have L5c := L5S.cell
      have L5f := L5S.froz
      have L5 := Lib.hid (L5S.store 2 (I l))
      clear L5S
      have HD : Hid (LS w mb xs _ nodes w.heap.size w1.heap.size (ndCells ⟨7, q, l, 0, -(1 + n), m, [], ⟨#[]⟩⟩ none 0) _) := Lib.hid L5.out
      have HRW : Hid (Row _ w1.heap.size (ndCells ⟨7, q, l, 0, -(1 + n), m, [], ⟨#[]⟩⟩ none 0)) := Lib.hid ⟨HD.out.lt, HD.out.cell⟩
      go_wp2_with (first
        | (with_reducible refine g_load 87 ?_; refine wpList_load_Row rfl _ _ rfl w1.heap.size rfl (ndCells ⟨7, q, l, 0, -(1 + n), m, [], ⟨#[]⟩⟩ none 0) HRW.out _ Tryz.underlying87 rfl (nd_size _ _ _) ?_)
        | (with_reducible refine g_store 87 ?_; refine wpList_store_row rfl _ _ _ rfl w.heap.size (ndCells ⟨7, q, l, 0, -(1 + n), m, [], ⟨#[]⟩⟩ none 0) rfl rfl 87 zNode HD.out.res (nd_size _ _ _) rfl (nd_one _ _ _) ?_))
      exact bodyPost_ret (v := .agg (ndCells ⟨7, q, l, 0, -(1 + n), m, [], ⟨#[]⟩⟩ none 0)) (results_cell_row rfl _ _ w.heap.size _ (ndCells ⟨7, q, l, 0, -(1 + n), m, [], ⟨#[]⟩⟩ none 0) (0, 0) _ rfl (setRow_heap _ _ _ _ _ _ HD.out.res) Tryz.underlying87 rfl (nd_size _ _ _)) rfl (HD.out.done at_ (by omega) _ (⟨rfl, .inr (.inr (.inr (.inr (.inr (.inr (.inl ⟨rfl, q1, q2, l1, l2, .inr (by show -3 ≤ -(1 + n) ∧ -(1 + n) ≤ -1; omega), m1, m2, rfl, rfl⟩))))))⟩) (.inl rfl))
  · have L0 : Hid (LS w mb xs (at_ + 1) nodes w.heap.size w1.heap.size #[I 8, I 0, I 0, I 0, I 0, I 0, .slice none 0 0, .string ⟨#[]⟩] (w1.alloc (.cells #[I 8, I 0, I 0, I 0, I 0, I 0, .slice none 0 0, .string ⟨#[]⟩] 87))) := Lib.hid (LS.start HM1.out hml HK1.out)
    have L0c := L0.out.cell
    have L0f := L0.out.froz
    have hnm : (w1.alloc (.cells #[I 8, I 0, I 0, I 0, I 0, I 0, .slice none 0 0, .string ⟨#[]⟩] 87)).cell? ⟨mb, 2, none⟩ = some (I 2) := by obtain ⟨A, c, g1, _⟩ := L0.out.mkr; exact cell_of_row _ mb 2 _ _ _ g1
    have L0k : Hid (LS w mb xs (at_ + 1) nodes w.heap.size w1.heap.size #[I 18, I 0, I 0, I 0, I 0, I 0, .slice none 0 0, .string ⟨#[]⟩] (w1.alloc (.cells #[I 18, I 0, I 0, I 0, I 0, I 0, .slice none 0 0, .string ⟨#[]⟩] 87))) := Lib.hid (LS.start HM1.out hml HK1.out)
    have hnm2 : (w1.alloc (.cells #[I 18, I 0, I 0, I 0, I 0, I 0, .slice none 0 0, .string ⟨#[]⟩] 87)).cell? ⟨mb, 2, none⟩ = some (I 2) := by obtain ⟨A, c, g1, _⟩ := L0k.out.mkr; exact cell_of_row _ mb 2 _ _ _ g1
    go_wp2_with fail
    clear L0c L0f hnm hnm2
    refine (L0k.out.pick HX.out 2 (by omega) (by omega) (by omega)).mono ?_
    rintro e w2 ⟨k, rfl, k1, k2, L1S⟩
    have L1c := L1S.cell
    have L1f := L1S.froz
    have L1 := Lib.hid L1S
    clear L1S
    go_wp2_with fail
    refine (decimal_any k k1 (by omega) _).mono ?_
    rintro e w3 ⟨rfl, hb3⟩
    have L2 := Lib.hid (L1.out.step (L1.out.mkr.grow hb3) (MKeep.of_below hb3))
    have L2c := L2.out.cell
    have L2f := L2.out.froz
    clear L1c L1f hb3
    have L3 := Lib.hid (L2.out.store 7 (.string (⟨#[110]⟩ ++ digit k)))
    have HD : Hid (LS w mb xs _ nodes w.heap.size w1.heap.size (ndCells ⟨18, 0, 0, 0, 0, 0, [], ⟨#[110]⟩ ++ digit k⟩ none 0) _) := Lib.hid L3.out
    have HRW : Hid (Row _ w1.heap.size (ndCells ⟨18, 0, 0, 0, 0, 0, [], ⟨#[110]⟩ ++ digit k⟩ none 0)) := Lib.hid ⟨HD.out.lt, HD.out.cell⟩
    go_wp2_with (first
      | (with_reducible refine g_load 87 ?_; refine wpList_load_Row rfl _ _ rfl w1.heap.size rfl (ndCells ⟨18, 0, 0, 0, 0, 0, [], ⟨#[110]⟩ ++ digit k⟩ none 0) HRW.out _ Tryz.underlying87 rfl (nd_size _ _ _) ?_)
      | (with_reducible refine g_store 87 ?_; refine wpList_store_row rfl _ _ _ rfl w.heap.size (ndCells ⟨18, 0, 0, 0, 0, 0, [], ⟨#[110]⟩ ++ digit k⟩ none 0) rfl rfl 87 zNode HD.out.res (nd_size _ _ _) rfl (nd_one _ _ _) ?_))
    exact bodyPost_ret (v := .agg (ndCells ⟨18, 0, 0, 0, 0, 0, [], ⟨#[110]⟩ ++ digit k⟩ none 0)) (results_cell_row rfl _ _ w.heap.size _ (ndCells ⟨18, 0, 0, 0, 0, 0, [], ⟨#[110]⟩ ++ digit k⟩ none 0) (0, 0) _ rfl (setRow_heap _ _ _ _ _ _ HD.out.res) Tryz.underlying87 rfl (nd_size _ _ _)) rfl (HD.out.done at_ (by omega) _ (⟨rfl, .inr (.inr (.inr (.inr (.inr (.inr (.inr (⟨rfl, rfl, rfl, rfl, rfl, rfl, k, k1, k2, rfl⟩)))))))⟩) (.inl rfl))
end Go.Proofs.YtdakcbddlempfaaGreat
