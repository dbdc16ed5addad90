/- The texts Ln, Lu, Lv, in this order. -/
import Derived.Test.YtbdkalpljhpnmaaGreatG08
import Derived.BigQuiet
import Derived.Deep.AppendLies
import Derived.Deep.CutBlock
import Derived.Deep.DeepCutAuto
import Derived.Deep.DrawnRows
import Derived.Deep.MidRow
import Derived.Deep.QuietTactic
import Derived.Deep.RegionHeld3
import Derived.Deep.RegionLaw
import Derived.Deep.WholeRow
import Derived.Great.BuildSlice
import Derived.Handy
import Derived.Laws.BytesString
import Derived.Laws.CopyOwn
import Derived.Laws.EntriesVeiled
import Derived.Laws.MakeOwn
import Derived.Laws.ResultCell
import Derived.Laws.Rows
import Derived.Laws.Tables
import Derived.Lib.Hide
import Derived.LoopIn
import Derived.LoopNIn
import Derived.Maps.AppendAt
import Derived.Outline
import Derived.OwnWalkIn
import Derived.RangeFuncBound
import Derived.RangeFuncBox
import Derived.RangeFuncCalls
import Derived.RangeFuncLeaves
import Derived.RangeFuncNested
import Derived.Shelf.Abstract
import Derived.Shelf.Bytes.SlSmallAll
import Derived.Shelf.RegionOpen
import Derived.StillTailTactics
import Derived.Stop.BytesEq
import Derived.TacticsInMore
import Derived.WalkKit
import Derived.WalkLawsBesides
import Derived.WalkSpells
import Derived.ChangeArms
import Derived.DataReads
import Derived.Deep.Slices
import Derived.OpenShut
/- kalendslaw14.sanity. -/
namespace Go.Proofs.YtbdkalpljhpnmaaGreat
open Go Go.RowKit

theorem names_up1 (ys : List ZeV) (h : ys.map (·.e) = [ze0]) : NamesUp ys := by
  intro k x hx
  have hl : ys.length = 1 := by have := congrArg List.length h; simpa using this
  have hk : k = 0 := by have := (List.getElem?_eq_some_iff.1 hx).1; omega
  subst hk
  have he : x.e = ze0 := by
    have h2 : (ys.map (·.e))[0]? = some x.e := by rw [List.getElem?_map, hx]; rfl
    rw [h] at h2
    injection h2 with h2
    exact h2.symm
  rw [he]
  exact ⟨(by decide +kernel : Op.bytesLess ze0.name.toList (⟨#[]⟩ : ByteArray).toList = false), (by decide +kernel : (ze0.name.toList == (⟨#[]⟩ : ByteArray).toList) = false)⟩
def wantB : List UInt8 := ([2, 1, 0] ++ List.replicate 32 0) ++ [1, 1, 97, 0, 0, 0, 0, 1, 3, 0, 0, 60, 0, 0, 0] ++ List.replicate 9 0
theorem want_bytes : tbBytes (vt 1 0 true) = wantB := by decide +kernel
theorem want_len : wantB.length = 59 := by decide +kernel
theorem want_short : tbShort (vt 1 0 true) ze0 = wantB.take 58 := by decide +kernel
theorem ver_len {ys : List ZeV} (h : ys.map (·.e) = [ze0]) : ys.length = 1 := by have := congrArg List.length h; simpa using this
theorem bs_lit {w : World} (cs : Array Value) (bs : List UInt8) (n : Nat) (hl : bs.length = n) (hn : n ≤ 1000) (h : cs.toList = bs.map Extern.Stop.cell) : BsO w.heap.size (w.alloc (.cells cs 5)) (some ⟨w.heap.size, 0, none⟩) n n bs := by
  have hs : cs.size = n := by rw [← Array.length_toList, h, List.length_map, hl]
  exact ⟨by rw [List.length_map, hl, Nat.mul_one], .inr ⟨w.heap.size, n, cs, rfl, Nat.le_refl _, heap_alloc_last w _, Nat.le_refl _, by unfold maxLen; omega, by rw [hs, Nat.mul_one], by rw [h, Nat.mul_one, List.take_of_length_le (by rw [List.length_map, hl]; omega)]⟩⟩
theorem cells_lit {w : World} (cs : Array Value) (bs : List UInt8) (t : TypeId) (h : cs.toList = bs.map Extern.Stop.cell) : CellsAt (w.alloc (.cells cs t)) (w.alloc (.cells cs t)).heap.size (some ⟨w.heap.size, 0, none⟩) (bs.map Extern.Stop.cell) := by
  refine .inr ⟨w.heap.size, 0, rfl, by simp, fun j u hu => ?_⟩
  rw [Nat.zero_add, cell_of_row _ _ j _ _ _ (heap_alloc_last w _), ← Array.getElem?_toList, h]
  exact hu
set_option maxRecDepth 10000 in
set_option maxHeartbeats 4000000 in
theorem sanity_any (w : World) : Calls Tryz.prog 4 #[] w (Gives (.bool true) w) := by
  obtain ⟨T, hT⟩ : ∃ T, vt 1 0 true = T := ⟨_, rfl⟩
  have HT := Lib.hid hT
  have HTF : Hid (TbFlat T) := Lib.hid (by rw [← hT]; exact vt_flat 1 0 true (by decide) (by decide) (by decide) (by decide))
  have HTZ : Hid (T.zones = [ze0]) := Lib.hid (by rw [← hT]; rfl)
  have HTM : Hid ({ T with mac := zero32 } = T) := Lib.hid (by rw [← hT]; rfl)
  have HTB : Hid (tbBytes T = wantB) := Lib.hid (by rw [← hT]; exact want_bytes)
  have HTS : Hid (tbShort T ze0 = wantB.take 58) := Lib.hid (by rw [← hT]; exact want_short)
  have HVT : Hid (∀ W, Calls Tryz.prog 11 #[I 1, I 0, .bool true] W fun e w' => ∃ A c ys, e = .returned (.agg (tbVal T (.slice A 1 c))) ∧ ZsOwn W.heap.size w' (.slice A 1 c) ys ∧ ys.map (·.e) = [ze0] ∧ ys.length = 1 ∧ Below W.heap.size W w') := Lib.hid (fun W => (version_t 1 0 W).mono (fun e w' ⟨A, c, ys, h1, h2, h3, h4⟩ => by
    have hl := ver_len h3
    rw [hl, hT] at h1
    rw [hl] at h2
    exact ⟨A, c, ys, h1, h2, h3, hl, h4⟩))
  have HSZ : Hid (∀ v, (Tryz.prog.info? 47).map (·.size) = some (tbVal T v).size) := Lib.hid fun v => tb_info T v HTF.out.prev HTF.out.mac
  have HSE : Hid (∀ v, (tbVal zTb (.slice none 0 0)).size = (tbVal T v).size) := Lib.hid fun v => (tb_size zTb _ rfl rfl).trans (tb_size T v HTF.out.prev HTF.out.mac).symm
  clear hT
  go_enter Tryz.func4, Tryz.ntmps4
  go_wp2_with fail
  refine (HVT.out w).mono ?_
  rintro e w1 ⟨A1, c1, ys1, rfl, hz1, he1, hl1, hb1⟩
  go_wp2_with fail
  refine (tableBytes_flat T A1 1 c1 w.heap.size ys1 w1 HTF.out (by rw [HTZ.out, he1]) hl1 hz1 (names_up1 ys1 he1)).mono ?_
  rintro e w2 ⟨⟨g2, cb, rfl, ho2⟩, hb2⟩
  rw [HTB.out] at ho2 ⊢
  rw [want_len] at ho2 ⊢
  have HB2 := Lib.hid (below_trans hb1 hb2)
  have HC2 := Lib.hid (CellsAt.of_own ho2)
  clear hz1 he1 hl1 hb1 hb2 ho2
  have HW0 := Lib.hid (bs_lit (w := w2) #[Value.int .u8 2, Value.int .u8 1, Value.int .u8 0] [2, 1, 0] 3 rfl (by omega) rfl)
  have HBv := Lib.hid (below_var w2 (.cells #[Value.int .u8 2, Value.int .u8 1, Value.int .u8 0] 5))
  go_wp2_with (at_builtin; go_must (refine wpList_app_zeros rfl _ _ rfl w2.heap.size 3 3 32 _ [2, 1, 0] rfl rfl HW0.out (by omega) (by omega) (by omega) HBv.out.size ?_))
  intro A3 c3 w3 o3 k3
  have HK3 : Hid (Below w2.heap.size w2 w3) := Lib.hid (HBv.out.trans (k3.lowB HW0.out.base HBv.out.size))
  have HO3 := Lib.hid o3
  clear o3 k3 HW0 HBv
  have HC4 := Lib.hid (cells_lit (w := w3) #[Value.int .u8 1, Value.int .u8 1, Value.int .u8 97, Value.int .u8 0, Value.int .u8 0, Value.int .u8 0, Value.int .u8 0, Value.int .u8 1, Value.int .u8 3, Value.int .u8 0, Value.int .u8 0, Value.int .u8 60, Value.int .u8 0, Value.int .u8 0, Value.int .u8 0] [1, 1, 97, 0, 0, 0, 0, 1, 3, 0, 0, 60, 0, 0, 0] 5 rfl)
  have HO4 := Lib.hid (HO3.out.below (below_var w3 (.cells #[Value.int .u8 1, Value.int .u8 1, Value.int .u8 97, Value.int .u8 0, Value.int .u8 0, Value.int .u8 0, Value.int .u8 0, Value.int .u8 1, Value.int .u8 3, Value.int .u8 0, Value.int .u8 0, Value.int .u8 60, Value.int .u8 0, Value.int .u8 0, Value.int .u8 0] 5)))
  have HB4 : Hid (Below w2.heap.size w2 (w3.alloc (.cells #[Value.int .u8 1, Value.int .u8 1, Value.int .u8 97, Value.int .u8 0, Value.int .u8 0, Value.int .u8 0, Value.int .u8 0, Value.int .u8 1, Value.int .u8 3, Value.int .u8 0, Value.int .u8 0, Value.int .u8 60, Value.int .u8 0, Value.int .u8 0, Value.int .u8 0] 5))) := Lib.hid (below_trans HK3.out (below_var w3 _))
  clear HO3
  go_wp2_with (at_builtin; go_must (refine wpList_app_bs rfl _ _ rfl w2.heap.size 35 c3 A3 ([2, 1, 0] ++ List.replicate 32 0) rfl HO4.out _ (some ⟨w3.heap.size, 0, none⟩) 15 15 [1, 1, 97, 0, 0, 0, 0, 1, 3, 0, 0, 60, 0, 0, 0] rfl rfl (by omega) HC4.out (by omega) HB4.out.size ?_))
  intro A5 c5 w5 o5 k5
  have HK5 : Hid (Below w2.heap.size w2 w5) := Lib.hid (HB4.out.trans (k5.lowB HO4.out.base HB4.out.size))
  have HO5 := Lib.hid o5
  clear o5 k5 HO4 HB4 HC4 HK3
  go_wp2_with (at_builtin; go_must (refine wpList_app_zeros rfl _ _ rfl w2.heap.size 50 c5 9 A5 _ rfl rfl HO5.out (by omega) (by omega) (by omega) HK5.out.size ?_))
  intro A6 c6 w6 o6 k6
  have HK6 : Hid (Below w2.heap.size w2 w6) := Lib.hid (HK5.out.trans (k6.lowB HO5.out.base HK5.out.size))
  have ho6 : BsO w2.heap.size w6 A6 59 c6 wantB := o6
  clear o6 k6 HO5 HK5
  obtain ⟨g, cur, rfl, hg, hnc, hcm, hav, hcur⟩ := pad_there ho6 (by omega)
  have HAV := Lib.hid hav
  have HCU := Lib.hid hcur
  have hcm2 : c6 ≤ 9223372036854775807 := by unfold maxLen at hcm; omega
  have HC6 : Hid (CellsAt w6 w6.heap.size (some ⟨g, 0, none⟩) (wantB.map Extern.Stop.cell)) := Lib.hid (CellsAt.of_own ho6)
  have HC2' := Lib.hid (HC2.out.grow HK6.out)
  have HB6 := Lib.hid (HB2.out.trans (HK6.out.mono HB2.out.size))
  clear ho6 hav hcur hcm HC2 HB2 HK6
  have HBY : Hid (∀ j, j < 59 → w6.cell? ⟨g, 0 + j, none⟩ = some (Extern.Stop.cell (wantB[j]?.getD 0))) := Lib.hid (fun j hj => by rw [Nat.zero_add]; exact (HAV.out.cell j).trans (HCU.out j hj))
  have hgl : g < w6.heap.size := HAV.out.lt
  go_wp2_with fail
  refine (tableRead_flat w6 T 1 59 g 0 c6 HTF.out (by rw [HTZ.out]; rfl) (by rw [HTB.out, want_len]) (fun ys h => names_up1 ys (by rw [h, HTZ.out])) hgl hnc hcm2 (by rw [HTB.out]; exact HBY.out)).mono ?_
  rintro e w7 ⟨A7, c7, ys7, rfl, hz7, he7, hb7⟩
  rw [HTM.out]
  rw [HTZ.out] at he7
  have HZ7 := Lib.hid (ver_at (n := 1) (wd := 0) (b := true) (c := c7) (by rw [ver_len he7]; exact hz7) he7).zones
  have HE7 := Lib.hid he7
  have HBV := Lib.hid (AV.new w7 (tbVal zTb (.slice none 0 0)) 47)
  have hl7 : w6.heap.size ≤ w7.heap.size := hb7.size
  have HB8 : Hid (Below w7.heap.size w7 ((w7.alloc (.cells (tbVal zTb (.slice none 0 0)) 47)).setRow w7.heap.size (tbVal T (.slice A7 1 c7)))) := Lib.hid (below_setRow' (below_var w7 _) (Nat.le_refl _) _)
  have HB7 := Lib.hid hb7
  clear hz7 he7 hb7
  go_upto_region 7 with (first
    | ((with_reducible refine g_alloc 47 ?_); go_must (refine wpList_alloc_nm rfl _ rfl (tbVal zTb (.slice none 0 0)) tab_zero ?_))
    | ((with_reducible refine g_sto 47 ?_); go_must (refine wpList_store_row rfl _ _ _ rfl w7.heap.size (tbVal T (.slice A7 1 c7)) rfl rfl 47 (tbVal zTb (.slice none 0 0)) HBV.out.var (HSZ.out _) (HSE.out _) (tbVal_one _ _ _ _) ?_)))
  have HV8 := Lib.hid (HBV.out.rowS (tbVal T (.slice A7 1 c7)))
  generalize (w7.alloc (.cells (tbVal zTb (.slice none 0 0)) 47)).setRow w7.heap.size (tbVal T (.slice A7 1 c7)) = W8 at HB8 HV8 ⊢
  (try simp only [Act.put, List.setIfInBounds_toArray, List.set_cons_zero, List.set_cons_succ])
  have HK8 : Hid (Below w6.heap.size w6 W8) := Lib.hid (below_trans HB7.out HB8.out)
  have HZ8 := Lib.hid (HZ7.out.grow HB8.out)
  obtain ⟨bb, hbb⟩ : ∃ b, w7.heap.size = b := ⟨_, rfl⟩
  rw [hbb] at HV8 ⊢
  clear hbb HBV HB7 HB8 HZ7 hl7
  have n58 : (58 : Int) ≤ (c6 : Int) := by omega
  go_wp2_with fail
  refine (tableRead_no W8 T ze0 58 g 0 c6 HTF.out ⟨z0_flat, by decide⟩ (by rw [HTS.out, List.length_take, want_len]; rfl) (Nat.lt_of_lt_of_le hgl HK8.out.size) (by omega) hcm2 (fun j hj => by rw [HTS.out, List.getElem?_take_of_lt hj]; exact (HK8.out.cell (p := ⟨g, 0 + j, none⟩) hgl).trans (HBY.out j (by omega)))).mono ?_
  rintro e w9 ⟨rfl, hb9⟩
  have HK9 : Hid (Below w6.heap.size w6 w9) := Lib.hid (below_trans HK8.out hb9)
  have HV9 := Lib.hid (HV8.out.below hb9)
  have HZ9 := Lib.hid (HZ8.out.grow hb9)
  clear hb9 HK8 HV8 HZ8
  have HSV := Lib.hid (AV.new w9 (tbVal zTb (.slice none 0 0)) 47)
  have HB10 : Hid (Below w9.heap.size w9 ((w9.alloc (.cells (tbVal zTb (.slice none 0 0)) 47)).setRow w9.heap.size (tbVal zTb (.slice none 0 0)))) := Lib.hid (below_setRow' (below_var w9 _) (Nat.le_refl _) _)
  go_upto_region 8 with (first
    | ((with_reducible refine g_alloc 47 ?_); go_must (refine wpList_alloc_nm rfl _ rfl (tbVal zTb (.slice none 0 0)) tab_zero ?_))
    | ((with_reducible refine g_sto 47 ?_); go_must (refine wpList_store_row rfl _ _ _ rfl w9.heap.size (tbVal zTb (.slice none 0 0)) rfl rfl 47 (tbVal zTb (.slice none 0 0)) HSV.out.var (tb_info zTb _ rfl rfl) rfl (tbVal_one _ _ _ _) ?_)))
  generalize (w9.alloc (.cells (tbVal zTb (.slice none 0 0)) 47)).setRow w9.heap.size (tbVal zTb (.slice none 0 0)) = W10 at HB10 ⊢
  (try simp only [Act.put, List.setIfInBounds_toArray, List.set_cons_zero, List.set_cons_succ])
  have HK10 : Hid (Below w6.heap.size w6 W10) := Lib.hid (below_trans HK9.out HB10.out)
  have HV10 := Lib.hid (HV9.out.below HB10.out)
  have HZ10 := Lib.hid (HZ9.out.grow HB10.out)
  have HC10 := Lib.hid (HC6.out.grow HK10.out)
  have HC11 := Lib.hid (HC2'.out.grow HK10.out)
  clear HK9 HV9 HZ9 HSV HB10 HC6 HC2' HBY HAV HCU
  have HKD : Hid (Below w6.heap.size w6 W10.drew) := Lib.hid HK10.out.drew
  have HVD : Hid (AV bb 47 (tbVal T (.slice A7 1 c7)) W10.drew) := Lib.hid HV10.out.drew
  have HZD : Hid (ZesC W10.drew W10.drew.heap.size A7 ys7) := Lib.hid (HZ10.out.grow ((Below.refl _ W10).drew))
  have HCD : Hid (CellsAt W10.drew W10.drew.heap.size (some ⟨g, 0, none⟩) (wantB.map Extern.Stop.cell)) := Lib.hid HC10.out
  have HCE : Hid (CellsAt W10.drew W10.drew.heap.size (some ⟨g2, 0, none⟩) (wantB.map Extern.Stop.cell)) := Lib.hid HC11.out
  have hS0 : RowU W10.drew bb (tbVal T (.slice A7 1 c7)) := HVD.out.rowU
  refine wp_region_held_drew (S := fun W => RowU W bb (tbVal T (.slice A7 1 c7))) (by kernel_rfl) hS0 (fun _ => ?_)
  generalize W10.drew = V at HKD HVD HZD HCD HCE hS0 ⊢
  clear HK10 HV10 HZ10 HC10 HC11
  refine wpAnyH_take_dd (i := 0) (v := (I 0)) (d := 45) rfl rfl (by kernel_rfl) (by kernel_rfl) (by kernel_rfl) (fun _ _ _ h => h) (Or.inl ⟨by rfl, fun w' hSw => ?_⟩) hS0 ?_
  · clear hSw
    first | (go_simp; done) | (go_simp; with_reducible rfl)
  try simp only [Act.put, List.setIfInBounds_toArray, List.set_cons_zero, List.set_cons_succ]
  refine wpAnyH_take_dd (i := 1) (v := (.bool false)) (d := 46) rfl rfl (by kernel_rfl) (by kernel_rfl) (by kernel_rfl) (fun _ _ _ h => h) (Or.inl ⟨by rfl, fun w' hSw => ?_⟩) hS0 ?_
  · clear hSw
    first | (go_simp; done) | (go_simp; with_reducible rfl)
  try simp only [Act.put, List.setIfInBounds_toArray, List.set_cons_zero, List.set_cons_succ]
  refine wpAnyH_take_dd (i := 2) (v := (.bool false)) (d := 47) rfl rfl (by kernel_rfl) (by kernel_rfl) (by kernel_rfl) (fun _ _ _ h => h) (Or.inl ⟨by rfl, fun w' hSw => ?_⟩) hS0 ?_
  · clear hSw
    first | (go_simp; done) | (go_simp; with_reducible rfl)
  try simp only [Act.put, List.setIfInBounds_toArray, List.set_cons_zero, List.set_cons_succ]
  refine wpAnyH_take_dd (i := 3) (v := (I 0)) (d := 48) rfl rfl (by kernel_rfl) (by kernel_rfl) (by kernel_rfl) (fun _ _ _ h => h) (Or.inl ⟨by rfl, fun w' hSw => ?_⟩) hS0 ?_
  · clear hSw
    first | (go_simp; done) | (go_simp; with_reducible rfl)
  try simp only [Act.put, List.setIfInBounds_toArray, List.set_cons_zero, List.set_cons_succ]
  refine wpAnyH_take_dd (i := 4) (v := (.bool false)) (d := 49) rfl rfl (by kernel_rfl) (by kernel_rfl) (by kernel_rfl) (fun _ _ _ h => h) (Or.inl ⟨by rfl, fun w' hSw => ?_⟩) hS0 ?_
  · clear hSw
    first | (go_simp; done) | (go_simp; with_reducible rfl)
  try simp only [Act.put, List.setIfInBounds_toArray, List.set_cons_zero, List.set_cons_succ]
  refine wpAnyH_take_dd (i := 5) (v := (.bool false)) (d := 50) rfl rfl (by kernel_rfl) (by kernel_rfl) (by kernel_rfl) (fun _ _ _ h => h) (Or.inl ⟨by rfl, fun w' hSw => ?_⟩) hS0 ?_
  · clear hSw
    first | (go_simp; done) | (go_simp; with_reducible rfl)
  try simp only [Act.put, List.setIfInBounds_toArray, List.set_cons_zero, List.set_cons_succ]
  refine wpAnyH_take_dd (i := 6) (v := (.bool false)) (d := 51) rfl rfl (by kernel_rfl) (by kernel_rfl) (by kernel_rfl) (fun _ _ _ h => h) (Or.inl ⟨by rfl, fun w' hSw => ?_⟩) hS0 ?_
  · clear hSw
    first | (go_simp; done) | (go_simp; with_reducible rfl)
  try simp only [Act.put, List.setIfInBounds_toArray, List.set_cons_zero, List.set_cons_succ]
  refine wpAnyH_take_dd (i := 7) (v := (I 3)) (d := 52) rfl rfl (by kernel_rfl) (by kernel_rfl) (by kernel_rfl) (fun _ _ _ h => h) (Or.inl ⟨by rfl, fun w' hSw => ?_⟩) hS0 ?_
  · clear hSw
    first | (go_simp; done) | (go_simp; with_reducible rfl)
  try simp only [Act.put, List.setIfInBounds_toArray, List.set_cons_zero, List.set_cons_succ]
  refine wpAnyH_take_dd (i := 8) (v := (.bool false)) (d := 53) rfl rfl (by kernel_rfl) (by kernel_rfl) (by kernel_rfl) (fun _ _ _ h => h) (Or.inl ⟨by rfl, fun w' hSw => ?_⟩) hS0 ?_
  · clear hSw
    first | (go_simp; done) | (go_simp; with_reducible rfl)
  try simp only [Act.put, List.setIfInBounds_toArray, List.set_cons_zero, List.set_cons_succ]
  refine wpAnyH_take_dd (i := 9) (v := (.bool false)) (d := 54) rfl rfl (by kernel_rfl) (by kernel_rfl) (by kernel_rfl) (fun _ _ _ h => h) (Or.inl ⟨by rfl, fun w' hSw => ?_⟩) hS0 ?_
  · clear hSw
    first | (go_simp; done) | (go_simp; with_reducible rfl)
  try simp only [Act.put, List.setIfInBounds_toArray, List.set_cons_zero, List.set_cons_succ]
  refine wpAnyH_take_dd (i := 10) (v := (.bool false)) (d := 55) rfl rfl (by kernel_rfl) (by kernel_rfl) (by kernel_rfl) (fun _ _ _ h => h) (Or.inl ⟨by rfl, fun w' hSw => ?_⟩) hS0 ?_
  · clear hSw
    first | (go_simp; done) | (go_simp; with_reducible rfl)
  try simp only [Act.put, List.setIfInBounds_toArray, List.set_cons_zero, List.set_cons_succ]
  refine wpAnyH_take_dd (i := 11) (v := (.slice (some ⟨g, 0, none⟩) 59 c6)) (d := 56) rfl rfl (by kernel_rfl) (by kernel_rfl) (by kernel_rfl) (fun _ _ _ h => h) (Or.inl ⟨by rfl, fun w' hSw => ?_⟩) hS0 ?_
  · clear hSw
    first | (go_simp; done) | (go_simp; with_reducible rfl)
  try simp only [Act.put, List.setIfInBounds_toArray, List.set_cons_zero, List.set_cons_succ]
  refine wpAnyH_take_dd (i := 12) (v := (.int .i64 59)) (d := 57) rfl rfl (by kernel_rfl) (by kernel_rfl) (by kernel_rfl) (fun _ _ _ h => h) (Or.inl ⟨by rfl, fun w' hSw => ?_⟩) hS0 ?_
  · clear hSw
    first | (go_simp; done) | (go_simp; with_reducible rfl)
  try simp only [Act.put, List.setIfInBounds_toArray, List.set_cons_zero, List.set_cons_succ]
  refine wpAnyH_take_dd (i := 13) (v := (.bool false)) (d := 58) rfl rfl (by kernel_rfl) (by kernel_rfl) (by kernel_rfl) (fun _ _ _ h => h) (Or.inl ⟨by rfl, fun w' hSw => ?_⟩) hS0 ?_
  · clear hSw
    first | (go_simp; done) | (go_simp; with_reducible rfl)
  try simp only [Act.put, List.setIfInBounds_toArray, List.set_cons_zero, List.set_cons_succ]
  refine wpAnyH_take_dd (i := 14) (v := (.bool false)) (d := 59) rfl rfl (by kernel_rfl) (by kernel_rfl) (by kernel_rfl) (fun _ _ _ h => h) (Or.inl ⟨by rfl, fun w' hSw => ?_⟩) hS0 ?_
  · clear hSw
    first | (go_simp; done) | (go_simp; with_reducible rfl)
  try simp only [Act.put, List.setIfInBounds_toArray, List.set_cons_zero, List.set_cons_succ]
  refine wpAnyH_take_dd (i := 15) (v := (.bool false)) (d := 60) rfl rfl (by kernel_rfl) (by kernel_rfl) (by kernel_rfl) (fun _ _ _ h => h) (Or.inl ⟨by rfl, fun w' hSw => ?_⟩) hS0 ?_
  · clear hSw
    first | (go_simp; done) | (go_simp; with_reducible rfl)
  try simp only [Act.put, List.setIfInBounds_toArray, List.set_cons_zero, List.set_cons_succ]
  refine wpAnyH_take_dd (i := 16) (v := (.slice (some ⟨g2, 0, none⟩) 59 cb)) (d := 61) rfl rfl (by kernel_rfl) (by kernel_rfl) (by kernel_rfl) (fun _ _ _ h => h) (Or.inl ⟨by rfl, fun w' hSw => ?_⟩) hS0 ?_
  · clear hSw
    first | (go_simp; done) | (go_simp; with_reducible rfl)
  try simp only [Act.put, List.setIfInBounds_toArray, List.set_cons_zero, List.set_cons_succ]
  refine wpAnyH_take_dd (i := 17) (v := (.slice (some ⟨g, 0, none⟩) 59 c6)) (d := 62) rfl rfl (by kernel_rfl) (by kernel_rfl) (by kernel_rfl) (fun _ _ _ h => h) (Or.inl ⟨by rfl, fun w' hSw => ?_⟩) hS0 ?_
  · clear hSw
    first | (go_simp; done) | (go_simp; with_reducible rfl)
  try simp only [Act.put, List.setIfInBounds_toArray, List.set_cons_zero, List.set_cons_succ]
  refine wpAnyH_ready (rs := [18]) (by kernel_rfl) (by simp) ?_
  refine AllReadyH.cons rfl (fun K hK => ?_) AllReadyH.nil
  go_simp
  refine (sameBytes14_r (some ⟨g2, 0, none⟩) (some ⟨g, 0, none⟩) 59 cb c6 wantB V want_len (by omega) HCE.out HCD.out).mono ?_
  rintro e w11 ⟨rfl, hb11⟩
  have HK11 : Hid (Below w6.heap.size w6 w11) := Lib.hid (below_trans HKD.out hb11)
  have HV11 := Lib.hid (HVD.out.below hb11)
  have HZ11 := Lib.hid (HZD.out.grow hb11)
  have hS1 : RowU w11 bb (tbVal T (.slice A7 1 c7)) := HV11.out.rowU
  clear hb11
  refine hK.out _ _ hS1 (fun _ => ?_)
  clear hK K HKD HVD HZD HCD HCE
  try simp only [Act.put, List.setIfInBounds_toArray, List.set_cons_zero, List.set_cons_succ]
  refine wpAnyH_take_dd (i := 19) (v := (.bool false)) (d := 64) rfl rfl (by kernel_rfl) (by kernel_rfl) (by kernel_rfl) (fun _ _ _ h => h) (Or.inl ⟨by rfl, fun w' hSw => ?_⟩) hS1 ?_
  · clear hSw
    first | (go_simp; done) | (go_simp; with_reducible rfl)
  try simp only [Act.put, List.setIfInBounds_toArray, List.set_cons_zero, List.set_cons_succ]
  refine wpAnyH_take_dd (i := 20) (v := (.bool false)) (d := 65) rfl rfl (by kernel_rfl) (by kernel_rfl) (by kernel_rfl) (fun _ _ _ h => h) (Or.inl ⟨by rfl, fun w' hSw => ?_⟩) hS1 ?_
  · clear hSw
    first | (go_simp; done) | (go_simp; with_reducible rfl)
  try simp only [Act.put, List.setIfInBounds_toArray, List.set_cons_zero, List.set_cons_succ]
  refine wpAnyH_take_dd (i := 21) (v := (.bool false)) (d := 66) rfl rfl (by kernel_rfl) (by kernel_rfl) (by kernel_rfl) (fun _ _ _ h => h) (Or.inl ⟨by rfl, fun w' hSw => ?_⟩) hS1 ?_
  · clear hSw
    first | (go_simp; done) | (go_simp; with_reducible rfl)
  try simp only [Act.put, List.setIfInBounds_toArray, List.set_cons_zero, List.set_cons_succ]
  refine wpAnyH_take_dd (i := 22) (v := .agg (tbVal T (.slice A7 1 c7))) (d := 67) rfl rfl (by kernel_rfl) (by kernel_rfl) (by kernel_rfl) (fun _ _ _ h => h) (yieldsIf_load_mid (by rfl) 47 _ rfl bb 0 rfl (tbVal T (.slice A7 1 c7)).toList _ (fun W hW j v hv => by rw [Nat.zero_add, hW.2 j]; simpa using hv) Tryz.underlying47 rfl (by rw [HSZ.out, Array.length_toList])) hS1 ?_
  try simp only [Act.put, List.setIfInBounds_toArray, List.set_cons_zero, List.set_cons_succ]
  refine wpAnyH_ready (rs := [23]) (by kernel_rfl) (by simp) ?_
  refine AllReadyH.cons rfl (fun K hK => ?_) AllReadyH.nil
  go_simp
  refine (HVT.out w11).mono ?_
  rintro e w12 ⟨A12, c12, ys12, rfl, hz12, he12, hl12, hb12⟩
  have HK12 : Hid (Below w6.heap.size w6 w12) := Lib.hid (below_trans HK11.out hb12)
  have HV12 := Lib.hid (HV11.out.below hb12)
  have HZ12 := Lib.hid (HZ11.out.grow hb12)
  have HY12 := Lib.hid (ver_at (n := 1) (wd := 0) (b := true) (c := c12) (by rw [hl12]; exact hz12) he12).zones
  have HE12 := Lib.hid he12
  have hS2 : RowU w12 bb (tbVal T (.slice A7 1 c7)) := HV12.out.rowU
  clear hb12 hz12 he12 hl12
  refine hK.out _ _ hS2 (fun _ => ?_)
  clear hK K HK11 HV11 HZ11 hS1
  try simp only [Act.put, List.setIfInBounds_toArray, List.set_cons_zero, List.set_cons_succ]
  refine wpAnyH_ready (rs := [24]) (by kernel_rfl) (by simp) ?_
  refine AllReadyH.cons rfl (fun K hK => ?_) AllReadyH.nil
  go_simp
  refine (same14_r T A7 A12 c7 c12 1 ys7 ys12 [ze0] w12 HTF.out.prev HTF.out.mac HE7.out HE12.out rfl (by omega) (fun e he => by rw [List.mem_singleton.1 he]; exact z0_len) HZ12.out HY12.out).mono ?_
  rintro e w13 ⟨rfl, hb13⟩
  have HB13 : Hid (Below w.heap.size w w13) := Lib.hid (HB6.out.trans ((below_trans HK12.out hb13).mono HB6.out.size))
  have hS3 : RowU w13 bb (tbVal T (.slice A7 1 c7)) := (HV12.out.below hb13).rowU
  clear hb13
  refine hK.out _ _ hS3 (fun _ => ?_)
  clear hK K HK12 HV12 HZ12 HY12 HE12 hS2
  try simp only [Act.put, List.setIfInBounds_toArray, List.set_cons_zero, List.set_cons_succ]
  refine wpAnyH_take_dd (i := 25) (v := (.bool false)) (d := 70) rfl rfl (by kernel_rfl) (by kernel_rfl) (by kernel_rfl) (fun _ _ _ h => h) (Or.inl ⟨by rfl, fun w' hSw => ?_⟩) hS3 ?_
  · clear hSw
    first | (go_simp; done) | (go_simp; with_reducible rfl)
  try simp only [Act.put, List.setIfInBounds_toArray, List.set_cons_zero, List.set_cons_succ]
  refine wpAnyH_take_dd (i := 26) (v := (.bool false)) (d := 71) rfl rfl (by kernel_rfl) (by kernel_rfl) (by kernel_rfl) (fun _ _ _ h => h) (Or.inl ⟨by rfl, fun w' hSw => ?_⟩) hS3 ?_
  · clear hSw
    first | (go_simp; done) | (go_simp; with_reducible rfl)
  try simp only [Act.put, List.setIfInBounds_toArray, List.set_cons_zero, List.set_cons_succ]
  refine wpAnyH_done (by kernel_rfl) ?_ _
  clear hS3 HE7 HB6 HTF HTZ HTM HTB HTS HSZ HSE HVT HT
  go_wp2_with fail
  refine (verT 1 0 w13).mono ?_
  rintro e u1 ⟨a1, k1, s1, rfl, t1, b1⟩
  have HT1 := Lib.hid t1
  have HBL1 : Hid (Below w.heap.size w u1) := Lib.hid (below_trans HB13.out b1)
  clear HB13 t1 b1
  go_wp2_with fail
  refine (verT 2 0 u1).mono ?_
  rintro e u2 ⟨a2, k2, s2, rfl, t2, b2⟩
  have HT2 := Lib.hid t2
  have HBL2 : Hid (Below w.heap.size w u2) := Lib.hid (below_trans HBL1.out b2)
  replace HT1 := Lib.hid (HT1.out.grow b2)
  clear HBL1 t2 b2
  go_wp2_with fail
  refine (verF 3 2 u2).mono ?_
  rintro e u3 ⟨a3, k3, rfl, t3, b3⟩
  have HT3 := Lib.hid t3
  have HBL3 : Hid (Below w.heap.size w u3) := Lib.hid (below_trans HBL2.out b3)
  replace HT1 := Lib.hid (HT1.out.grow b3)
  replace HT2 := Lib.hid (HT2.out.grow b3)
  clear HBL2 t3 b3
  go_wp2_with fail
  refine (verF 4 3 u3).mono ?_
  rintro e u4 ⟨a4, k4, rfl, t4, b4⟩
  have HT4 := Lib.hid t4
  have HBL4 : Hid (Below w.heap.size w u4) := Lib.hid (below_trans HBL3.out b4)
  replace HT1 := Lib.hid (HT1.out.grow b4)
  replace HT2 := Lib.hid (HT2.out.grow b4)
  replace HT3 := Lib.hid (HT3.out.grow b4)
  clear HBL3 t4 b4
  go_wp2_with ((with_reducible refine g_bslice14 26 ?_); go_must (refine wpList_tabs4 rfl _ _ _ _ rfl (yT 1 0 a1 k1 s1) (yT 2 0 a2 k2 s2) (yF 3 2 a3 k3) (yF 4 3 a4 k4) rfl rfl rfl rfl rfl rfl rfl rfl ?_))
  have HCL : Hid (ChAt (u4.alloc (.cells (tabsC [(yT 1 0 a1 k1 s1), (yT 2 0 a2 k2 s2), (yF 3 2 a3 k3), (yF 4 3 a4 k4)]) 47)) (u4.alloc (.cells (tabsC [(yT 1 0 a1 k1 s1), (yT 2 0 a2 k2 s2), (yF 3 2 a3 k3), (yF 4 3 a4 k4)]) 47)).heap.size (some ⟨u4.heap.size, 0, none⟩) [(yT 1 0 a1 k1 s1), (yT 2 0 a2 k2 s2), (yF 3 2 a3 k3), (yF 4 3 a4 k4)]) := Lib.hid (chain_new _ u4 (fun y hy => by simp only [List.mem_cons, List.not_mem_nil, or_false] at hy; rcases hy with rfl | rfl | rfl | rfl <;> first | exact HT1.out | exact HT2.out | exact HT3.out | exact HT4.out))
  have HXL : Hid (Below w.heap.size w (u4.alloc (.cells (tabsC [(yT 1 0 a1 k1 s1), (yT 2 0 a2 k2 s2), (yF 3 2 a3 k3), (yF 4 3 a4 k4)]) 47))) := Lib.hid (below_trans HBL4.out (below_var u4 _))
  generalize (u4.alloc (.cells (tabsC [(yT 1 0 a1 k1 s1), (yT 2 0 a2 k2 s2), (yF 3 2 a3 k3), (yF 4 3 a4 k4)]) 47)) = WL at HCL HXL ⊢
  obtain ⟨bL, hbL⟩ : ∃ b, u4.heap.size = b := ⟨_, rfl⟩
  rw [hbL] at HCL ⊢
  clear hbL HBL4 HT1 HT2 HT3 HT4
  refine (verT 1 0 WL).mono ?_
  rintro e u5 ⟨a5, k5, s5, rfl, t5, b5⟩
  have HT5 := Lib.hid t5
  have HBM5 : Hid (Below w.heap.size w u5) := Lib.hid (below_trans HXL.out b5)
  replace HCL := Lib.hid (HCL.out.grow b5)
  clear HXL t5 b5
  go_wp2_with fail
  refine (verT 2 0 u5).mono ?_
  rintro e u6 ⟨a6, k6, s6, rfl, t6, b6⟩
  have HT6 := Lib.hid t6
  have HBM6 : Hid (Below w.heap.size w u6) := Lib.hid (below_trans HBM5.out b6)
  replace HT5 := Lib.hid (HT5.out.grow b6)
  replace HCL := Lib.hid (HCL.out.grow b6)
  clear HBM5 t6 b6
  go_wp2_with fail
  refine (verF 3 2 u6).mono ?_
  rintro e u7 ⟨a7, k7, rfl, t7, b7⟩
  have HT7 := Lib.hid t7
  have HBM7 : Hid (Below w.heap.size w u7) := Lib.hid (below_trans HBM6.out b7)
  replace HT5 := Lib.hid (HT5.out.grow b7)
  replace HT6 := Lib.hid (HT6.out.grow b7)
  replace HCL := Lib.hid (HCL.out.grow b7)
  clear HBM6 t7 b7
  go_wp2_with fail
  refine (verT 4 0 u7).mono ?_
  rintro e u8 ⟨a8, k8, s8, rfl, t8, b8⟩
  have HT8 := Lib.hid t8
  have HBM8 : Hid (Below w.heap.size w u8) := Lib.hid (below_trans HBM7.out b8)
  replace HT5 := Lib.hid (HT5.out.grow b8)
  replace HT6 := Lib.hid (HT6.out.grow b8)
  replace HT7 := Lib.hid (HT7.out.grow b8)
  replace HCL := Lib.hid (HCL.out.grow b8)
  clear HBM7 t8 b8
  go_wp2_with ((with_reducible refine g_bslice14 26 ?_); go_must (refine wpList_tabs4 rfl _ _ _ _ rfl (yT 1 0 a5 k5 s5) (yT 2 0 a6 k6 s6) (yF 3 2 a7 k7) (yT 4 0 a8 k8 s8) rfl rfl rfl rfl rfl rfl rfl rfl ?_))
  have HCM : Hid (ChAt (u8.alloc (.cells (tabsC [(yT 1 0 a5 k5 s5), (yT 2 0 a6 k6 s6), (yF 3 2 a7 k7), (yT 4 0 a8 k8 s8)]) 47)) (u8.alloc (.cells (tabsC [(yT 1 0 a5 k5 s5), (yT 2 0 a6 k6 s6), (yF 3 2 a7 k7), (yT 4 0 a8 k8 s8)]) 47)).heap.size (some ⟨u8.heap.size, 0, none⟩) [(yT 1 0 a5 k5 s5), (yT 2 0 a6 k6 s6), (yF 3 2 a7 k7), (yT 4 0 a8 k8 s8)]) := Lib.hid (chain_new _ u8 (fun y hy => by simp only [List.mem_cons, List.not_mem_nil, or_false] at hy; rcases hy with rfl | rfl | rfl | rfl <;> first | exact HT5.out | exact HT6.out | exact HT7.out | exact HT8.out))
  replace HCL := Lib.hid (HCL.out.grow (below_var u8 (.cells (tabsC [(yT 1 0 a5 k5 s5), (yT 2 0 a6 k6 s6), (yF 3 2 a7 k7), (yT 4 0 a8 k8 s8)]) 47)))
  have HXM : Hid (Below w.heap.size w (u8.alloc (.cells (tabsC [(yT 1 0 a5 k5 s5), (yT 2 0 a6 k6 s6), (yF 3 2 a7 k7), (yT 4 0 a8 k8 s8)]) 47))) := Lib.hid (below_trans HBM8.out (below_var u8 _))
  generalize (u8.alloc (.cells (tabsC [(yT 1 0 a5 k5 s5), (yT 2 0 a6 k6 s6), (yF 3 2 a7 k7), (yT 4 0 a8 k8 s8)]) 47)) = WM at HCL HCM HXM ⊢
  obtain ⟨bM, hbM⟩ : ∃ b, u8.heap.size = b := ⟨_, rfl⟩
  rw [hbM] at HCM ⊢
  clear hbM HBM8 HT5 HT6 HT7 HT8
  refine (verF 1 0 WM).mono ?_
  rintro e u9 ⟨a9, k9, rfl, t9, b9⟩
  have HT9 := Lib.hid t9
  have HBN9 : Hid (Below w.heap.size w u9) := Lib.hid (below_trans HXM.out b9)
  replace HCL := Lib.hid (HCL.out.grow b9)
  replace HCM := Lib.hid (HCM.out.grow b9)
  clear HXM t9 b9
  go_wp2_with fail
  refine (verF 2 1 u9).mono ?_
  rintro e u10 ⟨a10, k10, rfl, t10, b10⟩
  have HT10 := Lib.hid t10
  have HBN10 : Hid (Below w.heap.size w u10) := Lib.hid (below_trans HBN9.out b10)
  replace HT9 := Lib.hid (HT9.out.grow b10)
  replace HCL := Lib.hid (HCL.out.grow b10)
  replace HCM := Lib.hid (HCM.out.grow b10)
  clear HBN9 t10 b10
  go_upto_region 13 with ((with_reducible refine g_bslice14 26 ?_); go_must (refine wpList_tabs2 rfl _ _ rfl (yF 1 0 a9 k9) (yF 2 1 a10 k10) rfl rfl rfl rfl ?_))
  (try simp only [Act.put, List.setIfInBounds_toArray, List.set_cons_zero, List.set_cons_succ])
  have HCN : Hid (ChAt (u10.alloc (.cells (tabsC [(yF 1 0 a9 k9), (yF 2 1 a10 k10)]) 47)) (u10.alloc (.cells (tabsC [(yF 1 0 a9 k9), (yF 2 1 a10 k10)]) 47)).heap.size (some ⟨u10.heap.size, 0, none⟩) [(yF 1 0 a9 k9), (yF 2 1 a10 k10)]) := Lib.hid (chain_new _ u10 (fun y hy => by simp only [List.mem_cons, List.not_mem_nil, or_false] at hy; rcases hy with rfl | rfl <;> first | exact HT9.out | exact HT10.out))
  replace HCL := Lib.hid (HCL.out.grow (below_var u10 (.cells (tabsC [(yF 1 0 a9 k9), (yF 2 1 a10 k10)]) 47)))
  replace HCM := Lib.hid (HCM.out.grow (below_var u10 (.cells (tabsC [(yF 1 0 a9 k9), (yF 2 1 a10 k10)]) 47)))
  have HXN : Hid (Below w.heap.size w (u10.alloc (.cells (tabsC [(yF 1 0 a9 k9), (yF 2 1 a10 k10)]) 47))) := Lib.hid (below_trans HBN10.out (below_var u10 _))
  generalize (u10.alloc (.cells (tabsC [(yF 1 0 a9 k9), (yF 2 1 a10 k10)]) 47)) = WN at HCL HCM HCN HXN ⊢
  obtain ⟨bN, hbN⟩ : ∃ b, u10.heap.size = b := ⟨_, rfl⟩
  rw [hbN] at HCN ⊢
  clear hbN HBN10 HT9 HT10
  have HLNA : Hid (ChLen [(yT 1 0 a1 k1 s1), (yT 2 0 a2 k2 s2), (yF 3 2 a3 k3), (yF 4 3 a4 k4)]) := Lib.hid (fun x hx => by simp only [List.mem_cons, List.not_mem_nil, or_false] at hx; rcases hx with rfl | rfl | rfl | rfl <;> first | exact yT_len _ _ _ _ _ | exact yF_len _ _ _ _)
  have HPMA : Hid (∀ x ∈ [(yT 1 0 a1 k1 s1), (yT 2 0 a2 k2 s2), (yF 3 2 a3 k3), (yF 4 3 a4 k4)], x.t.prev.length = 32 ∧ x.t.mac.length = 32) := Lib.hid (fun x hx => by simp only [List.mem_cons, List.not_mem_nil, or_false] at hx; rcases hx with rfl | rfl | rfl | rfl <;> exact ⟨rfl, rfl⟩)
  have HLNB : Hid (ChLen [(yT 1 0 a1 k1 s1), (yT 2 0 a2 k2 s2), (yF 3 2 a3 k3)]) := Lib.hid (fun x hx => by simp only [List.mem_cons, List.not_mem_nil, or_false] at hx; rcases hx with rfl | rfl | rfl <;> first | exact yT_len _ _ _ _ _ | exact yF_len _ _ _ _)
  have HPMB : Hid (∀ x ∈ [(yT 1 0 a1 k1 s1), (yT 2 0 a2 k2 s2), (yF 3 2 a3 k3)], x.t.prev.length = 32 ∧ x.t.mac.length = 32) := Lib.hid (fun x hx => by simp only [List.mem_cons, List.not_mem_nil, or_false] at hx; rcases hx with rfl | rfl | rfl <;> exact ⟨rfl, rfl⟩)
  have HLNC : Hid (ChLen [(yT 2 0 a2 k2 s2), (yF 3 2 a3 k3), (yF 4 3 a4 k4)]) := Lib.hid (fun x hx => by simp only [List.mem_cons, List.not_mem_nil, or_false] at hx; rcases hx with rfl | rfl | rfl <;> first | exact yT_len _ _ _ _ _ | exact yF_len _ _ _ _)
  have HPMC : Hid (∀ x ∈ [(yT 2 0 a2 k2 s2), (yF 3 2 a3 k3), (yF 4 3 a4 k4)], x.t.prev.length = 32 ∧ x.t.mac.length = 32) := Lib.hid (fun x hx => by simp only [List.mem_cons, List.not_mem_nil, or_false] at hx; rcases hx with rfl | rfl | rfl <;> exact ⟨rfl, rfl⟩)
  have HLND : Hid (ChLen [(yT 1 0 a5 k5 s5), (yT 2 0 a6 k6 s6), (yF 3 2 a7 k7), (yT 4 0 a8 k8 s8)]) := Lib.hid (fun x hx => by simp only [List.mem_cons, List.not_mem_nil, or_false] at hx; rcases hx with rfl | rfl | rfl | rfl <;> first | exact yT_len _ _ _ _ _ | exact yF_len _ _ _ _)
  have HPMD : Hid (∀ x ∈ [(yT 1 0 a5 k5 s5), (yT 2 0 a6 k6 s6), (yF 3 2 a7 k7), (yT 4 0 a8 k8 s8)], x.t.prev.length = 32 ∧ x.t.mac.length = 32) := Lib.hid (fun x hx => by simp only [List.mem_cons, List.not_mem_nil, or_false] at hx; rcases hx with rfl | rfl | rfl | rfl <;> exact ⟨rfl, rfl⟩)
  have HLNE : Hid (ChLen [(yF 1 0 a9 k9), (yF 2 1 a10 k10)]) := Lib.hid (fun x hx => by simp only [List.mem_cons, List.not_mem_nil, or_false] at hx; rcases hx with rfl | rfl <;> first | exact yT_len _ _ _ _ _ | exact yF_len _ _ _ _)
  have HPME : Hid (∀ x ∈ [(yF 1 0 a9 k9), (yF 2 1 a10 k10)], x.t.prev.length = 32 ∧ x.t.mac.length = 32) := Lib.hid (fun x hx => by simp only [List.mem_cons, List.not_mem_nil, or_false] at hx; rcases hx with rfl | rfl <;> exact ⟨rfl, rfl⟩)
  go_wp2_with fail
  refine (force_r (some ⟨bL, 0, none⟩) 4 3 [(yT 1 0 a1 k1 s1), (yT 2 0 a2 k2 s2), (yF 3 2 a3 k3)] WN rfl (by omega) HLNB.out (HCL.out.take 3) HPMB.out).mono ?_
  rintro e v1 ⟨rfl, b1⟩
  rw [force_l3]
  have HV1 : Hid (Below w.heap.size w v1) := Lib.hid (below_trans HXN.out b1)
  replace HCL := Lib.hid (HCL.out.grow b1)
  replace HCM := Lib.hid (HCM.out.grow b1)
  replace HCN := Lib.hid (HCN.out.grow b1)
  clear b1 HXN
  go_wp2_with fail
  refine (force_r (some ⟨bL, 0, none⟩) 4 4 [(yT 1 0 a1 k1 s1), (yT 2 0 a2 k2 s2), (yF 3 2 a3 k3), (yF 4 3 a4 k4)] v1 rfl (by omega) HLNA.out HCL.out HPMA.out).mono ?_
  rintro e v2 ⟨rfl, b2⟩
  rw [force_l4]
  have HV2 : Hid (Below w.heap.size w v2) := Lib.hid (below_trans HV1.out b2)
  replace HCL := Lib.hid (HCL.out.grow b2)
  replace HCM := Lib.hid (HCM.out.grow b2)
  replace HCN := Lib.hid (HCN.out.grow b2)
  clear b2 HV1
  go_wp2_with fail
  refine (force_r (some ⟨bM, 0, none⟩) 4 4 [(yT 1 0 a5 k5 s5), (yT 2 0 a6 k6 s6), (yF 3 2 a7 k7), (yT 4 0 a8 k8 s8)] v2 rfl (by omega) HLND.out HCM.out HPMD.out).mono ?_
  rintro e v3 ⟨rfl, b3⟩
  rw [force_m4]
  have HV3 : Hid (Below w.heap.size w v3) := Lib.hid (below_trans HV2.out b3)
  replace HCL := Lib.hid (HCL.out.grow b3)
  replace HCM := Lib.hid (HCM.out.grow b3)
  replace HCN := Lib.hid (HCN.out.grow b3)
  clear b3 HV2
  go_wp2_with fail
  refine (force_r (some ⟨bN, 0, none⟩) 2 2 [(yF 1 0 a9 k9), (yF 2 1 a10 k10)] v3 rfl (by omega) HLNE.out HCN.out HPME.out).mono ?_
  rintro e v4 ⟨rfl, b4⟩
  rw [force_n2]
  have HV4 : Hid (Below w.heap.size w v4) := Lib.hid (below_trans HV3.out b4)
  replace HCL := Lib.hid (HCL.out.grow b4)
  replace HCM := Lib.hid (HCM.out.grow b4)
  replace HCN := Lib.hid (HCN.out.grow b4)
  clear b4 HV3
  go_wp2_with fail
  refine (force_r (some ⟨bL, 68, none⟩) 3 3 [(yT 2 0 a2 k2 s2), (yF 3 2 a3 k3), (yF 4 3 a4 k4)] v4 rfl (by omega) HLNC.out (HCL.out.tail rfl) HPMC.out).mono ?_
  rintro e v5 ⟨rfl, b5⟩
  rw [force_t3]
  have HV5 : Hid (Below w.heap.size w v5) := Lib.hid (below_trans HV4.out b5)
  replace HCL := Lib.hid (HCL.out.grow b5)
  replace HCM := Lib.hid (HCM.out.grow b5)
  replace HCN := Lib.hid (HCN.out.grow b5)
  clear b5 HV4
  go_wp2_with fail
  refine (force_r none 0 0 [] v5 rfl (by omega) (fun _ h => nomatch h) ChAt.nil (fun _ h => nomatch h)).mono ?_
  rintro e v6 ⟨rfl, b6⟩
  rw [force_0]
  have HV6 : Hid (Below w.heap.size w v6) := Lib.hid (below_trans HV5.out b6)
  replace HCL := Lib.hid (HCL.out.grow b6)
  replace HCN := Lib.hid (HCN.out.grow b6)
  clear b6 HV5 HCM HLNB HLNC HLND HPMA HPMB HPMC HPMD HPME
  have HVN : Hid (v6.heap.size ≤ v6.heap.size) := Lib.hid (Nat.le_refl _)
  have HQ1 := Lib.hid (cs_new v6 [(⟨some ⟨bL, 0, none⟩, 4, [(yT 1 0 a1 k1 s1), (yT 2 0 a2 k2 s2), (yF 3 2 a3 k3), (yF 4 3 a4 k4)]⟩ : ChV), ⟨some ⟨bN, 0, none⟩, 2, [(yF 1 0 a9 k9), (yF 2 1 a10 k10)]⟩] #[.slice (some ⟨bL, 0, none⟩) 4 4, .slice (some ⟨bN, 0, none⟩) 2 2] 26 rfl (fun x hx => by simp only [List.mem_cons, List.not_mem_nil, or_false] at hx; rcases hx with rfl | rfl <;> first | exact HCL.out | exact HCN.out))
  have HB1 := Lib.hid (below_trans HV6.out (below_var v6 (.cells #[.slice (some ⟨bL, 0, none⟩) 4 4, .slice (some ⟨bN, 0, none⟩) 2 2] 26)))
  have HCL1 := Lib.hid (HCL.out.grow (below_var v6 (.cells #[.slice (some ⟨bL, 0, none⟩) 4 4, .slice (some ⟨bN, 0, none⟩) 2 2] 26)))
  have HCN1 := Lib.hid (HCN.out.grow (below_var v6 (.cells #[.slice (some ⟨bL, 0, none⟩) 4 4, .slice (some ⟨bN, 0, none⟩) 2 2] 26)))
  have HI1 := Lib.hid (ints_new (v6.alloc (.cells #[.slice (some ⟨bL, 0, none⟩) 4 4, .slice (some ⟨bN, 0, none⟩) 2 2] 26)) [1, 0] #[I 1, I 0] 3 rfl)
  clear HV6 HCL HCN HVN
  have HQ2 := Lib.hid (HQ1.out.grow (below_var (v6.alloc (.cells #[.slice (some ⟨bL, 0, none⟩) 4 4, .slice (some ⟨bN, 0, none⟩) 2 2] 26)) (.cells #[I 1, I 0] 3)))
  have HB2 := Lib.hid (below_trans HB1.out (below_var _ (.cells #[I 1, I 0] 3)))
  have HCL2 := Lib.hid (HCL1.out.grow (below_var _ (.cells #[I 1, I 0] 3)))
  have HCN2 := Lib.hid (HCN1.out.grow (below_var _ (.cells #[I 1, I 0] 3)))
  have HCL5 : Hid (CsLen [(⟨some ⟨bL, 0, none⟩, 4, [(yT 1 0 a1 k1 s1), (yT 2 0 a2 k2 s2), (yF 3 2 a3 k3), (yF 4 3 a4 k4)]⟩ : ChV), ⟨some ⟨bN, 0, none⟩, 2, [(yF 1 0 a9 k9), (yF 2 1 a10 k10)]⟩]) := Lib.hid (fun x hx => by simp only [List.mem_cons, List.not_mem_nil, or_false] at hx; rcases hx with rfl | rfl <;> first | exact ⟨Nat.le_of_ble_eq_true rfl, HLNA.out⟩ | exact ⟨Nat.le_of_ble_eq_true rfl, HLNE.out⟩)
  clear HQ1 HB1 HCL1 HCN1
  rw [al_sz v6] at HI1
  go_wp2_with fail
  generalize (v6.alloc (.cells #[.slice (some ⟨bL, 0, none⟩) 4 4, .slice (some ⟨bN, 0, none⟩) 2 2] 26)).alloc (.cells #[I 1, I 0] 3) = WP at HQ2 HI1 HB2 HCL2 HCN2 ⊢
  obtain ⟨vb, hvb⟩ : ∃ b, v6.heap.size = b := ⟨_, rfl⟩
  rw [hvb] at HQ2 HI1
  (try simp only [al_sz])
  (try rw [hvb])
  clear hvb
  refine (prefer_any (some ⟨vb, 0, none⟩) (some ⟨vb + 1, 0, none⟩) 2 2 2 2 [(⟨some ⟨bL, 0, none⟩, 4, [(yT 1 0 a1 k1 s1), (yT 2 0 a2 k2 s2), (yF 3 2 a3 k3), (yF 4 3 a4 k4)]⟩ : ChV), ⟨some ⟨bN, 0, none⟩, 2, [(yF 1 0 a9 k9), (yF 2 1 a10 k10)]⟩] [1, 0] ⟨#[97]⟩ WP rfl (by omega) rfl (by omega) HCL5.out HQ2.out HI1.out).mono ?_
  rintro e x1 hp
  obtain ⟨hb, sA, rfl⟩ := prefA (pick_l ..) (pick_n ..) hp
  have HB3 := Lib.hid (below_trans HB2.out hb)
  have HCL3 := Lib.hid (HCL2.out.grow hb)
  have HCN3 := Lib.hid (HCN2.out.grow hb)
  clear hp hb HQ2 HI1 HB2 HCL2 HCN2
  go_upto_region 16 with (first
    | ((with_reducible refine g_alloc 41 ?_); go_must (refine wpList_alloc_as rfl _ rfl zZn (by kernel_rfl) ?_))
    | ((with_reducible refine g_store 41 ?_); go_must (refine wpList_store_new rfl _ _ _ rfl (znCells z0 sA) rfl rfl 41 zZn rfl (zn_size _ _) rfl (zn_one _ _) ?_; intro x2 hb2 _ _)))
  have HB4 := Lib.hid (below_trans HB3.out hb2)
  have HCL4 := Lib.hid (HCL3.out.grow hb2)
  have HCN4 := Lib.hid (HCN3.out.grow hb2)
  clear hb2 HB3 HCL3 HCN3
  have HQ1 := Lib.hid (cs_new x2 [(⟨some ⟨bL, 0, none⟩, 4, [(yT 1 0 a1 k1 s1), (yT 2 0 a2 k2 s2), (yF 3 2 a3 k3), (yF 4 3 a4 k4)]⟩ : ChV), ⟨some ⟨bN, 0, none⟩, 2, [(yF 1 0 a9 k9), (yF 2 1 a10 k10)]⟩] #[.slice (some ⟨bL, 0, none⟩) 4 4, .slice (some ⟨bN, 0, none⟩) 2 2] 26 rfl (fun x hx => by simp only [List.mem_cons, List.not_mem_nil, or_false] at hx; rcases hx with rfl | rfl <;> first | exact HCL4.out | exact HCN4.out))
  have HB5 := Lib.hid (below_trans HB4.out (below_var x2 (.cells #[.slice (some ⟨bL, 0, none⟩) 4 4, .slice (some ⟨bN, 0, none⟩) 2 2] 26)))
  have HCL5' := Lib.hid (HCL4.out.grow (below_var x2 (.cells #[.slice (some ⟨bL, 0, none⟩) 4 4, .slice (some ⟨bN, 0, none⟩) 2 2] 26)))
  have HI1 := Lib.hid (ints_new (x2.alloc (.cells #[.slice (some ⟨bL, 0, none⟩) 4 4, .slice (some ⟨bN, 0, none⟩) 2 2] 26)) [2] #[I 2] 3 rfl)
  clear HB4 HCL4 HCN4
  have HQ2 := Lib.hid (HQ1.out.grow (below_var (x2.alloc (.cells #[.slice (some ⟨bL, 0, none⟩) 4 4, .slice (some ⟨bN, 0, none⟩) 2 2] 26)) (.cells #[I 2] 3)))
  have HB6 := Lib.hid (below_trans HB5.out (below_var _ (.cells #[I 2] 3)))
  have HCL6 := Lib.hid (HCL5'.out.grow (below_var _ (.cells #[I 2] 3)))
  clear HQ1 HB5 HCL5'
  rw [al_sz x2] at HI1
  go_wp2_with fail
  generalize (x2.alloc (.cells #[.slice (some ⟨bL, 0, none⟩) 4 4, .slice (some ⟨bN, 0, none⟩) 2 2] 26)).alloc (.cells #[I 2] 3) = WQ at HQ2 HI1 HB6 HCL6 ⊢
  obtain ⟨vb2, hvb2⟩ : ∃ b, x2.heap.size = b := ⟨_, rfl⟩
  rw [hvb2] at HQ2 HI1
  (try simp only [al_sz])
  (try rw [hvb2])
  clear hvb2
  refine (prefer_any (some ⟨vb2, 0, none⟩) (some ⟨vb2 + 1, 0, none⟩) 2 1 2 1 [(⟨some ⟨bL, 0, none⟩, 4, [(yT 1 0 a1 k1 s1), (yT 2 0 a2 k2 s2), (yF 3 2 a3 k3), (yF 4 3 a4 k4)]⟩ : ChV), ⟨some ⟨bN, 0, none⟩, 2, [(yF 1 0 a9 k9), (yF 2 1 a10 k10)]⟩] [2] ⟨#[97]⟩ WQ rfl (by omega) rfl (by omega) HCL5.out HQ2.out HI1.out).mono ?_
  rintro e x3 hp
  obtain ⟨hb, rfl⟩ := prefB hp
  have HB7 := Lib.hid (below_trans HB6.out hb)
  have HCL7 := Lib.hid (HCL6.out.grow hb)
  clear hp hb HQ2 HI1 HB6 HCL6 HCL5
  go_upto_region 17 with (first
    | ((with_reducible refine g_alloc 41 ?_); go_must (refine wpList_alloc_as rfl _ rfl zZn (by kernel_rfl) ?_))
    | ((with_reducible refine g_store 41 ?_); go_must (refine wpList_store_new rfl _ _ _ rfl zZn rfl rfl 41 zZn rfl zz_size rfl zz_one ?_; intro x4 hb4 _ _)))
  have HB8 := Lib.hid (below_trans HB7.out hb4)
  have HCL8 := Lib.hid (HCL7.out.grow hb4)
  clear hb4 HB7 HCL7
  have HHD : Hid (x4.rangeAt bL 0 (yT 1 0 a1 k1 s1).cells) := Lib.hid (HCL8.out.head rfl).1
  have HTA : Hid (TbAt x4 x4.heap.size (yT 1 0 a1 k1 s1)) := Lib.hid (HCL8.out.each _ (List.mem_cons_self ..))
  have HYI : Hid ((Tryz.prog.info? 47).map (·.size) = some (yT 1 0 a1 k1 s1).cells.length) := Lib.hid (tb_info (vt 1 0 true) _ rfl rfl)
  go_wp2_with ((with_reducible refine g_loa 47 ?_); go_must (refine wpList_load_Mid rfl _ _ rfl bL 0 rfl (yT 1 0 a1 k1 s1).cells HHD.out _ Tryz.underlying47 rfl HYI.out ?_))
  refine (zoneB_any 1 0 a1 k1 s1 x4 HTA.out).mono ?_
  rintro e x5 ⟨hb5, rfl⟩
  have HB9 := Lib.hid (below_trans HB8.out hb5)
  clear hb5 HB8 HCL8 HHD HTA HYI
  go_upto_region 18 with (first
    | ((with_reducible refine g_alloc 41 ?_); go_must (refine wpList_alloc_as rfl _ rfl zZn (by kernel_rfl) ?_))
    | ((with_reducible refine g_store 41 ?_); go_must (refine wpList_store_new rfl _ _ _ rfl zZn rfl rfl 41 zZn rfl zz_size rfl zz_one ?_; intro x6 hb6 _ _)))
  have HB10' := Lib.hid (below_trans HB9.out hb6)
  clear hb6 HB9
  go_wp2_with fail
  refine (version5_r (some ⟨bL, 0, none⟩) 4 4 x6 (by omega)).mono ?_
  rintro e x7 ⟨rfl, hb7⟩
  have HB11' := Lib.hid (below_trans HB10'.out hb7)
  clear hb7 HB10'
  go_upto_region 19 with (first
    | ((with_reducible refine g_alloc 47 ?_); go_must (refine wpList_alloc_nm rfl _ rfl (tbVal zTb (.slice none 0 0)) tab_zero ?_))
    | ((with_reducible refine g_store 47 ?_); go_must (refine wpList_store_new rfl _ _ _ rfl (tbVal zTb (.slice none 0 0)) rfl rfl 47 (tbVal zTb (.slice none 0 0)) rfl (tb_info zTb _ rfl rfl) rfl (tbVal_one _ _ _ _) ?_; intro x8 hb8 _ _)))
  have HB12' := Lib.hid (below_trans HB11'.out hb8)
  clear hb8 HB11'
  go_wp2_with fail
  refine (verT 0 0 x8).mono ?_
  rintro e x9 ⟨aE, kE, sE, rfl, _, hb9⟩
  have HB13' := Lib.hid (below_trans HB12'.out hb9)
  clear hb9 HB12'
  go_wp2_with fail
  refine (valid00 0 0 aE kE sE x9 (by decide)).mono ?_
  rintro e x10 ⟨rfl, hb10⟩
  have HB14' := Lib.hid (below_trans HB13'.out hb10)
  clear hb10 HB13'
  go_wp2_with fail
  go_ret
  exact ⟨rfl, HB14'.out⟩
end Go.Proofs.YtbdkalpljhpnmaaGreat

/- kalendslaw14.TablePrefers. -/
namespace Go.Proofs.YtbdkalpljhpnmaaGreat
open Go Go.RowKit

set_option maxRecDepth 10000 in
set_option maxHeartbeats 4000000 in
theorem tablePrefers_any (w : World) (A0 : Option Addr) (c0 : Nat) (rs : List RawV) (n0 : Nat) (hn0 : rs.length = n0) (hrs : CellsAt w w.heap.size A0 (rs.flatMap RawV.cells)) (hre : ∀ r ∈ rs, RawAt w w.heap.size r)
    (O : Option Addr) (c1 : Nat) (bs : List UInt8) (n1 : Nat) (hn1 : bs.length = n1) (hby : BytesAt w w.heap.size O bs) (x : Int) (hx0 : 0 ≤ x) (hx1 : x < 256) :
    Calls Tryz.prog 3 #[.slice A0 n0 c0, .slice O n1 c1, .int .u8 x] w (Gives (.bool true) w) := by
  have HS := Lib.hid (sanity_any w)
  have HRR := Lib.hid hrs
  have HRE := Lib.hid hre
  have HBY := Lib.hid hby
  have HRL := Lib.hid hn0
  have HBL := Lib.hid hn1
  have HL34 : Hid ((rs.flatMap RawV.cells).length = n0 * 34) := Lib.hid (by rw [flat_len RawV.cells rs (show ∀ r ∈ rs, r.cells.length = 34 from fun r hr => r.len (hre r hr).key), hn0])
  clear hrs hre hby hn0 hn1
  go_enter Tryz.func3, Tryz.ntmps3
  go_wp2_with fail
  refine HS.out.mono ?_
  rintro e w1 ⟨rfl, hb1⟩
  have HC0 : Hid (CsW w 0 0 none [] w1) := Lib.hid (CsW.start hb1)
  clear hb1 HS
  go_upto_block 0 with fail
  go_cut [8] (fun p wx => ∃ k c A cs, p = .slice A k c ∧ k ≤ 4 ∧ cs.length = k ∧ CsW w k c A cs wx)
  case first =>
    go_wp2_with fail
    go_loopw [8, 9] (fun o i wr => ∃ (k c : Nat) (A : Option Addr) (cs : List ChV), k ≤ 4 ∧ k ≤ n0 ∧ o = .slice A k c ∧ i = I (k : Nat) ∧ cs.length = k ∧ CsW w k c A cs wr) (fun _ i _ => 4 - (intOf i).toNat)
    case atStart => exact ⟨0, 0, none, [], by omega, by omega, rfl, rfl, rfl, HC0.out⟩
    case round =>
      clear HC0
      obtain ⟨k, c, A, cs, hk4, hkn, rfl, rfl, hcl, hw⟩ := hrel
      have HX0 := Lib.hid hw
      have HCL := Lib.hid hcl
      have hsz : w.heap.size ≤ wr.heap.size := hw.lo.size
      clear hw hcl
      by_cases hlt : k < n0 ∧ k < 4
      · obtain ⟨hln, hl4⟩ := hlt
        have i1 : (k : Int) < (n0 : Int) := by omega
        have i2 : (k : Int) < 4 := by omega
        obtain ⟨r, hr⟩ : ∃ r, rs[k]? = some r := ⟨_, List.getElem?_eq_getElem (by rw [HRL.out]; exact hln)⟩
        obtain ⟨ib, io, hA, hib, hcell⟩ := HRR.out.there (by rw [HL34.out]; omega)
        have HRA := Lib.hid (HRE.out r (List.mem_of_getElem? hr))
        have HR : Hid (wr.rangeAt ib (io + k * 34) r.cells) := Lib.hid (rangeAt_keep (CellsAt.elem (s := 34) (f := RawV.cells) (fun x hx => x.len (HRE.out x hx).key) hcell k r hr) HX0.out.lo hib)
        have HRI : Hid ((Tryz.prog.info? 32).map (·.size) = some r.cells.length) := Lib.hid (by rw [r.len HRA.out.key]; kernel_rfl)
        have HMD := Lib.hid (made_ch r wr ((HRA.out.keep HX0.out.lo).more HX0.out.lo.size))
        have HAE := Lib.hid hA
        have hsub : A0 = some ⟨ib, io, none⟩ := hA
        subst hsub
        clear hA hr hcell HRA
        go_wp2_with ((with_reducible refine g_loa 32 ?_); go_must (refine wpList_load_Mid rfl _ _ rfl ib (io + k * 34) rfl r.cells HR.out _ Tryz.underlying32 rfl HRI.out ?_))
        refine HMD.out.mono ?_
        rintro e w2 ⟨⟨yA, yc, yts⟩, rfl, hf, hat, hlow, hb2⟩
        (try simp only [ChV.cell])
        have HW2 := Lib.hid (HX0.out.grow hb2)
        have HM2 : Hid (ChMem w.heap.size (.slice A k c) w2 ⟨yA, yc, yts⟩) := Lib.hid (ChMem.of hat hlow hsz (fun b h1 h2 => HX0.out.ownlt b h1))
        have HF2 := Lib.hid hf
        have hs2 : w.heap.size ≤ w2.heap.size := HW2.out.lo.size
        clear hf hat hlow hb2 HMD HR HRI HX0
        obtain ⟨i0, hi, hq0, hq1, hq2⟩ := info_parts info_chs
        have HI := Lib.hid hi
        have HQ0 := Lib.hid hq0
        have HQ1 := Lib.hid hq1
        have HQ2 := Lib.hid hq2
        clear hi hq0 hq1 hq2
        go_wp2_with (at_builtin; go_must (refine wpList_append_lies _ rfl _ _ 25 rfl w.heap.size 26 i0 (.slice none 0 0) 1 24 Tryz.underlying25 HI.out HQ0.out HQ1.out HQ2.out rfl (by decide) (.slice A k c) k (cs.map ChV.cell) rfl (own_below HW2.out.own (below_var w2 (.cells #[.slice yA yts.length yc] 26))) ⟨w2.heap.size, 0, none⟩ 1 1 [.slice yA yts.length yc] rfl rfl (news_lit w2 _ _ _ rfl) (ch_one ⟨yA, yc, yts⟩) (by omega) (by unfold maxLen; omega) (by omega) (by simp; omega) _ rfl ?_; intro gg cap w6 hown6 hgrow6 hat6 _; have HN : Hid (CsW w (k + 1) cap (some ⟨gg, 0, none⟩) (cs ++ [⟨yA, yc, yts⟩]) w6) := Lib.hid (HW2.out.add HM2.out HF2.out rfl hown6 hgrow6 hat6); clear hown6 hgrow6 hat6))
        go_roundw
        case rel => exact ⟨k + 1, cap, _, _, by omega, by omega, rfl, by go_num, by rw [List.length_append, HCL.out]; rfl, HN.out⟩
        case measure => simp [intOf]; omega
      · have hex : ¬ (k : Int) < (n0 : Int) ∨ ((k : Int) < (n0 : Int) ∧ ¬ (k : Int) < 4) := by omega
        rcases hex with h1 | ⟨h1, h2⟩
        all_goals
          go_wp2_with fail
          go_meet
          exact ⟨k, c, A, cs, rfl, hk4, HCL.out, HX0.out⟩
  case rest =>
    clear HC0 HRR HRE HRL HL34
    obtain ⟨m, c, A, cs, rfl, hm4, hcl, hw⟩ := hcut
    have HX := Lib.hid hw
    have HCL := Lib.hid hcl
    clear hw hcl
    by_cases hm0 : m = 0
    · subst hm0
      go_wp2_with fail
      go_ret
      exact ⟨rfl, HX.out.lo⟩
    · have j0 : ¬ (m : Int) = 0 := by omega
      have HCS := Lib.hid HX.out.at
      have HCN := Lib.hid HX.out.len
      have HLO := Lib.hid HX.out.lo
      clear HX
      go_upto_block 2 with fail
      have hmb : ((m : Int) == 0) = false := by simpa using hm0
      rw [hmb]
      clear hmb
      go_cut [10] (fun p wx => ∃ k c A zs, p = .slice A k c ∧ k ≤ 8 ∧ LsW wc m k c A zs wx)
      case first =>
        go_wp2_with fail
        go_loopw [10, 11] (fun o i wr => ∃ (k c : Nat) (A : Option Addr) (zs : List Int), k ≤ 8 ∧ k ≤ n1 ∧ o = .slice A k c ∧ i = I (k : Nat) ∧ LsW wc m k c A zs wr) (fun _ i _ => 8 - (intOf i).toNat)
        case atStart => exact ⟨0, 0, none, [], by omega, by omega, rfl, rfl, LsW.start wc m⟩
        case round =>
          obtain ⟨k, c2, A2, zs, hk8, hkn, rfl, rfl, hw⟩ := hrel
          have HX0 := Lib.hid hw
          have hsz : wc.heap.size ≤ wr.heap.size := hw.lo.size
          clear hw
          by_cases hlt : k < n1 ∧ k < 8
          · obtain ⟨hln, hl8⟩ := hlt
            have i1 : (k : Int) < (n1 : Int) := by omega
            have i2 : (k : Int) < 8 := by omega
            obtain ⟨ob, oo, hO, hob, hbc⟩ : ∃ b off, O = some ⟨b, off, none⟩ ∧ b < w.heap.size ∧ ∀ j, j < bs.length → w.cell? ⟨b, off + j, none⟩ = some (Extern.Stop.cell (bs[j]?.getD 0)) := by
              rcases HBY.out with h0 | h0
              · have := HBL.out; omega
              · exact h0
            have hsub : O = some ⟨ob, oo, none⟩ := hO
            subst hsub
            obtain ⟨u, hu⟩ : ∃ u, bs[k]?.getD 0 = u := ⟨_, rfl⟩
            have hcu : wr.cell? ⟨ob, oo + k, none⟩ = some (Extern.Stop.cell u) := ((below_trans HLO.out HX0.out.lo).cell (p := ⟨ob, oo + k, none⟩) hob).trans (by rw [← hu]; exact hbc k (by rw [HBL.out]; exact hln))
            obtain ⟨z, hz⟩ : ∃ z : Int, (u.toNat : Int) = z := ⟨_, rfl⟩
            have hcz : wr.cell? ⟨ob, oo + k, none⟩ = some (.int .u8 z) := hcu.trans (by rw [← hz]; rfl)
            have hz0 : 0 ≤ z := by omega
            have hz1 : z < 256 := by rw [← hz]; have := u.toNat_lt; omega
            clear hcu hbc hO hu hz
            have hzm0 : 0 ≤ z % (m : Int) := Int.emod_nonneg _ (by omega)
            have hzm1 : z % (m : Int) < (m : Int) := Int.emod_lt_of_pos _ (by omega)
            have HZM : Hid (∀ y ∈ [z % (m : Int)], 0 ≤ y ∧ y < (m : Int)) := Lib.hid (fun y hy => by rw [List.mem_singleton.1 hy]; exact ⟨hzm0, hzm1⟩)
            clear hzm0 hzm1
            obtain ⟨i0, hi, hq0, hq1, hq2⟩ := info_parts info_int
            have HI := Lib.hid hi
            have HQ0 := Lib.hid hq0
            have HQ1 := Lib.hid hq1
            have HQ2 := Lib.hid hq2
            clear hi hq0 hq1 hq2
            go_wp2_with (at_builtin; go_must (refine wpList_append_lies _ rfl _ _ 33 rfl wc.heap.size 3 i0 (.int .i64 0) 1 8 Tryz.underlying33 HI.out HQ0.out HQ1.out HQ2.out rfl (by decide) (.slice A2 k c2) k (zs.map I) rfl (own_below HX0.out.own (below_var wr (.cells #[I (z % (m : Int))] 3))) ⟨wr.heap.size, 0, none⟩ 1 1 ([z % (m : Int)].map I) rfl rfl (news_lit wr _ _ _ rfl) (fun y hy => by rw [List.mem_singleton.1 hy]; rfl) (by omega) (by unfold maxLen; omega) (by omega) (by simp; omega) _ rfl ?_; intro gg cap w6 hown6 hgrow6 hat6 _; have HN : Hid (LsW wc m (k + 1) cap (some ⟨gg, 0, none⟩) (zs ++ [z % (m : Int)]) w6) := Lib.hid (HX0.out.add [z % (m : Int)] HZM.out (below_var wr (.cells #[I (z % (m : Int))] 3)) hown6 hgrow6); clear hown6 hgrow6 hat6))
            go_roundw
            case rel => exact ⟨k + 1, cap, _, _, by omega, by omega, rfl, by go_num, HN.out⟩
            case measure => simp [intOf]; omega
          · have hex : ¬ (k : Int) < (n1 : Int) ∨ ((k : Int) < (n1 : Int) ∧ ¬ (k : Int) < 8) := by omega
            rcases hex with h1 | ⟨h1, h2⟩
            all_goals
              go_wp2_with fail
              go_meet
              exact ⟨k, c2, A2, zs, rfl, hk8, HX0.out⟩
      case rest =>
        obtain ⟨k, c2, A2, zs, rfl, hk8, hl⟩ := hcut
        have HLS := Lib.hid hl.at
        have HLR := Lib.hid hl.rng
        have HLL := Lib.hid hl.len
        have hkc : k ≤ c2 := hl.cap
        have HL4 := Lib.hid (below_trans HLO.out hl.lo)
        have HC4 := Lib.hid ((HCS.out.keep hl.lo).more hl.lo.size)
        clear hl HLO HCS HBL HBY
        go_upto_region 14 with fail
        obtain ⟨W0, hW0⟩ : ∃ W, wc = W := ⟨_, rfl⟩
        have HW0 := Lib.hid hW0
        clear hW0
        go_cut [12] (fun p wx => ∃ nm : ByteArray, p = .string nm ∧ Below W0.heap.size W0 wx)
        case first =>
          have HB0 : Hid (Below W0.heap.size W0 (wc.alloc (.cells #[.string ⟨#[122, 97]⟩, .string ⟨#[122, 98]⟩, .string ⟨#[122, 99]⟩] 9))) := Lib.hid (by rw [HW0.out]; exact below_var W0 _)
          have h3 : x % 3 = 0 ∨ x % 3 = 1 ∨ x % 3 = 2 := by omega
          obtain ⟨nm, hget⟩ : ∃ nm, ([.string ⟨#[122, 97]⟩, .string ⟨#[122, 98]⟩, .string ⟨#[122, 99]⟩] : List Value)[(x % 3).toNat]? = some (.string nm) := by
            rcases h3 with h | h | h <;> rw [h] <;> exact ⟨_, rfl⟩
          go_wp2_with fail
          go_meet
          exact ⟨nm, rfl, HB0.out⟩
        case rest =>
          obtain ⟨nm, rfl, hb⟩ := hcut
          rw [← HW0.out] at hb
          have HL5 := Lib.hid (below_trans HL4.out hb)
          have HC5 := Lib.hid (HC4.out.grow hb)
          have HI5 := Lib.hid ((HLS.out.keep hb).more hb.size)
          clear hb HL4 HC4 HLS HW0
          go_wp2_with fail
          refine (prefer_u A A2 c c2 m k cs zs nm wc HCL.out (by omega) HLL.out (by omega) HCN.out HC5.out HI5.out HLR.out).mono ?_
          rintro e w6 ⟨zc, at_, f, rfl, hb6, hz8, hz1, hpr⟩
          have HZ8 : Hid ((Tryz.prog.info? 41).map (·.size) = some zc.size) := Lib.hid (by rw [hz8]; exact zz_size)
          have HZE : Hid (zZn.size = zc.size) := Lib.hid hz8.symm
          have HZ1 := Lib.hid hz1
          have HPR := Lib.hid hpr
          have HL6 := Lib.hid (below_trans HL5.out hb6)
          have HC6 := Lib.hid (HC5.out.grow hb6)
          have HI6 := Lib.hid ((HI5.out.keep hb6).more hb6.size)
          clear hb6 hz8 hz1 hpr HL5 HC5 HI5
          go_upto_block 4 with (first
            | ((with_reducible refine g_alloc 41 ?_); go_must (refine wpList_alloc_as rfl _ rfl zZn (by kernel_rfl) ?_))
            | ((with_reducible refine g_store 41 ?_); go_must (refine wpList_store_new rfl _ _ _ rfl zc rfl rfl 41 zZn rfl HZ8.out HZE.out HZ1.out ?_; intro w7 hb7 hl7 hr7)))
          obtain ⟨bz, hbz⟩ : ∃ b, w6.heap.size = b := ⟨_, rfl⟩
          have HP7 : Hid (PfW w m k A A2 cs zs nm bz zc at_ f w7) := Lib.hid ⟨below_trans HL6.out hb7, HC6.out.grow hb7, (HI6.out.keep hb7).more hb7.size, by rw [← hbz]; exact hr7, HPR.out.grow hb7⟩
          rw [hbz]
          clear hbz hb7 hl7 hr7 HL6 HC6 HI6 HPR HZE
          go_wp2_with fail
          go_loopw [16] (fun i wr => ∃ q : Nat, q ≤ k ∧ i = I (q : Nat) ∧ (∀ (j : Nat) (y : Int), j < q → zs[j]? = some y → pk cs nm y = none) ∧ PfW w m k A A2 cs zs nm bz zc at_ f wr) (fun i _ => k - (intOf i).toNat)
          case atStart => exact ⟨0, Nat.zero_le _, rfl, (fun j y hj => absurd hj (Nat.not_lt_zero _)), HP7.out⟩
          case round =>
            clear HP7
            obtain ⟨q, hqk, rfl, hall, hp⟩ := hrel
            have HALL := Lib.hid hall
            have HP := Lib.hid hp
            clear hall hp
            by_cases hlt : q < k
            · have i1 : (q : Int) < (k : Int) := by omega
              have hq0 : (0 : Int) ≤ (q : Int) := by omega
              obtain ⟨li, hli⟩ : ∃ li, zs[q]? = some li := ⟨_, List.getElem?_eq_getElem (by rw [HLL.out]; exact hlt)⟩
              have hlr := HLR.out li (List.mem_of_getElem? hli)
              obtain ⟨r, rfl⟩ : ∃ r : Nat, li = (r : Int) := ⟨li.toNat, by omega⟩
              have hrm : r < m := by omega
              have r1 : (r : Int) < (m : Int) := by omega
              have r0 : (0 : Int) ≤ (r : Int) := by omega
              obtain ⟨⟨yA, yc, yts⟩, hy⟩ : ∃ y, cs[r]? = some y := ⟨_, List.getElem?_eq_getElem (by rw [HCL.out]; exact hrm)⟩
              obtain ⟨cb, co, hcA, hcb, hcc⟩ := HP.out.chs.row.there (by rw [List.length_map, HCL.out]; omega)
              obtain ⟨lb, lo, hlA, hlb, hlc⟩ : ∃ b off, A2 = some ⟨b, off, none⟩ ∧ b < wr.heap.size ∧ ∀ j, j < zs.length → wr.cell? ⟨b, off + j, none⟩ = some (I (zs[j]?.getD 0)) := by
                rcases HP.out.l with h0 | h0
                · rw [HLL.out] at h0; omega
                · exact h0
              have cl : wr.cell? ⟨lb, lo + q, none⟩ = some (I (r : Int)) := (hlc q (by rw [HLL.out]; exact hlt)).trans (by rw [hli]; rfl)
              obtain ⟨ny, hny⟩ : ∃ n, yts.length = n := ⟨_, rfl⟩
              have cc : wr.cell? ⟨cb, co + r, none⟩ = some (.slice yA ny yc) := (hcc r _ (by rw [List.getElem?_map, hy]; rfl)).trans (by rw [← hny]; rfl)
              have hyl := HCN.out _ (List.mem_of_getElem? hy)
              have HNW := Lib.hid (newest_u yA yc ny yts wr hny (by rw [← hny]; exact hyl.1) hyl.2 (HP.out.chs.each _ (List.mem_of_getElem? hy)))
              have HPK : Hid (pk cs nm (r : Int) = pick yts nm) := Lib.hid (by unfold pk; rw [Int.toNat_natCast, hy]; rfl)
              have HLI := Lib.hid hli
              subst hcA
              subst hlA
              clear hcb hcc hlb hlc hny hyl hy hli hlr
              go_wp2_with fail
              refine HNW.out.mono ?_
              rintro e w8 ⟨y, g1, rfl, hb8, hat, hzl, hzn, hg1, hpk⟩
              have HT8 : Hid ((Tryz.prog.info? 47).map (·.size) = some (tbVal y.t (.slice y.A y.zs.length y.c)).size) := Lib.hid (tb_info y.t _ hat.prev hat.mac)
              have HTE : Hid ((tbVal zTb (.slice none 0 0)).size = (tbVal y.t (.slice y.A y.zs.length y.c)).size) := Lib.hid ((tb_size zTb _ rfl rfl).trans (tb_size y.t _ hat.prev hat.mac).symm)
              have HT1 : Hid ((tbVal y.t (.slice y.A y.zs.length y.c)).all (·.oneCell') = true) := Lib.hid (tbVal_one _ _ _ _)
              have HZU : Hid (∀ W, Below w8.heap.size w8 W → Calls Tryz.prog 8 #[.agg (tbVal y.t (.slice y.A y.zs.length y.c)), .string nm] W (ZnU W y.t.zones nm)) := Lib.hid (fun W hb => zone_u y y.zs.length nm W rfl hzl hzn ((hat.keep hb).more hb.size))
              have HPK2 : Hid (pk cs nm (r : Int) = if g1 = 0 then zFind y.t.zones nm else none) := Lib.hid (by rw [HPK.out]; exact hpk nm)
              obtain ⟨tc, htc⟩ : ∃ tc, tbVal y.t (.slice y.A y.zs.length y.c) = tc := ⟨_, rfl⟩
              rw [htc] at HT8 HTE HT1 HZU ⊢
              have HP8 := Lib.hid (HP.out.grow hb8)
              clear htc hb8 hat hzl hzn hpk HNW HPK HP cl cc
              go_upto_region 20 with (first
                | ((with_reducible refine g_alloc 47 ?_); go_must (refine wpList_alloc_nm rfl _ rfl (tbVal zTb (.slice none 0 0)) tab_zero ?_))
                | ((with_reducible refine g_store 47 ?_); go_must (refine wpList_store_new rfl _ _ _ rfl tc rfl rfl 47 (tbVal zTb (.slice none 0 0)) rfl HT8.out HTE.out HT1.out ?_; intro w9 hb9 _ hr9)))
              have HP9 := Lib.hid (HP8.out.grow hb9)
              have HR9 := Lib.hid hr9
              have HZ9 := Lib.hid (HZU.out w9 hb9)
              clear hb9 hr9 HP8 HZU HTE HT1
              go_wp2_with ((with_reducible refine g_loa 47 ?_); go_must (refine wpList_load_Row rfl _ _ rfl w8.heap.size rfl tc HR9.out _ Tryz.underlying47 rfl HT8.out ?_))
              refine HZ9.out.mono ?_
              rintro e w10 ⟨yc2, g2, rfl, hb10, hy8, hy1, hzz⟩
              have HY8 : Hid ((Tryz.prog.info? 41).map (·.size) = some yc2.size) := Lib.hid (by rw [hy8]; exact zz_size)
              have HYE : Hid (zZn.size = yc2.size) := Lib.hid hy8.symm
              have HY1 := Lib.hid hy1
              have HP10 := Lib.hid (HP9.out.grow hb10)
              have HZZ := Lib.hid hzz
              clear hb10 hy8 hy1 hzz HP9 HZ9 HR9 HT8
              go_upto_region 21 with (first
                | ((with_reducible refine g_alloc 41 ?_); go_must (refine wpList_alloc_as rfl _ rfl zZn (by kernel_rfl) ?_))
                | ((with_reducible refine g_store 41 ?_); go_must (refine wpList_store_new rfl _ _ _ rfl yc2 rfl rfl 41 zZn rfl HY8.out HYE.out HY1.out ?_; intro w11 hb11 _ hr11)))
              have HP11 := Lib.hid (HP10.out.grow hb11)
              have HR11 := Lib.hid hr11
              have HB11 := Lib.hid hb11
              clear hb11 hr11 HP10 HYE HY1
              by_cases hhit : g1 = 0 ∧ g2 = 0
              · obtain ⟨rfl, rfl⟩ := hhit
                obtain ⟨z', s2, hzf, hyc, hza, hzl⟩ : ∃ z s, zFind y.t.zones nm = some z ∧ yc2 = znCells z s ∧ ZnAt w11 w11.heap.size s z ∧ ZnLen z := by
                  rcases HZZ.out with ⟨h0, _⟩ | ⟨_, z, s, h1, h2, h3, h4⟩
                  · cases h0
                  · exact ⟨z, s, h1, h2, h3.growB HB11.out, h4⟩
                have HPK3 : Hid (pk cs nm (r : Int) = some z') := Lib.hid (by rw [HPK2.out, if_pos rfl]; exact hzf)
                obtain ⟨rfl, rfl, s1, hzc, hz1, _⟩ := prefR_hit HP11.out.pr HLI.out HPK3.out HALL.out
                have HZA := Lib.hid hza
                have HZB := Lib.hid hz1
                have HZL := Lib.hid hzl
                have HYC := Lib.hid hyc
                have HZC := Lib.hid hzc
                clear hzf hyc hza hzl hzc hz1 HZZ HPK2 hg1 HB11
                obtain ⟨i0, hi, hq0', hq1', hq2'⟩ := info_parts info_int
                have HI := Lib.hid hi
                have HQ0 := Lib.hid hq0'
                have HQ1 := Lib.hid hq1'
                have HQ2 := Lib.hid hq2'
                have HL0 := Lib.hid (LsW.lit w11 m)
                have HNS := Lib.hid (ints_news (n := q + 1) HP11.out.l (below_var w11 (.cells #[] 3)))
                have HNL : Hid (((zs.take (q + 1)).map I).length = (q + 1) * 1) := Lib.hid (by rw [List.length_map, List.length_take, HLL.out]; omega)
                have HNR : Hid (∀ y ∈ zs.take (q + 1), 0 ≤ y ∧ y < (m : Int)) := Lib.hid (fun y hy => HLR.out y (List.mem_of_mem_take hy))
                clear hi hq0' hq1' hq2'
                go_upto_region 23 with (at_builtin; go_must (refine wpList_append_lies _ rfl _ _ 33 rfl w11.heap.size 3 i0 (.int .i64 0) 1 8 Tryz.underlying33 HI.out HQ0.out HQ1.out HQ2.out rfl (by decide) (.slice (some ⟨w11.heap.size, 0, none⟩) 0 0) 0 [] rfl HL0.out.own ⟨lb, lo, none⟩ (q + 1) c2 ((zs.take (q + 1)).map I) rfl HNL.out HNS.out (fun y hy => by obtain ⟨z, _, rfl⟩ := List.mem_map.1 hy; rfl) (by omega) (by unfold maxLen; omega) (by omega) (by simp) _ rfl ?_; intro gg cap w12 hown12 hgrow12 hat12 _; have HN : Hid (LsW w11 m (0 + (q + 1)) cap (some ⟨gg, 0, none⟩) ([] ++ zs.take (q + 1)) w12) := Lib.hid (HL0.out.add (zs.take (q + 1)) HNR.out (Below.refl _ _) hown12 hgrow12); clear hown12 hgrow12 hat12))
                have HN12 : Hid (LsW w11 m (q + 1) cap (some ⟨gg, 0, none⟩) (zs.take (q + 1)) w12) := Lib.hid (by
                  have h := HN.out
                  rw [Nat.zero_add, List.nil_append] at h
                  exact h)
                (try simp only [Nat.zero_add])
                clear HN HL0 HNS HNL HNR
                have hxm0 : 0 ≤ x % (m : Int) := Int.emod_nonneg _ (by omega)
                have hxm1 : x % (m : Int) < (m : Int) := Int.emod_lt_of_pos _ (by omega)
                have HXM : Hid (∀ y ∈ [x % (m : Int)], 0 ≤ y ∧ y < (m : Int)) := Lib.hid (fun y hy => by rw [List.mem_singleton.1 hy]; exact ⟨hxm0, hxm1⟩)
                clear hxm0 hxm1
                have hs12 : w11.heap.size ≤ w12.heap.size := HN12.out.lo.size
                go_wp2_with (at_builtin; go_must (refine wpList_append_lies _ rfl _ _ 33 rfl w11.heap.size 3 i0 (.int .i64 0) 1 8 Tryz.underlying33 HI.out HQ0.out HQ1.out HQ2.out rfl (by decide) (.slice (some ⟨gg, 0, none⟩) (q + 1) cap) (q + 1) ((zs.take (q + 1)).map I) rfl (own_below HN12.out.own (below_var w12 (.cells #[I (x % (m : Int))] 3))) ⟨w12.heap.size, 0, none⟩ 1 1 ([x % (m : Int)].map I) rfl rfl (news_lit w12 _ _ _ rfl) (fun y hy => by rw [List.mem_singleton.1 hy]; rfl) (by omega) (by unfold maxLen; omega) (by omega) (by simp; omega) _ rfl ?_; intro g3 cap3 w13 hown13 hgrow13 hat13 _; have HN13 : Hid (LsW w11 m (q + 1 + 1) cap3 (some ⟨g3, 0, none⟩) (zs.take (q + 1) ++ [x % (m : Int)]) w13) := Lib.hid (HN12.out.add [x % (m : Int)] HXM.out (below_var w12 (.cells #[I (x % (m : Int))] 3)) hown13 hgrow13); clear hown13 hgrow13 hat13))
                have hb13 := HN13.out.lo
                have HP13 := Lib.hid (HP11.out.grow hb13)
                have HR13 := Lib.hid (HR11.out.keep hb13)
                have HZA13 := Lib.hid (HZA.out.growB hb13)
                have HZB13 := Lib.hid (HZB.out.growB hb13)
                have HL13 := Lib.hid HN13.out.len
                have HG13 := Lib.hid HN13.out.rng
                have HA13 := Lib.hid HN13.out.at
                have hql : (zs.take (q + 1)).length = q + 1 := by rw [List.length_take, HLL.out]; omega
                have HQ13 : Hid ((zs.take (q + 1) ++ [x % (m : Int)])[q]? = some (r : Int)) := Lib.hid (by
                  rw [List.getElem?_append_left (by rw [hql]; omega), List.getElem?_take_of_lt (by omega)]
                  exact HLI.out)
                have HB13 : Hid (∀ (j : Nat) (y : Int), j < q → (zs.take (q + 1) ++ [x % (m : Int)])[j]? = some y → pk cs nm y = none) := Lib.hid (fun j y hj hy => by
                  rw [List.getElem?_append_left (by rw [hql]; omega), List.getElem?_take_of_lt (by omega)] at hy
                  exact HALL.out j y hj hy)
                clear hql hb13 HN13 HN12 HP11 HR11 HZA HZB hs12
                generalize zs.take (q + 1) ++ [x % (m : Int)] = zs2 at HL13 HG13 HA13 HQ13 HB13
                refine (prefer_u (some ⟨cb, co, none⟩) (some ⟨g3, 0, none⟩) c cap3 m (q + 1 + 1) cs zs2 nm w13 HCL.out (by omega) HL13.out (by omega) HCN.out HP13.out.chs HA13.out HG13.out).mono ?_
                rintro e w14 ⟨zc3, at3, f3, rfl, hb14, h38, h31, hpr3⟩
                obtain ⟨rfl, rfl, s3, hz3, hza3, _⟩ := prefR_hit hpr3 HQ13.out HPK3.out HB13.out
                have HC8 : Hid ((Tryz.prog.info? 41).map (·.size) = some zc3.size) := Lib.hid (by rw [h38]; exact zz_size)
                have HCE : Hid (zZn.size = zc3.size) := Lib.hid h38.symm
                have HC1 := Lib.hid h31
                have HZ3 := Lib.hid hz3
                have HZD14 := Lib.hid hza3
                have HP14 := Lib.hid (HP13.out.grow hb14)
                have HR14 := Lib.hid (HR13.out.keep hb14)
                have HZA14 := Lib.hid (HZA13.out.growB hb14)
                have HZB14 := Lib.hid (HZB13.out.growB hb14)
                clear hpr3 hza3 hz3 h38 h31 hb14 HL13 HG13 HA13 HQ13 HB13 HP13 HR13 HZA13 HZB13
                go_upto_region 25 with (first
                  | ((with_reducible refine g_alloc 41 ?_); go_must (refine wpList_alloc_as rfl _ rfl zZn (by kernel_rfl) ?_))
                  | ((with_reducible refine g_store 41 ?_); go_must (refine wpList_store_new rfl _ _ _ rfl zc3 rfl rfl 41 zZn rfl HC8.out HCE.out HC1.out ?_; intro w15 hb15 _ hr15)))
                have HP15 := Lib.hid (HP14.out.grow hb15)
                have HR15 := Lib.hid (HR14.out.keep hb15)
                have HZA15 := Lib.hid (HZA14.out.growB hb15)
                have HZB15 := Lib.hid (HZB14.out.growB hb15)
                have HZD15 := Lib.hid (HZD14.out.growB hb15)
                have HS15 := Lib.hid hr15
                have HBZ := Lib.hid HP15.out.z
                have HSM1 : Hid (Calls Tryz.prog 9 #[.agg zc, .agg yc2] w15 (Gives (.bool true) w15)) := Lib.hid (by rw [HZC.out, HYC.out]; exact sameZone_self z' s1 s2 _ _ w15 HZL.out rfl rfl HZB15.out HZA15.out)
                have HSM2 : Hid (∀ W, Below w15.heap.size w15 W → Calls Tryz.prog 9 #[.agg zc3, .agg zc] W (Gives (.bool true) W)) := Lib.hid (fun W hb => by rw [HZC.out, HZ3.out]; exact sameZone_self z' s3 s1 _ _ W HZL.out rfl rfl (HZD15.out.growB hb) (HZB15.out.growB hb))
                have cl : w15.cell? ⟨lb, lo + q, none⟩ = some (I (r : Int)) := by
                  rcases HP15.out.l with h0 | ⟨b2, o2, h1, h2, h3⟩
                  · rw [HLL.out] at h0; omega
                  · injection h1 with h1
                    injection h1 with h1 h4
                    subst h1 h4
                    rw [h3 q (by rw [HLL.out]; exact hlt), HLI.out]
                    rfl
                clear hb15 hr15 HP14 HR14 HZA14 HZB14 HZD14 HCE HC1
                go_wp2_with ((with_reducible refine g_loa 41 ?_); go_must (first
                  | (refine wpList_load_Row rfl _ _ rfl bz rfl zc HBZ.out _ Tryz.underlying41 rfl HZ8.out ?_)
                  | (refine wpList_load_Row rfl _ _ rfl w10.heap.size rfl yc2 HR15.out _ Tryz.underlying41 rfl HY8.out ?_)))
                refine HSM1.out.mono ?_
                rintro e w16 ⟨rfl, hb16⟩
                have HB16 := Lib.hid (HP15.out.z.keep hb16)
                have HS16 := Lib.hid (HS15.out.keep hb16)
                have HL16 := Lib.hid (below_trans HP15.out.lo hb16)
                have HSM3 := Lib.hid (HSM2.out w16 hb16)
                clear hb16 HSM1 HSM2 HBZ HP15 HR15 HS15 HZA15 HZB15 HZD15 cl
                go_wp2_with ((with_reducible refine g_loa 41 ?_); go_must (first
                  | (refine wpList_load_Row rfl _ _ rfl bz rfl zc HB16.out _ Tryz.underlying41 rfl HZ8.out ?_)
                  | (refine wpList_load_Row rfl _ _ rfl w14.heap.size rfl zc3 HS16.out _ Tryz.underlying41 rfl HC8.out ?_)))
                refine HSM3.out.mono ?_
                rintro e w17 ⟨rfl, hb17⟩
                have HL17 := Lib.hid (below_trans HL16.out hb17)
                clear hb17 HSM3 HB16 HS16 HL16
                go_wp2_with fail
                go_ret
                exact ⟨rfl, HL17.out⟩
              · have HMISS : Hid (pk cs nm (r : Int) = none) := Lib.hid (by
                  rw [HPK2.out]
                  split
                  · rename_i h0
                    rcases HZZ.out with ⟨_, h1⟩ | ⟨h1, _⟩
                    · exact h1
                    · exact absurd ⟨h0, h1⟩ hhit
                  · rfl)
                have hm2 : ¬ g1 = 0 ∨ (g1 = 0 ∧ ¬ g2 = 0) := by omega
                clear HZZ HPK2 hg1 hhit HB11 HR11
                rcases hm2 with h1 | ⟨h1, h2⟩
                all_goals
                  go_wp2_with fail
                  go_roundw
                  case rel => exact ⟨q + 1, by omega, by go_num, pk_next HALL.out HLI.out HMISS.out, HP11.out⟩
                  case measure => simp [intOf]; omega
            · have hqe : q = k := by omega
              have hnl : ¬ (q : Int) < (k : Int) := by omega
              have hf4 : f = 4 := prefR_none HP.out.pr (fun y hy => by
                obtain ⟨j, hj⟩ := List.mem_iff_getElem?.1 hy
                have h1 := (List.getElem?_eq_some_iff.1 hj).1
                exact HALL.out j y (by have := HLL.out; omega) hj)
              clear hqe hlt
              subst hf4
              go_wp2_with fail
              go_ret
              exact ⟨rfl, HP.out.lo⟩
end Go.Proofs.YtbdkalpljhpnmaaGreat

/- the arguments' data opened: a list of kalendsref14.Raw. -/
namespace Go.Proofs.YtbdkalpljhpnmaaGreat
open Go Go.RowKit

set_option maxRecDepth 100000
section
variable {H : Type} {enc : TypeId × Value → H} {W : World} {fuel : Nat} {cs : List Value} {x : DataW H × List MemPlace}
theorem op_u8 (h : DataW.trod enc Tryz.prog W 0 (fun _ => true) true fuel 5 cs = some x) : ∃ b : UInt8, cs = [Extern.Stop.cell b] := by
  obtain ⟨n, rfl, _, hw⟩ := DataW.trod_int Tryz.underlying5 h
  have hb := bounds_u8 hw
  exact ⟨byteOf n, by rw [byteOf_cell, Int.emod_eq_of_lt hb.1 (by omega)]⟩
theorem list_of {α : Type} (f : α → Value) (l : List Value) (h : ∀ (i : Nat) (v : Value), l[i]? = some v → ∃ a, v = f a) : ∃ us : List α, us.length = l.length ∧ l = us.map f := by
  induction l with
  | nil => exact ⟨[], rfl, rfl⟩
  | cons v l ih =>
    obtain ⟨a, rfl⟩ := h 0 v rfl
    obtain ⟨us, h1, h2⟩ := ih (fun i v hv => h (i + 1) v (by simpa using hv))
    exact ⟨a :: us, by rw [List.length_cons, List.length_cons, h1], by rw [List.map_cons, ← h2]⟩
theorem op_u8s {t : TypeId} {n : Nat} (ht : Tryz.prog.underlying t = some (.array n 5)) (hl : Tryz.prog.cellsOf t = n) (h : DataW.trod enc Tryz.prog W 0 (fun _ => true) true fuel t cs = some x) : ∃ bs : List UInt8, bs.length = n ∧ cs = bs.map Extern.Stop.cell := by
  obtain ⟨xs, m, _, _, hlen, hxl, hi⟩ := DataW.trod_array ht h
  have h1 : Tryz.prog.cellsOf 5 = 1 := by kernel_rfl
  rw [hl] at hlen
  obtain ⟨bs, hb, e⟩ := list_of Extern.Stop.cell cs (fun i v hv => by
    have hil := (List.getElem?_eq_some_iff.1 hv).1
    have h2 := hi i (by omega)
    rw [h1, Nat.mul_one, List.getElem?_eq_getElem (by omega)] at h2
    obtain ⟨b, hb⟩ := op_u8 h2
    refine ⟨b, ?_⟩
    have h3 : ((cs.drop i).take 1)[0]? = some v := by rw [List.getElem?_take_of_lt (by omega), List.getElem?_drop, Nat.add_zero]; exact hv
    rw [hb] at h3
    injection h3 with h3
    exact h3.symm)
  exact ⟨bs, by omega, e⟩
theorem op_slice {α : Type} [Inhabited α] (s : Nat) (f : α → List Value) (G : α → Prop) {t e : TypeId} (ht : Tryz.prog.underlying t = some (.slice e)) (hs : Tryz.prog.cellsOf e = s) (h0 : 0 < s) (hop : ∀ n cs' y, DataW.trod enc Tryz.prog W 0 (fun _ => true) true n e cs' = some y → ∃ v, cs' = f v ∧ G v) (h : DataW.trod enc Tryz.prog W 0 (fun _ => true) true fuel t cs = some x) :
    ∃ (A : Option Addr) (len cap : Nat) (vs : List α), cs = [.slice A len cap] ∧ vs.length = len ∧ len ≤ cap ∧ cap ≤ 9223372036854775807 ∧ CellsAt W W.heap.size A (vs.flatMap f) ∧ ∀ v ∈ vs, G v := by
  rcases Go.Deep.open_slice ht h with ⟨rfl, _⟩ | ⟨a, len, cap, m, n, D, Pl, rfl, _, hl, hm, hmm, _, hi⟩
  · exact ⟨none, 0, 0, [], rfl, rfl, Nat.le_refl _, Nat.zero_le _, .inl rfl, fun _ h => nomatch h⟩
  · have hml : m = cap := by simpa using hmm
    obtain ⟨V, hV⟩ := Go.Deep.choose_lt (α := α) (p := fun i v => G v ∧ (f v).length = s ∧ ∀ j, j < s → W.cell? ((a.add (i * s)).add j) = (f v)[j]?) (n := len) (fun i hi' => by
      obtain ⟨cs', h1, h2⟩ := hi i (by omega)
      obtain ⟨v, rfl, hg⟩ := hop _ _ _ h2
      obtain ⟨_, hlen, hc⟩ := World.cells?_some h1
      rw [hs] at hlen hc
      exact ⟨v, hg, hlen, hc⟩)
    have hall : ∀ v ∈ (List.range len).map V, (f v).length = s := fun v hv => by
      obtain ⟨i, hi2, rfl⟩ := List.mem_map.1 hv
      exact (hV i (List.mem_range.1 hi2)).2.1
    refine ⟨some a, len, cap, (List.range len).map V, rfl, by simp, hl, by unfold maxLen at hm; omega, ?_, fun v hv => ?_⟩
    · by_cases h00 : len = 0
      · subst h00
        exact .inl rfl
      · obtain ⟨b, o, sp⟩ := a
        obtain ⟨u0, hc0⟩ : ∃ u, W.cell? (((⟨b, o, sp⟩ : Addr).add (0 * s)).add 0) = some u := ⟨_, ((hV 0 (by omega)).2.2 0 h0).trans (List.getElem?_eq_getElem (by rw [(hV 0 (by omega)).2.1]; exact h0))⟩
        have hspot : sp = none := by simpa [Addr.add] using World.cell?_spot hc0
        subst hspot
        rw [Addr.add_mid, Addr.add_mid] at hc0
        have hb : b < W.heap.size := by
          apply Classical.byContradiction
          intro hn
          have h2 : W.heap[b]? = none := Array.getElem?_eq_none (by omega)
          simp [World.cell?, h2] at hc0
        refine .inr ⟨b, o, rfl, hb, fun j u hu => ?_⟩
        have hjl := (List.getElem?_eq_some_iff.1 hu).1
        rw [flat_len f _ hall, List.length_map, List.length_range] at hjl
        have hk : j / s < len := Nat.div_lt_of_lt_mul (by rw [Nat.mul_comm]; exact hjl)
        have hr : j % s < s := Nat.mod_lt _ h0
        have hjj : j / s * s + j % s = j := by rw [Nat.mul_comm]; exact Nat.div_add_mod j s
        have hg := flat_get f _ hall (j / s) (j % s) (V (j / s)) (by rw [List.getElem?_map, List.getElem?_range hk]; rfl) hr
        rw [hjj] at hg
        have hc := (hV (j / s) hk).2.2 (j % s) hr
        rw [Addr.add_mid, Addr.add_mid, Nat.add_assoc, hjj] at hc
        rw [hc, ← hg]
        exact hu
    · obtain ⟨i, hi2, rfl⟩ := List.mem_map.1 hv
      exact (hV i (List.mem_range.1 hi2)).1
theorem op_bytes (h : DataW.trod enc Tryz.prog W 0 (fun _ => true) true fuel 23 cs = some x) : ∃ (A : Option Addr) (cap : Nat) (bs : List UInt8), cs = [.slice A bs.length cap] ∧ bs.length ≤ 9223372036854775807 ∧ CellsAt W W.heap.size A (bs.map Extern.Stop.cell) := by
  obtain ⟨A, len, cap, vs, rfl, rfl, h1, h2, h3, _⟩ := op_slice (α := UInt8) 1 (fun b => [Extern.Stop.cell b]) (fun _ => True) Tryz.underlying23 (by kernel_rfl) (by omega) (fun n cs' y h => by
    obtain ⟨b, e⟩ := op_u8 h
    exact ⟨b, e, trivial⟩) h
  exact ⟨A, cap, vs, rfl, by omega, by rw [List.map_eq_flatMap]; exact h3⟩
instance : Inhabited RwV := ⟨⟨⟨0, [], [], 0, 0, 0, 0, 0, 0, 0, 0, 0, 0, false⟩, none, none, 0, 0⟩⟩
instance : Inhabited ItV := ⟨⟨none, 0, [], 0⟩⟩
instance : Inhabited RawV := ⟨⟨0, [], none, 0, []⟩⟩
theorem op_rw (h : DataW.trod enc Tryz.prog W 0 (fun _ => true) true fuel 95 cs = some x) : ∃ v : RwV, cs = v.cells ∧ RwAt W W.heap.size v := by
  obtain ⟨xs, n, _, _, hlen, hxl, hf⟩ := DataW.trod_struct Tryz.underlying95 h
  have k14 : Tryz.prog.cellsOf 95 = 14 := by kernel_rfl
  have k1 : Tryz.prog.cellsOf 5 = 1 := by kernel_rfl
  have kb : Tryz.prog.cellsOf 4 = 1 := by kernel_rfl
  have ks : Tryz.prog.cellsOf 23 = 1 := by kernel_rfl
  have k8 : Tryz.prog.cellsOf 93 = 8 := by kernel_rfl
  have k4 : Tryz.prog.cellsOf 92 = 4 := by kernel_rfl
  rw [k14] at hlen
  match cs, hlen, xs, hxl with
  | [c0, c1, c2, c3, c4, c5, c6, c7, c8, c9, c10, c11, c12, c13], _, [y0, y1, y2, y3, y4, y5, y6], _ =>
    have g0 : DataW.trod enc Tryz.prog W 0 (fun _ => true) true n 5 [c0] = some y0 := by simpa [k1] using hf 0 _ rfl
    have g1 : DataW.trod enc Tryz.prog W 0 (fun _ => true) true n 23 [c1] = some y1 := by simpa [ks] using hf 1 _ rfl
    have g2 : DataW.trod enc Tryz.prog W 0 (fun _ => true) true n 23 [c2] = some y2 := by simpa [ks] using hf 2 _ rfl
    have g3 : DataW.trod enc Tryz.prog W 0 (fun _ => true) true n 5 [c3] = some y3 := by simpa [k1] using hf 3 _ rfl
    have g4 : DataW.trod enc Tryz.prog W 0 (fun _ => true) true n 93 [c4, c5, c6, c7, c8, c9, c10, c11] = some y4 := by simpa [k8] using hf 4 _ rfl
    have g5 : DataW.trod enc Tryz.prog W 0 (fun _ => true) true n 5 [c12] = some y5 := by simpa [k1] using hf 5 _ rfl
    have g6 : DataW.trod enc Tryz.prog W 0 (fun _ => true) true n 4 [c13] = some y6 := by simpa [kb] using hf 6 _ rfl
    obtain ⟨b0, e0⟩ := op_u8 g0
    obtain ⟨G, gc, gs, e1, hg1, hg2⟩ := op_bytes g1
    obtain ⟨O, oc, os, e2, ho1, ho2⟩ := op_bytes g2
    obtain ⟨b3, e3⟩ := op_u8 g3
    obtain ⟨zs, m, _, _, _, hzl, hz⟩ := DataW.trod_array Tryz.underlying93 g4
    have z0 := hz 0 (by omega)
    have z1 := hz 1 (by omega)
    rw [k4, List.getElem?_eq_getElem (by omega)] at z0 z1
    obtain ⟨a, ha1, ha⟩ := op_u8s Tryz.underlying92 k4 z0
    obtain ⟨a', ha1', ha'⟩ := op_u8s Tryz.underlying92 k4 z1
    obtain ⟨b5, e5⟩ := op_u8 g5
    obtain ⟨b6, e6, _⟩ := DataW.trod_bool Tryz.underlying4 g6
    match a, ha1, a', ha1' with
    | [a0, a1, a2, a3], _, [a4, a5, a6, a7], _ =>
      simp only [Nat.zero_mul, List.drop_zero, List.take_succ_cons, List.take_zero, List.map_cons, List.map_nil, List.cons.injEq, and_true] at ha
      simp only [Nat.one_mul, List.drop_succ_cons, List.drop_zero, List.take_succ_cons, List.take_zero, List.map_cons, List.map_nil, List.cons.injEq, and_true] at ha'
      simp only [List.cons.injEq, and_true] at e0 e1 e2 e3 e5 e6
      obtain ⟨h4, h5, h6, h7⟩ := ha
      obtain ⟨h8, h9, h10, h11⟩ := ha'
      refine ⟨⟨⟨b0, gs, os, b3, a0, a1, a2, a3, a4, a5, a6, a7, b5, b6⟩, G, O, gc, oc⟩, ?_, ⟨hg1, ho1, hg2, ho2⟩⟩
      rw [e0, e1, e2, e3, h4, h5, h6, h7, h8, h9, h10, h11, e5, e6]
      rfl
theorem op_it (h : DataW.trod enc Tryz.prog W 0 (fun _ => true) true fuel 67 cs = some x) : ∃ v : ItV, cs = v.cells.toList ∧ ItAt W W.heap.size v := by
  obtain ⟨xs, n, _, _, hlen, hxl, hf⟩ := DataW.trod_struct Tryz.underlying67 h
  have k2 : Tryz.prog.cellsOf 67 = 2 := by kernel_rfl
  have k1 : Tryz.prog.cellsOf 5 = 1 := by kernel_rfl
  have ks : Tryz.prog.cellsOf 65 = 1 := by kernel_rfl
  rw [k2] at hlen
  match cs, hlen, xs, hxl with
  | [c0, c1], _, [y0, y1], _ =>
    have g0 : DataW.trod enc Tryz.prog W 0 (fun _ => true) true n 65 [c0] = some y0 := by simpa [ks] using hf 0 _ rfl
    have g1 : DataW.trod enc Tryz.prog W 0 (fun _ => true) true n 5 [c1] = some y1 := by simpa [k1] using hf 1 _ rfl
    obtain ⟨A, len, cap, vs, e0, rfl, h1, h2, h3, h4⟩ := op_slice 14 RwV.cells (RwAt W W.heap.size) Tryz.underlying65 (by kernel_rfl) (by omega) (fun n cs' y h => op_rw h) g0
    obtain ⟨b1, e1⟩ := op_u8 g1
    simp only [List.cons.injEq, and_true] at e0 e1
    refine ⟨⟨A, cap, vs, b1⟩, ?_, ⟨by show vs.length ≤ _; omega, h3, h4⟩⟩
    rw [e0, e1]
    rfl
theorem op_raw (h : DataW.trod enc Tryz.prog W 0 (fun _ => true) true fuel 32 cs = some x) : ∃ v : RawV, cs = v.cells ∧ RawAt W W.heap.size v := by
  obtain ⟨xs, n, _, _, hlen, hxl, hf⟩ := DataW.trod_struct Tryz.underlying32 h
  have k34 : Tryz.prog.cellsOf 32 = 34 := by kernel_rfl
  have k1 : Tryz.prog.cellsOf 5 = 1 := by kernel_rfl
  have k32 : Tryz.prog.cellsOf 29 = 32 := by kernel_rfl
  have ks : Tryz.prog.cellsOf 30 = 1 := by kernel_rfl
  rw [k34] at hlen
  match xs, hxl with
  | [y0, y1, y2], _ =>
    have g0 : DataW.trod enc Tryz.prog W 0 (fun _ => true) true n 5 (cs.take 1) = some y0 := by simpa [k1] using hf 0 _ rfl
    have g1 : DataW.trod enc Tryz.prog W 0 (fun _ => true) true n 29 ((cs.drop 1).take 32) = some y1 := by simpa [k32] using hf 1 _ rfl
    have g2 : DataW.trod enc Tryz.prog W 0 (fun _ => true) true n 30 ((cs.drop 33).take 1) = some y2 := by simpa [ks] using hf 2 _ rfl
    obtain ⟨b0, e0⟩ := op_u8 g0
    obtain ⟨key, hk, e1⟩ := op_u8s Tryz.underlying29 k32 g1
    obtain ⟨A, len, cap, vs, e2, rfl, h1, h2, h3, h4⟩ := op_slice 2 (fun v : ItV => v.cells.toList) (ItAt W W.heap.size) Tryz.underlying30 (by kernel_rfl) (by omega) (fun n cs' y h => op_it h) g2
    refine ⟨⟨b0, key, A, cap, vs⟩, ?_, ⟨hk, by show vs.length ≤ _; omega, h3, h4⟩⟩
    have d1 : cs = cs.take 1 ++ cs.drop 1 := (List.take_append_drop 1 cs).symm
    have d2 : cs.drop 1 = (cs.drop 1).take 32 ++ cs.drop 33 := by
      have := (List.take_append_drop 32 (cs.drop 1)).symm
      rw [List.drop_drop] at this
      exact this
    have d3 : cs.drop 33 = (cs.drop 33).take 1 := (List.take_of_length_le (by rw [List.length_drop]; omega)).symm
    rw [d1, d2, d3, e0, e1, e2]
    rfl
theorem op_raws (h : DataW.trod enc Tryz.prog W 0 (fun _ => true) true fuel 22 cs = some x) : ∃ (A : Option Addr) (cap : Nat) (rs : List RawV), cs = [.slice A rs.length cap] ∧ rs.length ≤ cap ∧ cap ≤ 9223372036854775807 ∧ CellsAt W W.heap.size A (rs.flatMap RawV.cells) ∧ ∀ r ∈ rs, RawAt W W.heap.size r := by
  obtain ⟨A, len, cap, vs, e0, rfl, h1, h2, h3, h4⟩ := op_slice 34 RawV.cells (RawAt W W.heap.size) Tryz.underlying22 (by kernel_rfl) (by omega) (fun n cs' y h => op_raw h) h
  exact ⟨A, cap, vs, e0, h1, h2, h3, h4⟩
end
end Go.Proofs.YtbdkalpljhpnmaaGreat
