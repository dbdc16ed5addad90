/- The texts La, Lb, TrS, Lc, Khm, Ld, in this order. -/
import Derived.Test.YtbdkalpljhpnmaaGreatG04
import Derived.Test.YtbdkalpljhpnmaaGreatG03
import Derived.BigQuiet
import Derived.Deep.AppendLies
import Derived.Deep.CutBlock
import Derived.Deep.DeepCutAuto
import Derived.Deep.DrawnRows
import Derived.Deep.MidRow
import Derived.Deep.QuietTactic
import Derived.Deep.RegionHeld3
import Derived.Deep.RegionLaw
import Derived.Deep.WholeRow
import Derived.Great.BuildSlice
import Derived.Handy
import Derived.Laws.BytesString
import Derived.Laws.CopyOwn
import Derived.Laws.EntriesVeiled
import Derived.Laws.MakeOwn
import Derived.Laws.ResultCell
import Derived.Laws.Rows
import Derived.Laws.Tables
import Derived.Lib.Hide
import Derived.LoopIn
import Derived.LoopNIn
import Derived.Maps.AppendAt
import Derived.Outline
import Derived.OwnWalkIn
import Derived.RangeFuncBound
import Derived.RangeFuncBox
import Derived.RangeFuncCalls
import Derived.RangeFuncLeaves
import Derived.RangeFuncNested
import Derived.Shelf.Abstract
import Derived.Shelf.Bytes.SlSmallAll
import Derived.Shelf.RegionOpen
import Derived.StillTailTactics
import Derived.Stop.BytesEq
import Derived.TacticsInMore
import Derived.WalkKit
import Derived.WalkLawsBesides
import Derived.WalkSpells
import Derived.Test.YtbdkalpljhpnmaaGreatQd
import Derived.Test.YtbdkalpljhpnmaaGreatQa
import Derived.Test.YtbdkalpljhpnmaaGreatKh0
import Derived.Test.YtbdkalpljhpnmaaGreatKh1
/- kalendsref03.Sum. -/
namespace Go.Proofs.YtbdkalpljhpnmaaGreat
open Go Go.RowKit

section
variable {P : Program} {ops : Array Oper} {a : Act} {w : World} {rest : List Oper} {o : Oper}
theorem wpStill_load_nm {Q : Act → Prop} (hw : Region.wanted o (yielded ops a.tmps) = true) (ty : TypeId) (x : Operand) (ho : o.op = .load ty x) (g : Nat) (hx : a.eval x = .pointer (some ⟨g, 0, none⟩)) (cs : Array Value) (hr : RowU w g cs)
    (d : TypeDesc) (hu : P.underlying ty = some d) (hd : d.isRow = true) (hi : (P.info? ty).map (·.size) = some cs.size)
    (h : wpStill P ops w Q rest (a.put o.dst (.agg cs))) : wpStill P ops w Q (o :: rest) a := by
  refine wpStill_step fun K hK => ?_
  rw [if_pos hw]
  have hc : w.rangeAt g 0 cs.toList := fun j v hv => by rw [Nat.zero_add, hr.2 j]; simpa using hv
  unfold Oper.still execOp
  simp only [ho, hx, Instr.loadAt, Instr.sureAddr, Sem.run_bind, Sem.run_pure, Result.andThen_ok, run_loadVar_mid w g 0 ty cs.toList d hc hu hd (by rw [hi]; simp)]
  exact ⟨rfl, hK _ (by simpa using h)⟩
end
/-- A digest's variable, as it lies. -/
def cD (bs : List UInt8) : Array Value := (refCells bs).toArray
theorem cD_size (bs : List UInt8) : (cD bs).size = bs.length := by simp [cD, refCells]
theorem cD_one (bs : List UInt8) : (cD bs).all (·.oneCell') = true := by
  rw [Array.all_eq_true_iff_forall_mem]
  intro v hv
  have h : v ∈ bs.map Extern.Stop.cell := by simpa [cD, refCells] using hv
  obtain ⟨x, _, rfl⟩ := List.mem_map.1 h
  rfl
theorem cD_set (bs : List UInt8) (i : Nat) (x : UInt8) : (cD bs).setIfInBounds i (Extern.Stop.cell x) = cD (bs.set i x) := by
  simp [cD, refCells, List.map_set]
theorem cD_get (bs : List UInt8) (i : Nat) (h : i < bs.length) : (cD bs)[i]? = some (Extern.Stop.cell (bs[i]?.getD 0)) := by
  simp [cD, refCells, h]
def d32 : List UInt8 := List.replicate 32 0
theorem d32_info : (Tryz.prog.info? 29).map (fun i => (i.zero, i.size)) = some (some (.agg (cD d32)), (cD d32).size) := by kernel_rfl
theorem d32_len : d32.length = 32 := by simp [d32]
def iv3 : List Int := [1779033703, 3144134277, 1013904242, 2773480762, 1359893119, 2600822924, 528734635, 1541459225]
/-- The variables of Sum. -/
structure SmS (w : World) (zs : List Int) (W : World) : Prop where
  r : AV w.heap.size 29 (cD d32) W
  s : AV (w.heap.size + 1) 157 (cellsU zs) W
  lo : Below w.heap.size w W
theorem SmS.start (w : World) (z : List Int) : SmS w iv3 (((w.alloc (.cells (cD d32) 29)).alloc (.cells (cellsU z) 157)).setRow (w.heap.size + 1) (cellsU iv3)) :=
  ⟨⟨(setRow_other _ _ _ _ (by omega)).trans (heap_alloc2_old w _ _)⟩, ⟨setRow_heap _ _ _ _ _ _ (heap_alloc2_new w _ _)⟩, below_setRow' (below_trans (below_var w _) (below_var _ _)) (Nat.le_succ _) _⟩
theorem SmS.grow {w W W' : World} {zs : List Int} (h : SmS w zs W) (hb : Below W.heap.size W W') : SmS w zs W' := ⟨h.r.below hb, h.s.below hb, below_trans h.lo hb⟩
theorem SmS.row {w W : World} {zs : List Int} (h : SmS w zs W) (ds : List Int) : SmS w ds (W.setRow (w.heap.size + 1) (cellsU ds)) :=
  ⟨h.r.rowF (by omega) _, h.s.rowS _, below_setRow' h.lo (Nat.le_succ _) _⟩
theorem SmS.drew {w W : World} {zs : List Int} (h : SmS w zs W) : SmS w zs W.drew := ⟨⟨h.r.var⟩, ⟨h.s.var⟩, ⟨h.lo.os, h.lo.tape, h.lo.output, h.lo.size, h.lo.block⟩⟩
theorem SmS.far {w W : World} {zs : List Int} (h : SmS w zs W) (b : Nat) (hb : w.heap.size + 1 < b) (o : Nat) (v : Value) : SmS w zs (W.setCell ⟨b, o, none⟩ v) :=
  ⟨h.r.far (by omega) _ _, h.s.far (by omega) _ _, h.lo.setCell (p := ⟨b, o, none⟩) (show w.heap.size ≤ b by omega) _⟩
theorem SmS.farRow {w W : World} {zs : List Int} (h : SmS w zs W) (b : Nat) (hb : w.heap.size + 1 < b) (cs : Array Value) : SmS w zs (W.setRow b cs) :=
  ⟨h.r.rowF (by omega) _, h.s.rowF (by omega) _, below_setRow' h.lo (by omega) _⟩
/-- The padded bytes. -/
theorem pad_there {w : World} {lo n c : Nat} {A : Option Addr} {bs : List UInt8} (h : BsO lo w A n c bs) (h0 : 0 < n) : ∃ g cur, A = some ⟨g, 0, none⟩ ∧ lo ≤ g ∧ n ≤ c ∧ c ≤ maxLen ∧ AV g 5 cur w ∧ ∀ j, j < n → cur[j]? = some (Extern.Stop.cell (bs[j]?.getD 0)) := by
  have hl : bs.length = n := by have := h.1; rw [List.length_map] at this; omega
  rcases h.2 with ⟨_, hn⟩ | ⟨g, cap, cur, hv, hlo, hh, hnc, hcm, _, ht⟩
  · omega
  · injection hv with h1 _ h3
    subst h3
    refine ⟨g, cur, h1, hlo, hnc, hcm, ⟨hh⟩, fun j hj => ?_⟩
    have e : (cur.toList.take (n * 1))[j]? = some (Extern.Stop.cell (bs[j]?.getD 0)) := by rw [ht, List.getElem?_map, List.getElem?_eq_getElem (by omega)]; rfl
    rw [List.getElem?_take_of_lt (by omega)] at e
    simpa using e
def DgP (w : World) (e : Ending) (w' : World) : Prop := ∃ d : List UInt8, d.length = 32 ∧ e = .returned (.agg (cD d)) ∧ Below w.heap.size w w'
set_option maxRecDepth 10000 in
set_option maxHeartbeats 2000000 in
theorem sum_r (n c : Nat) (A : Option Addr) (bs : List UInt8) (w : World) (hl : bs.length = n) (h0 : 0 < n) (hn : n ≤ 200000) (hb : CellsAt w w.heap.size A (bs.map Extern.Stop.cell)) :
    Calls Tryz.prog 50 #[.slice A n c] w (DgP w) := by
  have H0 := Lib.hid (SmS.start w (List.replicate 8 0))
  have HB := Lib.hid hb
  have HL := Lib.hid hl
  obtain ⟨u8, hu8⟩ : ∃ l : List Int, List.replicate 8 0 = l := ⟨_, rfl⟩
  have HU8 : Hid ((Tryz.prog.info? 157).map (fun i => (i.zero, i.size)) = some (some (.agg (cellsU u8)), (cellsU u8).size)) := Lib.hid (by rw [← hu8]; exact zero8_info3)
  have HU9 : Hid ((cellsU u8).size = (cellsU iv3).size) := Lib.hid (by rw [← hu8, cellsU_size, cellsU_size]; simp [iv3])
  have HI8 : Hid ((Tryz.prog.info? 157).map (·.size) = some (cellsU iv3).size) := Lib.hid (by kernel_rfl)
  rw [hu8] at H0
  have HP : Hid (∀ W, Below w.heap.size w W → Calls Tryz.prog 65 #[.slice A n c] W (PadP W n)) := Lib.hid fun W h => padded_r n c A bs W hl h0 hn ((hb.keep h).more h.size)
  clear hb hl hu8
  have hpl := padN_lt n
  have hpm := padN_mod n
  obtain ⟨N, hN⟩ : ∃ N, n + 9 + padN n = N := ⟨_, rfl⟩
  have HN := Lib.hid hN
  have hNm : N % 64 = 0 := by omega
  have hNb : N ≤ 200100 := by omega
  have hN0 : 0 < N := by omega
  clear hpl hpm hN
  go_enter Tryz.func50, Tryz.ntmps50
  go_upto_region 2 with (first
    | ((with_reducible refine g_alloc 29 ?_); go_must (refine wpList_alloc_nm rfl _ rfl (cD d32) d32_info ?_))
    | ((with_reducible refine g_alloc 157 ?_); go_must (refine wpList_alloc_nm rfl _ rfl (cellsU u8) HU8.out ?_))
    | ((with_reducible refine g_sto 157 ?_); go_must (refine wpList_store_row rfl _ _ _ rfl (w.heap.size + 1) (cellsU iv3) (congrArg (fun b => Value.pointer (some ⟨b, 0, none⟩)) (al_sz w _)) rfl 157 (cellsU u8) (heap_alloc2_new w _ _) HI8.out HU9.out (cellsU_one _) ?_)))
  rw [al_sz w]
  generalize ((w.alloc (.cells (cD d32) 29)).alloc (.cells (cellsU u8) 157)).setRow (w.heap.size + 1) (cellsU iv3) = W1 at H0 ⊢
  clear HU8 HU9 HI8
  go_wp2_with fail
  refine (HP.out _ H0.out.lo).mono ?_
  rintro e w2 ⟨ps, hpl, A2, n2, c2, hn2, rfl, hown, hk⟩
  have hw1 := H0.out.s.lt
  have hb2 : Below W1.heap.size W1 w2 := hk.nilB
  have H2 := Lib.hid (H0.out.grow hb2)
  rw [HN.out] at hpl
  obtain rfl : n2 = N := by omega
  obtain ⟨pb, cur, rfl, hlo, hnc, hcm, hav, hcur⟩ := pad_there hown hN0
  have HAV := Lib.hid hav
  have HCU := Lib.hid hcur
  have hpb : w.heap.size + 1 < pb := by omega
  have HPL : Hid (ps.length = n2) := Lib.hid hpl
  have hcI : (c2 : Int) ≤ 9223372036854775807 := by unfold maxLen at hcm; omega
  clear hav hcur hcm hb2 hown hk H0 HP hn2 hpl
  go_wp2_with fail
  go_loopw [5] (fun i wr => ∃ (k : Nat) (zs : List Int), k % 64 = 0 ∧ k ≤ n2 ∧ i = I k ∧ zs.length = 8 ∧ SmS w zs wr ∧ AV pb 5 cur wr) (fun i _ => n2 - (intOf i).toNat)
  case atStart => exact ⟨0, iv3, rfl, Nat.zero_le _, rfl, rfl, H2.out, HAV.out⟩
  case round =>
    obtain ⟨k, zs, hkm, hk, rfl, hzl, hs, hav⟩ := hrel
    have HS := Lib.hid hs
    have HA := Lib.hid hav
    have HZ := Lib.hid hzl
    clear hs hav hzl H2 HAV
    by_cases hlt : (k : Int) < (n2 : Int)
    · have hk64 : k + 64 ≤ n2 := by omega
      obtain ⟨k2, hk2⟩ : ∃ q : Nat, k + 64 = q := ⟨_, rfl⟩
      have g1 : (k : Int) + 64 = (k2 : Int) := by omega
      have g2 : (k : Int) ≤ (k2 : Int) := by omega
      have g3 : (k2 : Int) ≤ (c2 : Int) := by omega
      have g4 : IntKind.i64.wrap (k2 : Int) = (k2 : Int) := by rw [IntKind.wrap_i64]; omega
      have g5 : (k2 : Int) - (k : Int) = 64 := by omega
      have HK2 := Lib.hid hk2
      have hck : ¬ c2 = k := by omega
      have HRU : Hid (RowU wr.drew (w.heap.size + 1) (cellsU zs)) := Lib.hid HS.out.drew.s.rowU
      have HSZ : Hid ((Tryz.prog.info? 157).map (·.size) = some (cellsU zs).size) := Lib.hid (by rw [cellsU_size, HZ.out]; kernel_rfl)
      go_wp2_with fail
      refine wp_region_still_tail 6 (by kernel_rfl) (by kernel_rfl) ?_
      simp only [List.take_succ_cons, List.take_zero, List.drop_succ_cons, List.drop_zero]
      refine wpStill_load_nm rfl _ _ rfl (w.heap.size + 1) rfl (cellsU zs) HRU.out _ Tryz.underlying157 rfl HSZ.out ?_
      repeat still_step
      refine wpStill_nil ?_
      change wpList _ _ _ _ _ wr.drew
      go_wp2_with fail
      rw [show k2 - k = 64 by omega]
      have HXL : Hid (((ps.drop k).take 64).length = 64) := Lib.hid (by have := HPL.out; rw [List.length_take, List.length_drop]; omega)
      have HXC : Hid (∀ j, j < 64 → wr.drew.cell? ⟨pb, k + j, none⟩ = some (Extern.Stop.cell (((ps.drop k).take 64)[j]?.getD 0))) := Lib.hid (fun j hj => (HA.out.cell (k + j)).trans ((HCU.out (k + j) (by omega)).trans (by rw [List.getElem?_take_of_lt hj, List.getElem?_drop])))
      obtain ⟨xs, hxs⟩ : ∃ l, (ps.drop k).take 64 = l := ⟨_, rfl⟩
      rw [hxs] at HXL HXC
      clear hxs
      refine (step_r wr.drew pb k (c2 - k) zs HZ.out xs HXL.out HA.out.lt HXC.out).mono ?_
      rintro e w4 ⟨zs2, hz2, rfl, hb4⟩
      have HS4 := Lib.hid (HS.out.drew.grow hb4)
      have HA4 := Lib.hid (HA.out.drew.below hb4)
      have HZ2 := Lib.hid hz2
      have HSZ2 : Hid ((Tryz.prog.info? 157).map (·.size) = some (cellsU zs2).size) := Lib.hid (by rw [cellsU_size, HZ2.out]; kernel_rfl)
      have HSE : Hid ((cellsU zs).size = (cellsU zs2).size) := Lib.hid (by rw [cellsU_size, cellsU_size, HZ.out, HZ2.out])
      clear hb4 hz2 HS HA HRU
      go_wp2_with ((with_reducible refine g_sto 157 ?_); go_must (refine wpList_store_row rfl _ _ _ rfl (w.heap.size + 1) (cellsU zs2) rfl rfl 157 (cellsU zs) HS4.out.s.var HSZ2.out HSE.out (cellsU_one _) ?_))
      go_roundw
      case rel => exact ⟨k2, zs2, by have := HK2.out; omega, by have := HK2.out; omega, rfl, HZ2.out, HS4.out.row _, HA4.out.rowF (by omega) _⟩
      case measure => simp [intOf]; omega
    · have HZER : Hid (Value.agg (cD d32) = .agg #[.int .u8 0, .int .u8 0, .int .u8 0, .int .u8 0, .int .u8 0, .int .u8 0, .int .u8 0, .int .u8 0, .int .u8 0, .int .u8 0, .int .u8 0, .int .u8 0, .int .u8 0, .int .u8 0, .int .u8 0, .int .u8 0, .int .u8 0, .int .u8 0, .int .u8 0, .int .u8 0, .int .u8 0, .int .u8 0, .int .u8 0, .int .u8 0, .int .u8 0, .int .u8 0, .int .u8 0, .int .u8 0, .int .u8 0, .int .u8 0, .int .u8 0, .int .u8 0]) := Lib.hid rfl
      have HID : Hid ((Tryz.prog.info? 29).map (·.size) = some (cD d32).size) := Lib.hid (by kernel_rfl)
      clear HA
      have hwr := HS.out.s.lt
      go_upto_region 8 with (first
        | ((with_reducible refine g_alloc 29 ?_); go_must (refine wpList_alloc_nm rfl _ rfl (cD d32) d32_info ?_))
        | ((with_reducible refine g_sto 29 ?_); go_must (refine wpList_store_row rfl _ _ _ rfl wr.heap.size (cD d32) rfl HZER.out.symm 29 (cD d32) (heap_alloc_last _ _) HID.out rfl (cD_one _) ?_)))
      have HO : Hid (AV wr.heap.size 29 (cD d32) ((wr.alloc (.cells (cD d32) 29)).setRow wr.heap.size (cD d32))) := Lib.hid ((AV.new wr _ _).rowS _)
      have HS5 : Hid (SmS w zs ((wr.alloc (.cells (cD d32) 29)).setRow wr.heap.size (cD d32))) := Lib.hid ((HS.out.grow (below_var wr _)).farRow _ hwr _)
      generalize (wr.alloc (.cells (cD d32) 29)).setRow wr.heap.size (cD d32) = W5 at HO HS5 ⊢
      obtain ⟨ob, hob⟩ : ∃ b, wr.heap.size = b := ⟨_, rfl⟩
      rw [hob] at HO hwr ⊢
      clear hob HZER HS hlt
      go_wp2_with fail
      go_loopw [7] (fun i wx => ∃ (k : Nat) (ds : List UInt8), k ≤ 32 ∧ i = I k ∧ ds.length = 32 ∧ SmS w zs wx ∧ AV ob 29 (cD ds) wx) (fun i _ => 32 - (intOf i).toNat)
      case atStart => exact ⟨0, d32, Nat.zero_le _, rfl, d32_len, HS5.out, HO.out⟩
      case round =>
        clear HS5 HO
        obtain ⟨j, ds, hj, rfl, hdl, hs, ho⟩ := hrel
        have HS := Lib.hid hs
        have HO := Lib.hid ho
        have HDL := Lib.hid hdl
        clear hs ho hdl
        by_cases hlt : (j : Int) < 32
        · obtain ⟨q, hq⟩ : ∃ q : Nat, j / 4 = q := ⟨_, rfl⟩
          obtain ⟨r, hr⟩ : ∃ r : Nat, j % 4 = r := ⟨_, rfl⟩
          have hdq : Int.tdiv (j : Int) 4 = (q : Int) := by rw [Int.tdiv_eq_ediv_of_nonneg (by omega)]; omega
          have hmr : Int.tmod (j : Int) 4 = (r : Int) := by rw [Int.tmod_eq_emod_of_nonneg (by omega)]; omega
          have hdq2 : (j : Int) / 4 = (q : Int) := by omega
          have hmr2 : (j : Int) % 4 = (r : Int) := by omega
          have hq8 : (q : Int) < 8 := by omega
          have hr4 : (r : Int) < 4 := by omega
          obtain ⟨s, hs⟩ : ∃ s : Int, 24 - 8 * (r : Int) = s := ⟨_, rfl⟩
          have hs0 : 0 ≤ s := by omega
          have hs1 : s ≤ 24 := by omega
          obtain ⟨z, hz⟩ : ∃ z, zs[q]?.getD 0 = z := ⟨_, rfl⟩
          have cS : wr.cell? ⟨w.heap.size + 1, q, none⟩ = some (.int .u32 z) := (HS.out.s.cell q).trans (by rw [cellsU_get _ _ (by rw [HZ.out]; omega), hz])
          obtain ⟨o0, ho0⟩ : ∃ x : UInt8, ds[j]?.getD 0 = x := ⟨_, rfl⟩
          have cO : wr.cell? ⟨ob, j, none⟩ = some (Extern.Stop.cell o0) := (HO.out.cell j).trans (by rw [cD_get _ _ (by rw [HDL.out]; omega), ho0])
          have cf := HO.out.froz j
          clear hq hr hz ho0
          go_wp2_with fail
          go_roundw
          case rel => exact ⟨j + 1, ds.set j (byteOf (z / 2 ^ s.toNat)), by omega, by go_num, by rw [List.length_set, HDL.out], HS.out.far ob hwr _ _, by have h := HO.out.put j (Extern.Stop.cell (byteOf (z / 2 ^ s.toNat))); rw [cD_set, byteOf_cell] at h; exact h⟩
          case measure => simp [intOf]; omega
        · have HRW : Hid (RowU wr ob (cD ds)) := Lib.hid HO.out.rowU
          have HSZ2 : Hid ((Tryz.prog.info? 29).map (·.size) = some (cD ds).size) := Lib.hid (by rw [cD_size, HDL.out]; kernel_rfl)
          have HS1 : Hid ((cD d32).size = (cD ds).size) := Lib.hid (by rw [cD_size, cD_size, HDL.out, d32_len])
          go_wp2_with (first
            | ((with_reducible refine g_loa 29 ?_); go_must (refine wpList_load_nm rfl _ _ rfl ob rfl (cD ds) HRW.out _ Tryz.underlying29 rfl HSZ2.out ?_))
            | ((with_reducible refine g_sto 29 ?_); go_must (refine wpList_store_row rfl _ _ _ rfl w.heap.size (cD ds) rfl rfl 29 (cD d32) HS.out.r.var HSZ2.out HS1.out (cD_one _) ?_)))
          refine bodyPost_ret (v := .agg (cD ds)) (results_cell_row rfl _ _ w.heap.size _ (cD ds) (0, 0) _ rfl (setRow_heap _ _ _ _ _ _ HS.out.r.var) Tryz.underlying29 rfl HSZ2.out) rfl ?_
          exact ⟨ds, HDL.out, rfl, below_setRow' HS.out.lo (Nat.le_refl _) _⟩
end Go.Proofs.YtbdkalpljhpnmaaGreat

/- kalendsref03.Keyed. -/
namespace Go.Proofs.YtbdkalpljhpnmaaGreat
open Go Go.RowKit

/-- append of bytes to an own list of bytes. -/
theorem wpList_app_bs {ops : Array Oper} {rest : List Oper} {o : Oper} {a : Act} {Q : Exit → Act → World → Prop} {w : World} (hgd : o.guard = none) (sl x : Operand)
    (ho : o.op = .call { callee := .builtin .append, args := #[sl, x], argTypes := #[23, 23] }) (lo n c : Nat) (A : Option Addr) (bs : List UInt8) (hs : a.eval sl = .slice A n c) (hown : BsO lo w A n c bs)
    (B : Nat) (A2 : Option Addr) (m c2 : Nat) (ds : List UInt8) (hx : a.eval x = .slice A2 m c2) (hl : ds.length = m) (hm : 0 < m) (hc : CellsAt w B A2 (ds.map Extern.Stop.cell)) (hlen : n + m ≤ 1000000000) (hbase : lo ≤ w.heap.size)
    (h : ∀ A' c' w', BsO lo w' A' (n + m) c' (bs ++ ds) → RwK (.slice A n c) w (.slice A' (n + m) c') w' → wpList Tryz.prog ops Q rest (a.put o.dst (.slice A' (n + m) c')) w') : wpList Tryz.prog ops Q (o :: rest) a w := by
  obtain ⟨i0, hi, hz0, hz1, hz2⟩ := info_parts info_u8
  obtain ⟨b, off, rfl, _, hcl⟩ := hc.there (by rw [List.length_map]; omega)
  refine wpList_append_own_at _ hgd sl x 23 ho lo 5 i0 (.int .u8 0) 1 1 Tryz.underlying23 hi hz0 hz1 hz2 rfl (by decide) _ n (bs.map Extern.Stop.cell) hs hown ⟨b, off, none⟩ m c2 (ds.map Extern.Stop.cell) hx (by rw [List.length_map]; omega) (fun j u hu => by rw [show (⟨b, off, none⟩ : Addr).add j = ⟨b, off + j, none⟩ by unfold Addr.add; split <;> simp_all]; exact hcl j u hu)
    (fun u hu => by obtain ⟨y, _, rfl⟩ := List.mem_map.1 hu; rfl) (by unfold maxLen; omega) (by omega) hbase ?_
  intro v' w' hown' hg _ hat
  obtain ⟨A', c', rfl⟩ := own_formB hown'
  exact h A' c' w' (by unfold BsO; rw [List.map_append]; exact hown') (RwK.app0 hg hat)
/-- The two first variables of a call: a parameter's box and the result. -/
structure V2 (w : World) (t : TypeId) (cs : Array Value) (t2 : TypeId) (ds : Array Value) (W : World) : Prop where
  s : AV w.heap.size t cs W
  r : AV (w.heap.size + 1) t2 ds W
  lo : Below w.heap.size w W
theorem V2.start (w : World) (t : TypeId) (cs : Array Value) (t2 : TypeId) (ds : Array Value) : V2 w t cs t2 ds ((w.alloc (.cells cs t)).alloc (.cells ds t2)) :=
  ⟨⟨heap_alloc2_old w _ _⟩, ⟨heap_alloc2_new w _ _⟩, below_trans (below_var w _) (below_var _ _)⟩
theorem V2.growL {w W W' : World} {t t2 : TypeId} {cs ds : Array Value} {L : Nat} (h : V2 w t cs t2 ds W) (hb : Below L W W') (hL : w.heap.size + 1 < L) : V2 w t cs t2 ds W' :=
  ⟨⟨(hb.block _ (by omega)).trans h.s.var⟩, ⟨(hb.block _ (by omega)).trans h.r.var⟩, h.lo.trans (hb.mono (by omega))⟩
theorem V2.grow {w W W' : World} {t t2 : TypeId} {cs ds : Array Value} (h : V2 w t cs t2 ds W) (hb : Below W.heap.size W W') : V2 w t cs t2 ds W' := h.growL hb h.r.lt
set_option maxRecDepth 10000 in
set_option maxHeartbeats 2000000 in
theorem keyed_r (key : List UInt8) (hk : key.length = 32) (n c : Nat) (A : Option Addr) (bs : List UInt8) (w : World) (hl : bs.length = n) (h0 : 0 < n) (hn : n ≤ 100000) (hb : CellsAt w w.heap.size A (bs.map Extern.Stop.cell)) :
    Calls Tryz.prog 32 #[.agg (cD key), .slice A n c] w (DgP w) := by
  have HB := Lib.hid hb
  have HL := Lib.hid hl
  have HKL := Lib.hid hk
  have H0 := Lib.hid (V2.start w 29 (cD key) 29 (cD d32))
  have HSZ : Hid (∀ d : List UInt8, d.length = 32 → (Tryz.prog.info? 29).map (·.size) = some (cD d).size) := Lib.hid (fun d h => by rw [cD_size, h]; kernel_rfl)
  have HSE : Hid (∀ d : List UInt8, d.length = 32 → (cD d32).size = (cD d).size) := Lib.hid (fun d h => by rw [cD_size, cD_size, h, d32_len])
  clear hb hl hk
  go_enter Tryz.func32, Tryz.ntmps32
  go_upto_region 1 with (first
    | ((with_reducible refine g_alloc 29 ?_); go_must (refine wpList_alloc_nm rfl _ rfl (cD d32) d32_info ?_)))
  generalize (w.alloc (.cells (cD key) 29)).alloc (.cells (cD d32) 29) = W0 at H0 ⊢
  have hw0 := H0.out.r.lt
  go_wp2_with ((with_reducible refine g_loa 29 ?_); go_must (refine wpList_load_nm rfl _ _ rfl w.heap.size rfl (cD key) H0.out.s.rowU _ Tryz.underlying29 rfl (HSZ.out _ HKL.out) ?_))
  refine (block03_r 54 key W0 HKL.out (by omega) (by omega)).mono ?_
  rintro e w1 ⟨A1, n1, c1, l1, rfl, o1, k1⟩
  have hn1 : n1 = 64 := by rw [← l1, block03_len _ _ HKL.out]
  subst hn1
  obtain ⟨b1, hb1⟩ : ∃ l, block03 54 key = l := ⟨_, rfl⟩
  rw [hb1] at o1 l1
  have H1 := Lib.hid (H0.out.grow k1.nilB)
  have HO1 := Lib.hid o1
  have HL1 := Lib.hid l1
  have hs1 : W0.heap.size ≤ w1.heap.size := k1.size
  have HBW1 : Hid (CellsAt w1 w1.heap.size A (bs.map Extern.Stop.cell)) := Lib.hid ((HB.out.keep H1.out.lo).more H1.out.lo.size)
  clear o1 k1 l1 hb1 H0
  go_wp2_with (at_builtin; go_must (refine wpList_app_bs rfl _ _ rfl W0.heap.size 64 c1 A1 b1 rfl HO1.out _ A n c bs rfl HL.out h0 HBW1.out (by omega) hs1 ?_))
  intro A2 c2 w2 o2 k2
  have H2 := Lib.hid (H1.out.growL (k2.lowB HO1.out.base hs1) hw0)
  have hs2 : W0.heap.size ≤ w2.heap.size := Nat.le_trans hs1 k2.size
  have HO2 := Lib.hid o2
  clear o2 k2 H1 HO1 HBW1
  go_wp2_with fail
  refine (sum_r (64 + n) c2 A2 (b1 ++ bs) w2 (by rw [List.length_append, HL1.out, HL.out]) (by omega) (by omega) (CellsAt.of_own HO2.out)).mono ?_
  rintro e w3 ⟨d, hd, rfl, hb3⟩
  have H3 := Lib.hid (H2.out.grow hb3)
  have HD := Lib.hid hd
  have hw3 := H3.out.r.lt
  clear H2 HO2 hb3 hd HL1
  go_upto_region 3 with (first
    | ((with_reducible refine g_alloc 29 ?_); go_must (refine wpList_alloc_nm rfl _ rfl (cD d32) d32_info ?_))
    | ((with_reducible refine g_sto 29 ?_); go_must (refine wpList_store_row rfl _ _ _ rfl w3.heap.size (cD d) rfl rfl 29 (cD d32) (heap_alloc_last _ _) (HSZ.out _ HD.out) (HSE.out _ HD.out) (cD_one _) ?_)))
  have H4 : Hid (V2 w 29 (cD key) 29 (cD d32) ((w3.alloc (.cells (cD d32) 29)).setRow w3.heap.size (cD d))) := Lib.hid (H3.out.grow (below_setRow' (below_var w3 _) (Nat.le_refl _) _))
  have HI4 : Hid (AV w3.heap.size 29 (cD d) ((w3.alloc (.cells (cD d32) 29)).setRow w3.heap.size (cD d))) := Lib.hid ((AV.new w3 _ _).rowS _)
  generalize (w3.alloc (.cells (cD d32) 29)).setRow w3.heap.size (cD d) = W4 at H4 HI4 ⊢
  obtain ⟨ib, hib⟩ : ∃ b, w3.heap.size = b := ⟨_, rfl⟩
  rw [hib] at HI4 hw3 ⊢
  clear hib H3
  have hw4 := H4.out.r.lt
  go_wp2_with ((with_reducible refine g_loa 29 ?_); go_must (refine wpList_load_nm rfl _ _ rfl w.heap.size rfl (cD key) H4.out.s.rowU _ Tryz.underlying29 rfl (HSZ.out _ HKL.out) ?_))
  refine (block03_r 92 key W4 HKL.out (by omega) (by omega)).mono ?_
  rintro e w5 ⟨A5, n5, c5, l5, rfl, o5, k5⟩
  have hn5 : n5 = 64 := by rw [← l5, block03_len _ _ HKL.out]
  subst hn5
  obtain ⟨b5, hb5⟩ : ∃ l, block03 92 key = l := ⟨_, rfl⟩
  rw [hb5] at o5 l5
  have H5 := Lib.hid (H4.out.grow k5.nilB)
  have HI5 := Lib.hid (HI4.out.below k5.nilB)
  have HO5 := Lib.hid o5
  have HL5 := Lib.hid l5
  have hs5 : W4.heap.size ≤ w5.heap.size := k5.size
  clear o5 k5 l5 hb5 H4 HI4
  go_wp2_with ((with_reducible refine g_loa 29 ?_); go_must (refine wpList_load_nm rfl _ _ rfl ib rfl (cD d) HI5.out.rowU _ Tryz.underlying29 rfl (HSZ.out _ HD.out) ?_))
  refine (bytes03_r d w5 HD.out).mono ?_
  rintro e w6 ⟨A6, n6, c6, l6, rfl, o6, k6⟩
  have hn6 : n6 = 32 := by rw [← l6, HD.out]
  subst hn6
  have H6 := Lib.hid (H5.out.grow k6.nilB)
  have HO6 := Lib.hid (HO5.out.below k6.nilB)
  have HC6 := Lib.hid (CellsAt.of_own o6)
  have hs6 : W4.heap.size ≤ w6.heap.size := Nat.le_trans hs5 k6.size
  clear o6 k6 l6 H5 HO5 HI5
  go_wp2_with (at_builtin; go_must (refine wpList_app_bs rfl _ _ rfl W4.heap.size 64 c5 A5 b5 rfl HO6.out _ A6 32 c6 d rfl HD.out (by omega) HC6.out (by omega) hs6 ?_))
  intro A7 c7 w7 o7 k7
  have H7 := Lib.hid (H6.out.growL (k7.lowB HO6.out.base hs6) hw4)
  have HO7 := Lib.hid o7
  clear o7 k7 H6 HO6 HC6
  go_wp2_with fail
  refine (sum_r (64 + 32) c7 A7 (b5 ++ d) w7 (by rw [List.length_append, HL5.out, HD.out]) (by omega) (by omega) (CellsAt.of_own HO7.out)).mono ?_
  rintro e w8 ⟨d2, hd2, rfl, hb8⟩
  have H8 := Lib.hid (H7.out.grow hb8)
  have HD2 := Lib.hid hd2
  clear H7 HO7 hb8 hd2 HL5
  go_wp2_with ((with_reducible refine g_sto 29 ?_); go_must (refine wpList_store_row rfl _ _ _ rfl (w.heap.size + 1) (cD d2) rfl rfl 29 (cD d32) H8.out.r.var (HSZ.out _ HD2.out) (HSE.out _ HD2.out) (cD_one _) ?_))
  refine bodyPost_ret (v := .agg (cD d2)) (results_cell_row rfl _ _ (w.heap.size + 1) _ (cD d2) (0, 0) _ rfl (setRow_heap _ _ _ _ _ _ H8.out.r.var) Tryz.underlying29 rfl (HSZ.out _ HD2.out)) rfl ?_
  exact ⟨d2, HD2.out, rfl, below_setRow' H8.out.lo (Nat.le_succ _) _⟩
end Go.Proofs.YtbdkalpljhpnmaaGreat

/- table.Read of a flat table's bytes. -/
namespace Go.Proofs.YtbdkalpljhpnmaaGreat
open Go Go.RowKit

section
variable {P : Program} {ops : Array Oper} {rest : List Oper} {o : Oper} {a : Act} {w : World} {Q : Exit → Act → World → Prop}
end
/-- What table.Read gives. -/
def TReadR (w : World) (t : Tb) (n : Nat) (e : Ending) (w' : World) : Prop :=
  ∃ A c ys, e = .returned (.tuple #[.agg (tbVal { t with mac := zero32 } (.slice A n c)), I 0]) ∧ ZsOwn w.heap.size w' (.slice A n c) ys ∧ ys.map (·.e) = t.zones ∧ Below w.heap.size w w'
theorem TbFlat.mac0 {t : Tb} (h : TbFlat t) : TbFlat { t with mac := zero32 } := ⟨h.issuer, h.version, h.withdraws, h.prev, rfl, h.first, h.num, h.flat, h.short⟩
set_option maxRecDepth 10000 in
set_option maxHeartbeats 2000000 in
theorem tableRead_flat (w : World) (t : Tb) (n N b off c : Nat) (h : TbFlat t) (hn : t.zones.length = n) (hN : (tbBytes t).length = N) (hup : ∀ ys : List ZeV, ys.map (·.e) = t.zones → NamesUp ys) (hbl : b < w.heap.size) (hc1 : N ≤ c) (hc2 : c ≤ 9223372036854775807)
    (hA : ∀ j, j < N → w.cell? ⟨b, off + j, none⟩ = some (Extern.Stop.cell ((tbBytes t)[j]?.getD 0))) :
    Calls Tryz.prog 12 #[.slice (some ⟨b, off, none⟩) N c] w (TReadR w t n) := by
  have HF := Lib.hid h.mac0
  have HSZ : Hid (∀ v, (Tryz.prog.info? 47).map (·.size) = some (tbVal { t with mac := zero32 } v).size) := Lib.hid fun v => tb_info _ v h.prev rfl
  have HS0 : Hid (∀ v, (tbVal zTb (.slice none 0 0)).size = (tbVal { t with mac := zero32 } v).size) := Lib.hid fun v => by exact (tb_size zTb _ rfl rfl).trans (tb_size { t with mac := zero32 } v h.prev rfl).symm
  have HN := Lib.hid hn
  have HNN := Lib.hid hN
  have HUP := Lib.hid hup
  obtain ⟨W, hW⟩ : ∃ W, w.alloc (.cells (tbVal zTb (.slice none 0 0)) 47) = W := ⟨_, rfl⟩
  have hB : Below w.heap.size w W := by rw [← hW]; exact (Below.refl _ w).alloc (Nat.le_refl _) _
  have hs : W.heap.size = w.heap.size + 1 := by rw [← hW]; simp
  have ht : W.heap[w.heap.size]? = some (.cells (tbVal zTb (.slice none 0 0)) 47 (0, 0)) := by rw [← hW]; exact heap_alloc_last w _
  have HA := Lib.hid hA
  have HB := Lib.hid hB
  have HS := Lib.hid hs
  have HT := Lib.hid ht
  have HC := Lib.hid (tread_flat W t n N b off c h hn hN (by omega) hc1 hc2 fun j hj => (hB.cell (p := ⟨b, off + j, none⟩) hbl).trans (hA j hj))
  have HBY : Hid (tbBytes { t with mac := zero32 } = tbBytes t) := Lib.hid rfl
  clear h hn hN hA hB hs ht hup
  go_enter Tryz.func12, Tryz.ntmps12
  go_wp2_with fail
  rw [zTb_cells, hW]
  refine HC.out.mono ?_
  rintro e w2 ⟨A, c2, ys, rfl, hz2, he2, hb2⟩
  have hs0 := HS.out
  have HZ2 := Lib.hid hz2
  have HE2 := Lib.hid he2
  have HBW := Lib.hid (below_trans HB.out hb2)
  have HT2 : Hid (w2.heap[w.heap.size]? = some (.cells (tbVal zTb (.slice none 0 0)) 47 (0, 0))) := Lib.hid ((hb2.block _ (by omega)).trans HT.out)
  have hl2 : w.heap.size + 1 ≤ w2.heap.size := by have := hb2.size; omega
  clear hz2 he2 hb2 hW HC HB HS HT
  go_wp2_with (first
    | (with_reducible refine g_alloc 47 ?_; refine wpList_alloc_as rfl _ rfl (tbVal zTb (.slice none 0 0)) zTb_cells ?_)
    | (with_reducible refine g_store 47 ?_; refine wpList_store_new rfl _ _ _ rfl (tbVal { t with mac := zero32 } (.slice A n c2)) rfl rfl 47 (tbVal zTb (.slice none 0 0)) rfl (HSZ.out _) (HS0.out _) (tbVal_one _ _ _ _) ?_; intro W3 hb3 hl3 hr3; have HB3 := Lib.hid hb3; have HR3 := Lib.hid hr3; have HZ3 := Lib.hid (HZ2.out.below hb3); clear hb3 hr3)
    | (with_reducible refine g_load 47 ?_; refine wpList_load_Row rfl _ _ rfl w2.heap.size rfl (tbVal { t with mac := zero32 } (.slice A n c2)) HR3.out _ Tryz.underlying47 rfl (HSZ.out _) ?_))
  refine (tableBytes_flat { t with mac := zero32 } A n c2 W.heap.size ys W3 HF.out HE2.out.symm (by rw [← HN.out, ← HE2.out, List.length_map]) HZ3.out (HUP.out ys HE2.out)).mono ?_
  rintro e w4 ⟨⟨g4, c4, rfl, ho4⟩, hb4⟩
  rw [HBY.out, HNN.out] at ho4 ⊢
  have hb3w := HBW.out.trans (HB3.out.mono (by omega))
  have hb4w := hb3w.trans (hb4.mono (by omega))
  have HB4 := Lib.hid hb4w
  have HR4 : Hid (Row w4 w2.heap.size (tbVal { t with mac := zero32 } (.slice A n c2))) := Lib.hid (HR3.out.keep hb4)
  have HZ4 : Hid (ZsOwn W.heap.size w4 (.slice A n c2) ys) := Lib.hid (HZ3.out.below hb4)
  have HT4 : Hid (w4.heap[w.heap.size]? = some (.cells (tbVal zTb (.slice none 0 0)) 47 (0, 0))) := Lib.hid ((hb4.block _ (by omega)).trans ((HB3.out.block _ (by omega)).trans HT2.out))
  have h1 : BytesAt w4 w4.heap.size (some ⟨g4, 0, none⟩) (tbBytes t) := by
    obtain ⟨A', c', hv, _, _, _, hy⟩ := bytesAt_own (bs := tbBytes t) (by rw [HNN.out]; exact ho4)
    injection hv with e1 e2 e3
    subst e1
    exact hy
  have h2 : BytesAt w4 w.heap.size (some ⟨b, off, none⟩) (tbBytes t) := .inr ⟨b, off, rfl, hbl, fun j hj => (hb4w.cell (p := ⟨b, off + j, none⟩) hbl).trans (HA.out j (by have := HNN.out; omega))⟩
  have HEQ : Hid (Calls Tryz.prog 29 #[.slice (some ⟨g4, 0, none⟩) N c4, .slice (some ⟨b, off, none⟩) N c] w4 fun e w' => e = .returned (.bool true) ∧ w' = w4) := Lib.hid (by
    have h := bytesEqual_any w4 (some ⟨g4, 0, none⟩) (some ⟨b, off, none⟩) (tbBytes t) (tbBytes t) c4 c _ _ h1 h2
    rw [HNN.out] at h
    simpa using h)
  clear ho4 hb4 hb3w hb4w h1 h2 HB3 HR3 HZ3 HT2 HZ2 HBW
  go_wp2_with fail
  refine HEQ.out.mono ?_
  rintro e w5 ⟨rfl, rfl⟩
  go_wp2_with (first
    | (with_reducible refine g_load 47 ?_; refine wpList_load_Row rfl _ _ rfl w2.heap.size rfl (tbVal { t with mac := zero32 } (.slice A n c2)) HR4.out _ Tryz.underlying47 rfl (HSZ.out _) ?_)
    | (with_reducible refine g_store 47 ?_; refine wpList_store_row rfl _ _ _ rfl w.heap.size (tbVal { t with mac := zero32 } (.slice A n c2)) rfl rfl 47 (tbVal zTb (.slice none 0 0)) HT4.out (HSZ.out _) (HS0.out _) (tbVal_one _ _ _ _) ?_))
  refine bodyPost_ret (v := .tuple #[.agg (tbVal { t with mac := zero32 } (.slice A n c2)), I 0]) (results_row_tmp rfl _ _ w.heap.size _ (tbVal { t with mac := zero32 } (.slice A n c2)) (0, 0) _ rfl (setRow_heap _ _ _ _ _ _ HT4.out) Tryz.underlying47 rfl (HSZ.out _) _ rfl) rfl ?_
  refine ⟨A, c2, ys, rfl, (HZ4.out.of_blocks ?_ fun k h1 h2 => setRow_other _ _ k _ (by omega)).lower (by omega), HE2.out, below_setRow HB4.out (Nat.le_refl _) _⟩
  simp [World.setRow]
end Go.Proofs.YtbdkalpljhpnmaaGreat

/- kalendsref14.Seal, kalendsref14.Link. -/
namespace Go.Proofs.YtbdkalpljhpnmaaGreat
open Go Go.RowKit

def putQ (cs : Array Value) (o : Nat) : List Value → Array Value
  | [] => cs
  | v :: r => putQ (cs.setIfInBounds o v) (o + 1) r
theorem putQ_tail : ∀ (vs pre old : List Value), old.length = vs.length → putQ (pre ++ old).toArray pre.length vs = (pre ++ vs).toArray
  | [], pre, old, h => by
    have : old = [] := List.eq_nil_of_length_eq_zero h
    simp [putQ, this]
  | v :: r, pre, old, h => by
    obtain ⟨x, old', rfl⟩ : ∃ x old', old = x :: old' := by
      cases old with
      | nil => simp at h
      | cons x o => exact ⟨x, o, rfl⟩
    have h2 := putQ_tail r (pre ++ [v]) old' (by simpa using h)
    have e : (pre ++ x :: old').toArray.setIfInBounds pre.length v = ((pre ++ [v]) ++ old').toArray := by simp
    unfold putQ
    rw [e]
    simpa using h2
theorem setCells_blkQ : ∀ (vs : List Value) (w : World) (b o : Nat) (cs : Array Value) (t : TypeId), w.heap[b]? = some (.cells cs t (0, 0)) → (w.setCells b o vs).heap[b]? = some (.cells (putQ cs o vs) t (0, 0))
  | [], _, _, _, _, _, h => h
  | v :: r, w, b, o, _, t, h => setCells_blkQ r _ b (o + 1) _ t (heap_setCell_same w b o _ _ v h)
theorem setCells_otherQ : ∀ (vs : List Value) (w : World) (b o k : Nat), k ≠ b → (w.setCells b o vs).heap[k]? = w.heap[k]?
  | [], _, _, _, _, _ => rfl
  | v :: r, w, b, o, k, h => (setCells_otherQ r _ b (o + 1) k h).trans (heap_setCell_other w _ k v h)
theorem setCells_sizeQ : ∀ (vs : List Value) (w : World) (b o : Nat), (w.setCells b o vs).heap.size = w.heap.size
  | [], _, _, _ => rfl
  | v :: r, w, b, o => (setCells_sizeQ r _ b (o + 1)).trans (by simp [World.setCell])
theorem below_setCellsQ {B b : Nat} {w0 : World} (h : B ≤ b) : ∀ (vs : List Value) (w : World) (o : Nat), Below B w0 w → Below B w0 (w.setCells b o vs)
  | [], _, _, hb => hb
  | v :: r, _, o, hb => below_setCellsQ h r _ (o + 1) (hb.setCell (p := ⟨b, o, none⟩) h v)
theorem tb_preQ (t : Tb) (v : Value) : tbList t v = ([I t.issuer, I t.version, I t.withdraws, v] ++ refCells t.prev) ++ refCells t.mac := by simp [tbList]
theorem tb_macPutQ (t : Tb) (v : Value) (m : List UInt8) (hp : t.prev.length = 32) (h1 : t.mac.length = 32) (h2 : m.length = 32) : putQ (tbVal t v) 36 (refCells m) = tbVal { t with mac := m } v := by
  have h := putQ_tail (refCells m) ([I t.issuer, I t.version, I t.withdraws, v] ++ refCells t.prev) (refCells t.mac) (by simp [refCells, h1, h2])
  have hl : ([I t.issuer, I t.version, I t.withdraws, v] ++ refCells t.prev).length = 36 := by simp [refCells, hp]
  rw [hl] at h
  unfold tbVal
  rw [tb_preQ, tb_preQ]
  exact h
theorem tab_zero : (Tryz.prog.info? 47).map (fun i => (i.zero, i.size)) = some (some (.agg (tbVal zTb (.slice none 0 0))), (tbVal zTb (.slice none 0 0)).size) := by kernel_rfl
theorem dig_info3 (m : List UInt8) (h : m.length = 32) : (Tryz.prog.info? 29).map (·.size) = some (cD m).size := by rw [cD_size, h]; kernel_rfl
theorem tb14_len (t : Tb) (h : TbM t) (hp : t.prev.length = 32) : 0 < (tb14 t).length ∧ (tb14 t).length ≤ 400 := by
  have e := flat_le ze14 t.zones 103 t.zones.length (fun e he => ze14_le e (h.zones e he).made (by obtain ⟨j, hj⟩ := List.getElem?_of_mem he; rw [h.names j e hj, zname_size]; omega))
  rw [List.take_length] at e
  have h2 := h.num
  unfold tb14
  simp only [List.length_append, List.length_cons, List.length_nil, le_length, hp]
  omega
/-- The variables of Seal. -/
structure SlS (w : World) (ks ts : Array Value) (W : World) : Prop where
  k : AV w.heap.size 29 ks W
  t : AV (w.heap.size + 1) 47 ts W
  r : AV (w.heap.size + 2) 47 (tbVal zTb (.slice none 0 0)) W
  lo : Below w.heap.size w W
theorem SlS.start (w : World) (ks ts : Array Value) : SlS w ks ts (((w.alloc (.cells ks 29)).alloc (.cells ts 47)).alloc (.cells (tbVal zTb (.slice none 0 0)) 47)) := by
  obtain ⟨W, hW⟩ : ∃ W, (w.alloc (.cells ks 29)).alloc (.cells ts 47) = W := ⟨_, rfl⟩
  have hs : W.heap.size = w.heap.size + 2 := by rw [← hW]; simp
  have hb : Below w.heap.size w W := by rw [← hW]; exact below_trans (below_var w _) (below_var _ _)
  have h1 : AV w.heap.size 29 ks W := by rw [← hW]; exact ⟨heap_alloc2_old w _ _⟩
  have h2 : AV (w.heap.size + 1) 47 ts W := by rw [← hW]; exact ⟨heap_alloc2_new w _ _⟩
  have h3 := AV.new W (tbVal zTb (.slice none 0 0)) 47
  rw [hs] at h3
  rw [hW]
  exact ⟨h1.below (below_var W _), h2.below (below_var W _), h3, below_trans hb (below_var W _)⟩
theorem SlS.grow {w W W' : World} {ks ts : Array Value} (h : SlS w ks ts W) (hb : Below W.heap.size W W') : SlS w ks ts W' := ⟨h.k.below hb, h.t.below hb, h.r.below hb, below_trans h.lo hb⟩
theorem AV.setQ {b : Nat} {t : TypeId} {cs : Array Value} {W : World} (h : AV b t cs W) (o : Nat) (vs : List Value) : AV b t (putQ cs o vs) (W.setCells b o vs) := ⟨setCells_blkQ vs W b o cs t h.var⟩
theorem AV.farQ {b g : Nat} {t : TypeId} {cs : Array Value} {W : World} (h : AV b t cs W) (hn : b ≠ g) (o : Nat) (vs : List Value) : AV b t cs (W.setCells g o vs) := ⟨(setCells_otherQ vs W g o b hn).trans h.var⟩
theorem AV.there {b : Nat} {t : TypeId} {cs : Array Value} {W : World} (h : AV b t cs W) (o n : Nat) (hn : o + n ≤ cs.size) : W.there b o n := fun j hj => ⟨by rw [h.cell (o + j), Array.getElem?_eq_getElem (by omega)]; rfl, h.froz _⟩
def SealP (w : World) (t : Tb) (vz : Value) (e : Ending) (w' : World) : Prop :=
  ∃ d : List UInt8, d.length = 32 ∧ e = .returned (.tuple #[.agg (tbVal { t with mac := d } vz), .int .i64 0]) ∧ Below w.heap.size w w'
set_option maxRecDepth 10000 in
set_option maxHeartbeats 2000000 in
theorem seal14_r (key : List UInt8) (hk : key.length = 32) (x : TbV) (w : World) (hx : TbAt w w.heap.size x) (h : TbM x.t) :
    Calls Tryz.prog 18 #[.agg (cD key), .agg (tbVal x.t (.slice x.A x.zs.length x.c))] w (SealP w x.t (.slice x.A x.zs.length x.c)) := by
  obtain ⟨t, A, c, zs⟩ := x
  simp only at h ⊢
  have hp32 : t.prev.length = 32 := hx.prev
  have hm32 : t.mac.length = 32 := hx.mac
  obtain ⟨n, hn⟩ : ∃ n, zs.length = n := ⟨_, rfl⟩
  rw [hn]
  have HKL := Lib.hid hk
  have HP32 := Lib.hid hp32
  have HTL := Lib.hid (tb14_len t h hp32)
  have HBY : Hid (∀ W, Below w.heap.size w W → Calls Tryz.prog 31 #[.agg (tbVal t (.slice A n c))] W (By14 W t)) := Lib.hid (fun W hb => by rw [← hn]; exact bytes14_r ⟨t, A, c, zs⟩ W ((hx.keep hb).more hb.size) h)
  have HSZ : Hid (∀ v, (Tryz.prog.info? 47).map (·.size) = some (tbVal t v).size) := Lib.hid fun v => tb_info t v hp32 hm32
  have H0 := Lib.hid (SlS.start w (cD key) (tbVal t (.slice A n c)))
  have HTS : Hid ((tbVal t (.slice A n c)).size = 68) := Lib.hid (tb_size t _ hp32 hm32)
  have HPUT : Hid (∀ d : List UInt8, d.length = 32 → putQ (tbVal t (.slice A n c)) 36 (refCells d) = tbVal { t with mac := d } (.slice A n c)) := Lib.hid (fun d hd => tb_macPutQ t _ d hp32 hm32 hd)
  clear hx h hk hp32 hm32 hn
  go_enter Tryz.func18, Tryz.ntmps18
  go_upto_region 1 with (first
    | ((with_reducible refine g_alloc 47 ?_); go_must (refine wpList_alloc_nm rfl _ rfl (tbVal zTb (.slice none 0 0)) tab_zero ?_)))
  rw [show w.heap.size + 1 + 1 = w.heap.size + 2 from rfl]
  generalize ((w.alloc (.cells (cD key) 29)).alloc (.cells (tbVal t (.slice A n c)) 47)).alloc (.cells (tbVal zTb (.slice none 0 0)) 47) = W0 at H0 ⊢
  go_wp2_with ((with_reducible refine g_loa 47 ?_); go_must (refine wpList_load_nm rfl _ _ rfl (w.heap.size + 1) rfl (tbVal t (.slice A n c)) H0.out.t.rowU _ Tryz.underlying47 rfl (HSZ.out _) ?_))
  refine (HBY.out W0 H0.out.lo).mono ?_
  rintro e w1 ⟨A1, n1, c1, l1, rfl, o1, b1⟩
  have H1 := Lib.hid (H0.out.grow b1)
  have HL1 := Lib.hid l1
  have HC1 := Lib.hid (CellsAt.of_own o1)
  have hn0 : 0 < n1 := by rw [← l1]; exact HTL.out.1
  have hn1 : n1 ≤ 400 := by rw [← l1]; exact HTL.out.2
  clear l1 o1 b1 H0 HBY
  go_wp2_with ((with_reducible refine g_loa 29 ?_); go_must (refine wpList_load_nm rfl _ _ rfl w.heap.size rfl (cD key) H1.out.k.rowU _ Tryz.underlying29 rfl (dig_info3 _ HKL.out) ?_))
  refine (keyed_r key HKL.out n1 c1 A1 (tb14 t) w1 HL1.out hn0 (by omega) HC1.out).mono ?_
  rintro e w2 ⟨d, hd, rfl, hb2⟩
  have H2 := Lib.hid (H1.out.grow hb2)
  have HD := Lib.hid hd
  have HDI := Lib.hid (dig_info3 d hd)
  have HTH : Hid (w2.there (w.heap.size + 1) 36 (cD d).size) := Lib.hid (H2.out.t.there 36 _ (by rw [cD_size, hd, HTS.out]; omega))
  have H3 : Hid (SlS w (cD key) (tbVal { t with mac := d } (.slice A n c)) (w2.setCells (w.heap.size + 1) 36 (cD d).toList)) := Lib.hid (by
    have h := H2.out.t.setQ 36 (cD d).toList
    rw [show putQ _ 36 (cD d).toList = _ from HPUT.out d hd] at h
    exact ⟨H2.out.k.farQ (by omega) _ _, h, H2.out.r.farQ (by omega) _ _, below_setCellsQ (Nat.le_succ _) _ _ _ H2.out.lo⟩)
  have HS3 : Hid ((Tryz.prog.info? 47).map (·.size) = some (tbVal { t with mac := d } (.slice A n c)).size) := Lib.hid (tb_info { t with mac := d } _ HP32.out hd)
  have HE3 : Hid ((tbVal zTb (.slice none 0 0)).size = (tbVal { t with mac := d } (.slice A n c)).size) := Lib.hid ((tb_size zTb _ rfl rfl).trans (tb_size { t with mac := d } _ HP32.out hd).symm)
  clear hb2 hd H1 HC1
  obtain ⟨W3, hW3⟩ : ∃ W, w2.setCells (w.heap.size + 1) 36 (cD d).toList = W := ⟨_, rfl⟩
  rw [hW3] at H3
  have HW3 := Lib.hid hW3
  clear hW3
  go_wp2_with (first
    | ((with_reducible refine g_sto 29 ?_); go_must ((refine wpList_store_mid rfl _ _ _ rfl (w.heap.size + 1) 36 (cD d) rfl rfl HTH.out HDI.out (cD_one _) ?_); rw [HW3.out]))
    | ((with_reducible refine g_loa 47 ?_); go_must (refine wpList_load_nm rfl _ _ rfl (w.heap.size + 1) rfl (tbVal { t with mac := d } (.slice A n c)) H3.out.t.rowU _ Tryz.underlying47 rfl HS3.out ?_))
    | ((with_reducible refine g_sto 47 ?_); go_must (refine wpList_store_row rfl _ _ _ rfl (w.heap.size + 2) (tbVal { t with mac := d } (.slice A n c)) rfl rfl 47 (tbVal zTb (.slice none 0 0)) H3.out.r.var HS3.out HE3.out (tbVal_one _ _ _ _) ?_)))
  refine bodyPost_ret (v := .tuple #[.agg (tbVal { t with mac := d } (.slice A n c)), I 0]) (results_row_tmp rfl _ _ (w.heap.size + 2) _ (tbVal { t with mac := d } (.slice A n c)) (0, 0) _ rfl (setRow_heap _ _ _ _ _ _ H3.out.r.var) Tryz.underlying47 rfl HS3.out _ rfl) rfl ?_
  exact ⟨d, HD.out, rfl, below_setRow' H3.out.lo (Nat.le_succ_of_le (Nat.le_succ _)) _⟩
set_option maxRecDepth 10000 in
set_option maxHeartbeats 2000000 in
theorem link14_r (x : TbV) (w : World) (hx : TbAt w w.heap.size x) (h : TbM x.t) :
    Calls Tryz.prog 34 #[.agg (tbVal x.t (.slice x.A x.zs.length x.c))] w (DgP w) := by
  obtain ⟨t, A, c, zs⟩ := x
  simp only at h ⊢
  have hp32 : t.prev.length = 32 := hx.prev
  have hm32 : t.mac.length = 32 := hx.mac
  obtain ⟨n, hn⟩ : ∃ n, zs.length = n := ⟨_, rfl⟩
  rw [hn]
  have HP32 := Lib.hid hp32
  have HM32 := Lib.hid hm32
  have HTL := Lib.hid (tb14_len t h hp32)
  have HBY : Hid (∀ W, Below w.heap.size w W → Calls Tryz.prog 31 #[.agg (tbVal t (.slice A n c))] W (By14 W t)) := Lib.hid (fun W hb => by rw [← hn]; exact bytes14_r ⟨t, A, c, zs⟩ W ((hx.keep hb).more hb.size) h)
  have HSZ : Hid (∀ v, (Tryz.prog.info? 47).map (·.size) = some (tbVal t v).size) := Lib.hid fun v => tb_info t v hp32 hm32
  have H0 := Lib.hid (V2.start w 47 (tbVal t (.slice A n c)) 29 (cD d32))
  have HMI : Hid ((Tryz.prog.info? 29).map (·.size) = some (refCells t.mac).length) := Lib.hid (by simp only [refCells, List.length_map, hm32]; kernel_rfl)
  clear hx h hp32 hm32 hn
  go_enter Tryz.func34, Tryz.ntmps34
  go_upto_region 1 with (first
    | ((with_reducible refine g_alloc 29 ?_); go_must (refine wpList_alloc_nm rfl _ rfl (cD d32) d32_info ?_)))
  generalize (w.alloc (.cells (tbVal t (.slice A n c)) 47)).alloc (.cells (cD d32) 29) = W0 at H0 ⊢
  go_wp2_with ((with_reducible refine g_loa 47 ?_); go_must (refine wpList_load_nm rfl _ _ rfl w.heap.size rfl (tbVal t (.slice A n c)) H0.out.s.rowU _ Tryz.underlying47 rfl (HSZ.out _) ?_))
  refine (HBY.out W0 H0.out.lo).mono ?_
  rintro e w1 ⟨A1, n1, c1, l1, rfl, o1, b1⟩
  have H1 := Lib.hid (H0.out.grow b1)
  have HL1 := Lib.hid l1
  have HO1 := Lib.hid o1
  have hw0 := H0.out.r.lt
  have hs1 : W0.heap.size ≤ w1.heap.size := b1.size
  have hn0 : 0 < n1 := by rw [← l1]; exact HTL.out.1
  have hn1 : n1 ≤ 400 := by rw [← l1]; exact HTL.out.2
  have HM1 := Lib.hid (tb_mac t (.slice A n c) (Row.of_blk H1.out.s.var) HP32.out)
  clear l1 o1 b1 H0 HBY
  go_wp2_with ((with_reducible refine g_loa 29 ?_); go_must (refine wpList_load_Mid rfl _ _ rfl w.heap.size 36 rfl (refCells t.mac) HM1.out _ Tryz.underlying29 rfl HMI.out ?_))
  refine (bytes03_r t.mac w1 HM32.out).mono ?_
  rintro e w2 ⟨A2, n2, c2, l2, rfl, o2, k2⟩
  have hn2 : n2 = 32 := by rw [← l2, HM32.out]
  subst hn2
  have H2 := Lib.hid (H1.out.grow k2.nilB)
  have HO2 := Lib.hid (HO1.out.below k2.nilB)
  have HC2 := Lib.hid (CellsAt.of_own o2)
  have hs2 : W0.heap.size ≤ w2.heap.size := Nat.le_trans hs1 k2.size
  clear o2 k2 l2 H1 HO1 HM1
  go_wp2_with (at_builtin; go_must (refine wpList_app_bs rfl _ _ rfl W0.heap.size n1 c1 A1 (tb14 t) rfl HO2.out _ A2 32 c2 t.mac rfl HM32.out (by omega) HC2.out (by omega) hs2 ?_))
  intro A3 c3 w3 o3 k3
  have H3 := Lib.hid (H2.out.growL (k3.lowB HO2.out.base hs2) hw0)
  have HO3 := Lib.hid o3
  clear o3 k3 H2 HO2 HC2
  go_wp2_with fail
  refine (sum_r (n1 + 32) c3 A3 (tb14 t ++ t.mac) w3 (by rw [List.length_append, HL1.out, HM32.out]) (by omega) (by omega) (CellsAt.of_own HO3.out)).mono ?_
  rintro e w4 ⟨d, hd, rfl, hb4⟩
  have H4 := Lib.hid (H3.out.grow hb4)
  have HD := Lib.hid hd
  have HDE : Hid ((cD d32).size = (cD d).size) := Lib.hid (by rw [cD_size, cD_size, hd, d32_len])
  clear H3 HO3 hb4 hd
  go_wp2_with ((with_reducible refine g_sto 29 ?_); go_must (refine wpList_store_row rfl _ _ _ rfl (w.heap.size + 1) (cD d) rfl rfl 29 (cD d32) H4.out.r.var (dig_info3 _ HD.out) HDE.out (cD_one _) ?_))
  refine bodyPost_ret (v := .agg (cD d)) (results_cell_row rfl _ _ (w.heap.size + 1) _ (cD d) (0, 0) _ rfl (setRow_heap _ _ _ _ _ _ H4.out.r.var) Tryz.underlying29 rfl (dig_info3 _ HD.out)) rfl ?_
  exact ⟨d, HD.out, rfl, below_setRow' H4.out.lo (Nat.le_succ _) _⟩
end Go.Proofs.YtbdkalpljhpnmaaGreat

/- kalendsref13.Made. -/
namespace Go.Proofs.YtbdkalpljhpnmaaGreat
open Go Go.RowKit

theorem made_any (x : RwZ) (G O : Option Addr) (gc oc : Nat) (w : World) (hgl : x.gaps.length ≤ 9223372036854775807) (hol : x.offs.length ≤ 9223372036854775807) (hg : CellsAt w w.heap.size G (x.gaps.map Extern.Stop.cell)) (ho : CellsAt w w.heap.size O (x.offs.map Extern.Stop.cell)) :
    Calls Tryz.prog 33 #[.agg (rwCells x G O gc oc)] w (MadeL w (madeZn x)) := by
  rcases Nat.mod_two_eq_zero_or_one x.cal.toNat with h | h
  · exact made_0 x G O gc oc w h hgl hol hg ho
  · exact made_1 x G O gc oc w h hgl hol hg ho
end Go.Proofs.YtbdkalpljhpnmaaGreat

/- kalendsref14.Next: the data, the state. -/
namespace Go.Proofs.YtbdkalpljhpnmaaGreat
open Go Go.RowKit

/-- A zone's data as they lie. -/
structure RwV where
  x : RwZ
  G : Option Addr
  O : Option Addr
  gc : Nat
  oc : Nat
def RwV.cells (v : RwV) : List Value := (rwCells v.x v.G v.O v.gc v.oc).toList
theorem RwV.cells_len (v : RwV) : v.cells.length = 14 := rfl
structure RwAt (w : World) (B : Nat) (v : RwV) : Prop where
  gl : v.x.gaps.length ≤ 9223372036854775807
  ol : v.x.offs.length ≤ 9223372036854775807
  g : CellsAt w B v.G (v.x.gaps.map Extern.Stop.cell)
  o : CellsAt w B v.O (v.x.offs.map Extern.Stop.cell)
theorem RwAt.keep {w w' : World} {B : Nat} {v : RwV} (h : RwAt w B v) (hb : Below B w w') : RwAt w' B v := ⟨h.gl, h.ol, h.g.keep hb, h.o.keep hb⟩
theorem RwAt.more {w : World} {B B' : Nat} {v : RwV} (h : RwAt w B v) (hB : B ≤ B') : RwAt w B' v := ⟨h.gl, h.ol, h.g.more hB, h.o.more hB⟩
/-- A version's description. -/
structure ItV where
  A : Option Addr
  c : Nat
  vs : List RwV
  wd : UInt8
def ItV.cells (x : ItV) : Array Value := #[.slice x.A x.vs.length x.c, Extern.Stop.cell x.wd]
structure ItAt (w : World) (B : Nat) (x : ItV) : Prop where
  len : x.vs.length ≤ 9223372036854775807
  row : CellsAt w B x.A (x.vs.flatMap RwV.cells)
  each : ∀ v ∈ x.vs, RwAt w B v
theorem ItAt.keep {w w' : World} {B : Nat} {x : ItV} (h : ItAt w B x) (hb : Below B w w') : ItAt w' B x := ⟨h.len, h.row.keep hb, fun v hv => (h.each v hv).keep hb⟩
theorem ItAt.more {w : World} {B B' : Nat} {x : ItV} (h : ItAt w B x) (hB : B ≤ B') : ItAt w B' x := ⟨h.len, h.row.more hB, fun v hv => (h.each v hv).more hB⟩
/-- A list in memory from lo on, beside the own list v. -/
def LV (lo : Nat) (v : Value) (W : World) (A : Option Addr) (cs : List Value) : Prop :=
  cs.length = 0 ∨ ∃ b off, A = some ⟨b, off, none⟩ ∧ lo ≤ b ∧ b < W.heap.size ∧ some b ≠ v.ownBlock ∧ ∀ j u, cs[j]? = some u → W.cell? ⟨b, off + j, none⟩ = some u
theorem LV.keep {lo : Nat} {v v' : Value} {W W' : World} {A : Option Addr} {cs : List Value} (h : LV lo v W A cs) (hs : W.heap.size ≤ W'.heap.size) (hb : ∀ b, lo ≤ b → b < W.heap.size → some b ≠ v.ownBlock → W'.heap[b]? = W.heap[b]? ∧ some b ≠ v'.ownBlock) : LV lo v' W' A cs := by
  rcases h with h | ⟨b, off, h1, h2, h3, h4, h5⟩
  · exact .inl h
  · exact .inr ⟨b, off, h1, h2, by omega, (hb b h2 h3 h4).2, fun j u hu => (World.cell?_of_block (a := ⟨b, off + j, none⟩) (hb b h2 h3 h4).1).trans (h5 j u hu)⟩
theorem LV.of {lo lo' : Nat} {v : Value} {W : World} {A : Option Addr} {cs : List Value} (h : CellsAt W W.heap.size A cs) (h2 : LowA lo' A cs) (hlo : lo ≤ lo') (hv : ∀ b, lo' ≤ b → some b ≠ v.ownBlock) : LV lo v W A cs := by
  rcases h with h | ⟨b, off, e, hb, hc⟩
  · exact .inl h
  · rcases h2 with h2 | ⟨b2, off2, e2, hl⟩
    · exact .inl h2
    · rw [e] at e2
      injection e2 with e2
      injection e2 with e3 e4
      subst e3
      exact .inr ⟨b, off, e, by omega, hb, hv b hl, hc⟩
theorem LV.at {lo : Nat} {v : Value} {W : World} {A : Option Addr} {cs : List Value} (h : LV lo v W A cs) : CellsAt W W.heap.size A cs := by
  rcases h with h | ⟨b, off, h1, h2, h3, h4, h5⟩
  · exact .inl h
  · exact .inr ⟨b, off, h1, h3, h5⟩
def ZnMem (lo : Nat) (v : Value) (W : World) (s : Zs) (z : Zn) : Prop := LV lo v W s.A (z.cal.months.map I) ∧ LV lo v W s.B (z.cal.rules.flatMap Lr.cells) ∧ LV lo v W s.C (z.trans.flatMap Tr.cells) ∧ LV lo v W s.D (z.yearly.flatMap Yr.cells)
theorem ZnMem.keep {lo : Nat} {v v' : Value} {W W' : World} {s : Zs} {z : Zn} (h : ZnMem lo v W s z) (hs : W.heap.size ≤ W'.heap.size) (hb : ∀ b, lo ≤ b → b < W.heap.size → some b ≠ v.ownBlock → W'.heap[b]? = W.heap[b]? ∧ some b ≠ v'.ownBlock) : ZnMem lo v' W' s z :=
  ⟨h.1.keep hs hb, h.2.1.keep hs hb, h.2.2.1.keep hs hb, h.2.2.2.keep hs hb⟩
theorem ZnMem.of {lo lo' : Nat} {v : Value} {W : World} {s : Zs} {z : Zn} (h : ZnAt W W.heap.size s z) (h2 : ZnLow lo' s z) (hlo : lo ≤ lo') (hv : ∀ b, lo' ≤ b → some b ≠ v.ownBlock) : ZnMem lo v W s z :=
  ⟨.of h.months h2.1 hlo hv, .of h.rules h2.2.1 hlo hv, .of h.trans h2.2.2.1 hlo hv, .of h.yearly h2.2.2.2 hlo hv⟩
theorem ZnMem.at {lo : Nat} {v : Value} {W : World} {s : Zs} {z : Zn} (h : ZnMem lo v W s z) : ZnAt W W.heap.size s z := ⟨h.1.at, h.2.1.at, h.2.2.1.at, h.2.2.2.at⟩
/-- Next under way: the item, the result, the table so far. -/
structure NxW (w : World) (ib : Array Value) (T : Tb) (k : Nat) (Az : Option Addr) (cz : Nat) (ys : List ZeV) (W : World) : Prop where
  it : AV w.heap.size 67 ib W
  r : AV (w.heap.size + 1) 47 (tbVal zTb (.slice none 0 0)) W
  t : AV (w.heap.size + 2) 47 (tbVal T (.slice Az k cz)) W
  lo : Below w.heap.size w W
  own : W.ownsRow (w.heap.size + 3) 73 9 (.slice Az k cz) k (zecells ys)
  mem : ∀ y ∈ ys, ZnMem (w.heap.size + 3) (.slice Az k cz) W y.s y.e.z
section
variable {w W W' : World} {ib : Array Value} {T : Tb} {k cz : Nat} {Az : Option Addr} {ys : List ZeV}
theorem NxW.grow (h : NxW w ib T k Az cz ys W) (hb : Below W.heap.size W W') : NxW w ib T k Az cz ys W' :=
  ⟨h.it.below hb, h.r.below hb, h.t.below hb, below_trans h.lo hb, own_below h.own hb, fun y hy => (h.mem y hy).keep hb.size fun b _ h2 h3 => ⟨hb.block b h2, h3⟩⟩
theorem NxW.drew (h : NxW w ib T k Az cz ys W) : NxW w ib T k Az cz ys W.drew := h.grow ((Below.refl _ W).drew)
theorem NxW.lt (h : NxW w ib T k Az cz ys W) : w.heap.size + 2 < W.heap.size := h.t.lt
theorem NxW.ownlt (h : NxW w ib T k Az cz ys W) : ∀ b, W.heap.size ≤ b → some b ≠ (Value.slice Az k cz).ownBlock := fun b hb e => by
  have := World.ownsRow.lt h.own b e.symm
  omega
theorem NxW.add {Wb w6 : World} {gg cap : Nat} {y : ZeV} (h : NxW w ib T k Az cz ys W) (hy : ZnMem (w.heap.size + 3) (.slice Az k cz) W y.s y.e.z) (hWb : Wb = W.alloc (.cells y.cells 73))
    (hown : w6.ownsRow (w.heap.size + 3) 73 9 (.slice (some ⟨gg, 0, none⟩) (k + 1) cap) (k + 1) (zecells ys ++ y.cells.toList)) (hg : Wb.grownBy w6 (Value.slice Az k cz).ownBlock) (hat : (Value.slice Az k cz).ownBlock = some gg ∨ gg = Wb.heap.size) :
    NxW w ib T (k + 1) (some ⟨gg, 0, none⟩) cap (ys ++ [y]) (w6.setCell ⟨w.heap.size + 2, 3, none⟩ (.slice (some ⟨gg, 0, none⟩) (k + 1) cap)) := by
  have hsb : Wb.heap.size = W.heap.size + 1 := by rw [hWb]; simp
  have hlt := h.lt
  have hs6 : W.heap.size ≤ w6.heap.size := by have := hg.size; omega
  have hbl : ∀ b, b < W.heap.size → some b ≠ (Value.slice Az k cz).ownBlock → w6.heap[b]? = W.heap[b]? := fun b hb hn =>
    (hg.block b (by omega) hn).trans (by rw [hWb]; exact Below.heap_alloc W _ b hb)
  have hlow : ∀ b, b < w.heap.size + 3 → some b ≠ (Value.slice Az k cz).ownBlock := own_ge h.own
  have hgg := own_low hown
  have hset : ∀ b, b ≠ w.heap.size + 2 → (w6.setCell ⟨w.heap.size + 2, 3, none⟩ (.slice (some ⟨gg, 0, none⟩) (k + 1) cap)).heap[b]? = w6.heap[b]? := fun b hb => heap_setCell_other w6 ⟨w.heap.size + 2, 3, none⟩ b _ hb
  have hsz : (w6.setCell ⟨w.heap.size + 2, 3, none⟩ (.slice (some ⟨gg, 0, none⟩) (k + 1) cap)).heap.size = w6.heap.size := by simp [World.setCell]
  have hmm : ∀ b, w.heap.size + 3 ≤ b → b < W.heap.size → some b ≠ (Value.slice Az k cz).ownBlock → (w6.setCell ⟨w.heap.size + 2, 3, none⟩ (.slice (some ⟨gg, 0, none⟩) (k + 1) cap)).heap[b]? = W.heap[b]? ∧ some b ≠ (Value.slice (some ⟨gg, 0, none⟩) (k + 1) cap).ownBlock := fun b h1 h2 h3 => by
    refine ⟨(hset b (by omega)).trans (hbl b h2 h3), fun e => ?_⟩
    have e2 : b = gg := by simpa [Value.ownBlock] using e
    rcases hat with e3 | e3
    · exact h3 (by rw [e2]; exact e3.symm)
    · omega
  refine ⟨⟨(hset _ (by omega)).trans ((hbl _ (by omega) (hlow _ (by omega))).trans h.it.var)⟩, ⟨(hset _ (by omega)).trans ((hbl _ (by omega) (hlow _ (by omega))).trans h.r.var)⟩, ?_, ?_, ?_, ?_⟩
  · have h1 : AV (w.heap.size + 2) 47 (tbVal T (.slice Az k cz)) w6 := ⟨(hbl _ (by omega) (hlow _ (by omega))).trans h.t.var⟩
    have h2 := h1.put 3 (.slice (some ⟨gg, 0, none⟩) (k + 1) cap)
    rw [tbVal_zones] at h2
    exact h2
  · have h1 : Below w.heap.size w Wb := by rw [hWb]; exact below_trans h.lo (below_var W _)
    have hob : Wb.ownsRow (w.heap.size + 3) 73 9 (.slice Az k cz) k (zecells ys) := by rw [hWb]; exact own_below h.own (below_var W _)
    exact (below_grown' h1 (ownsRow_base' hob (by omega)) (by omega) hg).setCell (p := ⟨w.heap.size + 2, 3, none⟩) (show w.heap.size ≤ w.heap.size + 2 by omega) _
  · have h1 := ownsRow_far (p := ⟨w.heap.size + 2, 3, none⟩) (u := .slice (some ⟨gg, 0, none⟩) (k + 1) cap) hown (fun e => absurd (show w.heap.size + 2 = gg by simpa [Value.ownBlock] using e) (by omega))
    have e : zecells (ys ++ [y]) = zecells ys ++ y.cells.toList := by simp [zecells]
    rw [e]
    exact h1
  · intro y' hy'
    rcases List.mem_append.1 hy' with h1 | h1
    · exact (h.mem y' h1).keep (by rw [hsz]; exact hs6) hmm
    · obtain rfl := List.mem_singleton.1 h1
      exact hy.keep (by rw [hsz]; exact hs6) hmm
theorem NxW.tb (h : NxW w ib T k Az cz ys W) (hp : T.prev.length = 32) (hm : T.mac.length = 32) : TbAt W W.heap.size ⟨{ T with zones := ys.map (·.e) }, Az, cz, ys⟩ :=
  ⟨rfl, hp, hm, ⟨CellsAt.of_own h.own, fun y hy => (h.mem y hy).at⟩⟩
end
theorem conv_row (W : World) (bb : Nat) (x : Int) (h : W.heap[bb]? = some (.cells #[.int .u8 x] 5 (0, 0))) : (convert 23 9 (.slice (some ⟨bb, 0, none⟩) 1 1)).run Tryz.prog W = .ok (.string ⟨#[UInt8.ofNat x.toNat]⟩) W := by
  have e : (⟨#[UInt8.ofNat x.toNat]⟩ : ByteArray) = strOfNums [x] := rfl
  rw [e]
  refine run_convert_bytes_arg _ _ _ Tryz.underlying23 Tryz.underlying5 bb 0 1 1 [x] rfl (fun i hi => ?_) _ Tryz.underlying9
  have : i = 0 := by omega
  subst this
  exact cell_of_row W bb 0 _ _ _ h
theorem zname_app (k : Nat) : (⟨#[122]⟩ : ByteArray) ++ ⟨#[UInt8.ofNat (97 + (k : Int)).toNat]⟩ = zname k := by
  have e : (97 + (k : Int)).toNat = 97 + k := by omega
  rw [e]
  rfl
/-- The zones that are made of data. -/
def nxZes (vs : List RwV) : List Ze := (vs.take 3).mapIdx fun i v => ⟨zname i, madeZn v.x⟩
theorem nxZes_snoc (vs : List RwV) (k : Nat) (v : RwV) (hv : vs[k]? = some v) : (vs.take (k + 1)).mapIdx (fun i v => (⟨zname i, madeZn v.x⟩ : Ze)) = (vs.take k).mapIdx (fun i v => (⟨zname i, madeZn v.x⟩ : Ze)) ++ [⟨zname k, madeZn v.x⟩] := by
  have hk := (List.getElem?_eq_some_iff.1 hv).1
  have e : vs.take (k + 1) = vs.take k ++ [v] := by
    rw [List.take_add_one, hv]
    rfl
  rw [e, List.mapIdx_append]
  simp [List.length_take, Nat.min_eq_left (Nat.le_of_lt hk)]
end Go.Proofs.YtbdkalpljhpnmaaGreat
