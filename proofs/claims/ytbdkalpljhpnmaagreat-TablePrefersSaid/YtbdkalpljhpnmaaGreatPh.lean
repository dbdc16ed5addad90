/- table.Zone, table.Version. -/
import Derived.Test.YtbdkalpljhpnmaaGreatPg
import Derived.BigQuiet
import Derived.Deep.AppendLies
import Derived.Deep.CutBlock
import Derived.Deep.DeepCutAuto
import Derived.Deep.DrawnRows
import Derived.Deep.MidRow
import Derived.Deep.QuietTactic
import Derived.Deep.RegionHeld3
import Derived.Deep.RegionLaw
import Derived.Deep.WholeRow
import Derived.Great.BuildSlice
import Derived.Laws.BytesString
import Derived.Laws.CopyOwn
import Derived.Laws.EntriesVeiled
import Derived.Laws.MakeOwn
import Derived.Laws.ResultCell
import Derived.Laws.Rows
import Derived.Laws.Tables
import Derived.Lib.Hide
import Derived.LoopIn
import Derived.LoopNIn
import Derived.Maps.AppendAt
import Derived.Outline
import Derived.OwnWalkIn
import Derived.RangeFuncBound
import Derived.RangeFuncBox
import Derived.RangeFuncCalls
import Derived.RangeFuncLeaves
import Derived.RangeFuncNested
import Derived.Shelf.Abstract
import Derived.Shelf.Bytes.SlSmallAll
import Derived.Shelf.RegionOpen
import Derived.StillTailTactics
import Derived.Stop.BytesEq
import Derived.TacticsInMore
import Derived.WalkKit
import Derived.WalkLawsBesides
import Derived.WalkSpells
namespace Go.Proofs.YtbdkalpljhpnmaaGreat
open Go Go.RowKit

theorem ze_size (x : ZeV) : (Tryz.prog.info? 73).map (·.size) = some x.cells.size := by kernel_rfl
theorem ze_get0 (x : ZeV) : x.cells[0]? = some (.string x.e.name) := rfl
theorem zz_size : (Tryz.prog.info? 41).map (·.size) = some zZn.size := by kernel_rfl
theorem zz_one : zZn.all (·.oneCell') = true := by kernel_rfl
attribute [local go_sem] ze_get0 tb_get3
set_option maxRecDepth 10000 in
set_option maxHeartbeats 1000000 in
theorem zoneIs_any (x : ZeV) (nb : Nat) (name : ByteArray) (w : World) (hb : nb < w.heap.size) (hc : w.cell? ⟨nb, 0, none⟩ = some (.string name)) :
    Calls Tryz.prog 23 #[.agg x.cells, pt nb] w (Gives (.bool (x.e.name.toList == name.toList)) w) := by
  have HB := Lib.hid (below_var w (.cells x.cells 73))
  have hc2 := (HB.out.cell (p := ⟨nb, 0, none⟩) hb).trans hc
  have hr := (Row.new w x.cells 73).2 0
  go_enter Tryz.func23, Tryz.ntmps23
  go_wp2_with fail
  go_ret
  exact ⟨rfl, HB.out⟩
def nmEq (a b : ByteArray) : Bool := a.toList == b.toList
def IxP (w : World) (zs : List ZeV) (name : ByteArray) (e : Ending) (w' : World) : Prop :=
  ∃ v, e = .returned (I v) ∧ Below w.heap.size w w' ∧ ((v = -1 ∧ ∀ (j : Nat) (y : ZeV), zs[j]? = some y → nmEq y.e.name name = false) ∨ ∃ (i : Nat) (x : ZeV), v = (i : Int) ∧ zs[i]? = some x ∧ nmEq x.e.name name = true ∧ ∀ (j : Nat) (y : ZeV), j < i → zs[j]? = some y → nmEq y.e.name name = false)
def IxRel (w : World) (zs : List ZeV) (name : ByteArray) (n : Nat) (i : Value) (wr : World) : Prop := ∃ k : Nat, k ≤ n ∧ i = .int .i64 k ∧ (∀ (j : Nat) (y : ZeV), j < k → zs[j]? = some y → nmEq y.e.name name = false) ∧ Below w.heap.size w wr
set_option maxRecDepth 10000 in
set_option maxHeartbeats 2000000 in
theorem indexZ_any (A : Option Addr) (c n : Nat) (zs : List ZeV) (nb : Nat) (name : ByteArray) (w : World) (hn : zs.length = n) (hn1 : n ≤ 100000) (h : CellsAt w w.heap.size A (zecells zs)) (hb : nb < w.heap.size) (hc : w.cell? ⟨nb, 0, none⟩ = some (.string name)) :
    Calls Tryz.prog 22 #[.slice A n c, .func (.func 23) #[] #[pt nb]] w (IxP w zs name) := by
  have HN := Lib.hid hn
  have HC := Lib.hid h
  clear hn h
  go_enter Tryz.func22, Tryz.ntmps22
  go_wp2_with fail
  go_loopw [8] (fun i wr => IxRel w zs name n i wr) (fun i _ => n - (intOf i).toNat)
  case atStart => exact ⟨0, Nat.zero_le _, rfl, fun j y hj => absurd hj (Nat.not_lt_zero _), Below.refl _ _⟩
  case round =>
    obtain ⟨k, hk, rfl, hall, hbl⟩ := hrel
    have HALL := Lib.hid hall
    have HB := Lib.hid hbl
    clear hall hbl
    by_cases hlt : k < n
    · have hkl : k < zs.length := by rw [HN.out]; exact hlt
      obtain ⟨x, hx⟩ : ∃ x, zs[k]? = some x := ⟨_, List.getElem?_eq_getElem hkl⟩
      obtain ⟨b, off, rfl, hbw, hcl⟩ := HC.out.there (by rw [zecells_len]; omega)
      have HX := Lib.hid hx
      have HCX : Hid (wr.rangeAt b (off + k * 9) x.cells.toList) := Lib.hid fun j u hu => by
        have hj : j < 9 := (List.getElem?_eq_some_iff.1 hu).1
        rw [Nat.add_assoc]
        refine (HB.out.cell (p := ⟨b, off + (k * 9 + j), none⟩) hbw).trans (hcl _ u ?_)
        rw [zecells_get zs k j x hx hj]
        simpa using hu
      have hlt2 : nb < wr.heap.size := Nat.lt_of_lt_of_le hb HB.out.size
      have hc2 : wr.cell? ⟨nb, 0, none⟩ = some (.string name) := (HB.out.cell (p := ⟨nb, 0, none⟩) hb).trans hc
      have HZ := Lib.hid (zoneIs_any x nb name wr hlt2 hc2)
      have i0 : (0 : Int) ≤ (k : Int) := by omega
      have i1 : (k : Int) < (n : Int) := by omega
      clear hkl hx hcl hlt2 hc2
      cases hq : nmEq x.e.name name
      · have HQ := Lib.hid hq
        clear hq
        go_wp2_with ((with_reducible refine g_load 73 ?_); refine wpList_load_mid rfl _ _ rfl b (off + k * 9) rfl x.cells.toList _ HCX.out Tryz.underlying73 rfl (ze_size x) ?_)
        refine HZ.out.mono ?_
        rintro e w2 ⟨rfl, hb2⟩
        rw [show (x.e.name.toList == name.toList) = false from HQ.out]
        have HB2 := Lib.hid (below_trans HB.out hb2)
        clear hb2
        go_wp2_with fail
        go_roundw
        case rel =>
          refine ⟨k + 1, by omega, by go_num, fun j y hj hy => ?_, HB2.out⟩
          by_cases e : j = k
          · subst e
            have h1 := HX.out
            rw [hy] at h1
            injection h1 with h1
            rw [h1]
            exact HQ.out
          · exact HALL.out j y (by omega) hy
        case measure => simp [intOf]; omega
      · have HQ := Lib.hid hq
        clear hq
        go_wp2_with ((with_reducible refine g_load 73 ?_); refine wpList_load_mid rfl _ _ rfl b (off + k * 9) rfl x.cells.toList _ HCX.out Tryz.underlying73 rfl (ze_size x) ?_)
        refine HZ.out.mono ?_
        rintro e w2 ⟨rfl, hb2⟩
        rw [show (x.e.name.toList == name.toList) = true from HQ.out]
        have HB2 := Lib.hid (below_trans HB.out hb2)
        clear hb2
        go_wp2_with fail
        go_ret
        exact ⟨_, rfl, HB2.out, .inr ⟨k, x, rfl, HX.out, HQ.out, HALL.out⟩⟩
    · have hke : k = n := by omega
      have HKE := Lib.hid hke
      have hnl : ¬ (k : Int) < (n : Int) := by omega
      clear hke hlt
      go_wp2_with fail
      go_ret
      exact ⟨_, rfl, HB.out, .inl ⟨rfl, fun j y hy => HALL.out j y (by have h1 := (List.getElem?_eq_some_iff.1 hy).1; have := HN.out; have := HKE.out; omega) hy⟩⟩
/-- The first zone with a name. -/
def zFind (zs : List Ze) (name : ByteArray) : Option Zn := (zs.find? fun e => nmEq e.name name).map (·.z)
theorem zFind_some {zs : List ZeV} {i : Nat} {x : ZeV} {name : ByteArray} (hx : zs[i]? = some x) (h : nmEq x.e.name name = true) (hall : ∀ (j : Nat) (y : ZeV), j < i → zs[j]? = some y → nmEq y.e.name name = false) : zFind (zs.map (·.e)) name = some x.e.z := by
  induction zs generalizing i with
  | nil => cases hx
  | cons y zs ih =>
    unfold zFind
    rw [List.map_cons, List.find?_cons]
    cases i with
    | zero =>
      injection hx with hx
      subst hx
      rw [h]
      rfl
    | succ i =>
      rw [hall 0 y (Nat.succ_pos _) rfl]
      exact ih (i := i) hx fun j z hj hz => hall (j + 1) z (by omega) hz
theorem zFind_none {zs : List ZeV} {name : ByteArray} (hall : ∀ (j : Nat) (y : ZeV), zs[j]? = some y → nmEq y.e.name name = false) : zFind (zs.map (·.e)) name = none := by
  induction zs with
  | nil => rfl
  | cons y zs ih =>
    unfold zFind
    rw [List.map_cons, List.find?_cons, hall 0 y rfl]
    exact ih fun j z hz => hall (j + 1) z hz
def ZoneP (w : World) (zs : List Ze) (name : ByteArray) (e : Ending) (w' : World) : Prop :=
  Below w.heap.size w w' ∧ ((zFind zs name = none ∧ e = .returned (.tuple #[.agg zZn, I 4])) ∨ ∃ z s, zFind zs name = some z ∧ e = .returned (.tuple #[.agg (znCells z s), I 0]) ∧ ZnO w.heap.size w' s z ∧ ∃ e ∈ zs, e.z = z)
/-- table.Zone's own variables. -/
structure ZnV (w : World) (cs : Array Value) (name : ByteArray) (W : World) : Prop where
  tab : W.heap[w.heap.size]? = some (.cells cs 47 (0, 0))
  nm : W.heap[w.heap.size + 1]? = some (.cells #[.string name] 9 (0, 0))
  res : W.heap[w.heap.size + 2]? = some (.cells zZn 41 (0, 0))
  up : Below w.heap.size w W
theorem ZnV.start (w : World) (cs : Array Value) (name : ByteArray) : ZnV w cs name (((w.alloc (.cells cs 47)).alloc (.cells #[.string name] 9)).alloc (.cells zZn 41)) := by
  refine ⟨(Below.heap_alloc _ _ _ (by simp; omega)).trans (heap_alloc2_old w _ _), ?_, ?_, below_trans (below_trans (below_var w _) (below_var _ _)) (below_var _ _)⟩
  · exact (Below.heap_alloc _ _ _ (by simp)).trans (heap_alloc2_new w _ _)
  · have h := heap_alloc_last ((w.alloc (.cells cs 47)).alloc (.cells #[.string name] 9)) (.cells zZn 41)
    rw [World.size_alloc, World.size_alloc] at h
    exact h
theorem ZnV.lt {w W : World} {cs : Array Value} {name : ByteArray} (h : ZnV w cs name W) : w.heap.size + 2 < W.heap.size := (Array.getElem?_eq_some_iff.1 h.res).1
theorem ZnV.grow {w W W' : World} {cs : Array Value} {name : ByteArray} (h : ZnV w cs name W) (hb : Below W.heap.size W W') : ZnV w cs name W' := by
  have hl := h.lt
  exact ⟨(hb.block _ (by omega)).trans h.tab, (hb.block _ (by omega)).trans h.nm, (hb.block _ hl).trans h.res, below_trans h.up hb⟩
set_option maxRecDepth 10000 in
set_option maxHeartbeats 2000000 in
theorem zone_any (x : TbV) (n : Nat) (name : ByteArray) (w : World) (hn : x.zs.length = n) (hn1 : n ≤ 1000) (hl : ∀ y ∈ x.zs, ZnLen y.e.z) (h : TbAt w w.heap.size x) :
    Calls Tryz.prog 8 #[.agg (tbVal x.t (.slice x.A n x.c)), .string name] w (ZoneP w x.t.zones name) := by
  have HV := Lib.hid (ZnV.start w (tbVal x.t (.slice x.A n x.c)) name)
  have HN := Lib.hid hn
  have HL := Lib.hid hl
  have HT := Lib.hid h
  clear hn hl h
  go_enter Tryz.func8, Tryz.ntmps8
  go_wp2_with (with_reducible refine g_alloc 41 ?_; refine wpList_alloc_as rfl _ rfl zZn (by kernel_rfl) ?_)
  generalize ((w.alloc (.cells (tbVal x.t (.slice x.A n x.c)) 47)).alloc (.cells #[.string name] 9)).alloc (.cells zZn 41) = W1 at HV ⊢
  have hlt := HV.out.lt
  refine (show Calls Tryz.prog _ _ W1 _ from indexZ_any x.A x.c n x.zs (w.heap.size + 1) name W1 HN.out (by omega) ((HT.out.zones.row.keep HV.out.up).more HV.out.up.size) (by omega) (cell_of_row W1 _ 0 _ _ _ HV.out.nm)).mono ?_
  rintro e w2 ⟨v, rfl, hb2, hv⟩
  have HV2 := Lib.hid (HV.out.grow hb2)
  clear hb2 hlt
  rcases hv with ⟨rfl, hno⟩ | ⟨i, y, rfl, hy, hyes, hall⟩
  · have HNO := Lib.hid (zFind_none hno)
    clear hno
    go_wp2_with (first
      | ((with_reducible refine pb_build 41 ?_); refine wpList_build_as rfl _ rfl zZn (by kernel_rfl) ?_)
      | ((with_reducible refine g_store 41 ?_); refine wpList_store_row rfl _ _ _ rfl (w.heap.size + 2) zZn rfl rfl 41 zZn HV2.out.res zz_size rfl zz_one ?_))
    refine bodyPost_ret (v := .tuple #[.agg zZn, I 4]) (results_row_tmp rfl _ _ (w.heap.size + 2) _ zZn (0, 0) _ rfl (setRow_heap _ _ _ _ _ _ HV2.out.res) Tryz.underlying41 rfl zz_size _ rfl) rfl ?_
    exact ⟨below_setRow HV2.out.up (by omega) _, .inl ⟨by rw [HT.out.names]; exact HNO.out, rfl⟩⟩
  · have HF := Lib.hid (zFind_some hy hyes hall)
    have hym := List.mem_of_getElem? hy
    have HLY := Lib.hid (HL.out y hym)
    have HYM := Lib.hid hym
    have HZA : Hid (ZnAt w2 w2.heap.size y.s y.e.z) := Lib.hid ((HT.out.zones.each y hym).grow HV2.out.up)
    have hin : i < n := by have h1 := (List.getElem?_eq_some_iff.1 hy).1; have := HN.out; omega
    obtain ⟨A0, hA0⟩ : ∃ a, x.A = a := ⟨_, rfl⟩
    obtain ⟨b, off, hab, hbw, hcl⟩ := HT.out.zones.row.there (by rw [zecells_len]; have := HN.out; omega)
    have HCX : Hid (w2.rangeAt b (off + i * 9 + 1) (znCells y.e.z y.s).toList) := Lib.hid fun j u hu => by
      have hj : j < 8 := (List.getElem?_eq_some_iff.1 hu).1
      rw [show off + i * 9 + 1 + j = off + (i * 9 + (j + 1)) by omega]
      refine (HV2.out.up.cell (p := ⟨b, off + (i * 9 + (j + 1)), none⟩) hbw).trans (hcl _ u ?_)
      rw [zecells_get x.zs i (j + 1) y hy (by omega)]
      have e : y.cells[j + 1]? = (znCells y.e.z y.s).toList[j]? := by
        match j, hj with
        | 0, _ => rfl
        | 1, _ => rfl
        | 2, _ => rfl
        | 3, _ => rfl
        | 4, _ => rfl
        | 5, _ => rfl
        | 6, _ => rfl
        | 7, _ => rfl
      rw [e]
      exact hu
    have c3 : w2.cell? ⟨w.heap.size, 3, none⟩ = some (.slice (some ⟨b, off, none⟩) n x.c) := by rw [cell_of_row w2 _ 3 _ _ _ HV2.out.tab, tb_get3, hab]
    have i0 : (0 : Int) ≤ (i : Int) := by omega
    have i1 : (i : Int) < (n : Int) := by omega
    clear hy hyes hall hym hcl hab hA0
    go_wp2_with ((with_reducible refine g_load 41 ?_); refine wpList_load_mid rfl _ _ rfl b (off + i * 9 + 1) rfl (znCells y.e.z y.s).toList _ HCX.out Tryz.underlying41 rfl (zn_size _ _) ?_)
    refine (show Calls Tryz.prog _ #[.agg (znCells y.e.z y.s)] w2 _ from clonedZone_any y.e.z y.s w2 HLY.out HZA.out).mono ?_
    rintro e w3 ⟨s3, rfl, hx3, hb3⟩
    have HV3 := Lib.hid (HV2.out.grow hb3)
    have HX3 := Lib.hid hx3
    have hl2 := HV2.out.lt
    clear hx3 hb3
    go_wp2_with ((with_reducible refine g_store 41 ?_); refine wpList_store_row rfl _ _ _ rfl (w.heap.size + 2) (znCells y.e.z s3) rfl rfl 41 zZn HV3.out.res (zn_size _ _) rfl (zn_one _ _) ?_)
    refine bodyPost_ret (v := .tuple #[.agg (znCells y.e.z s3), I 0]) (results_row_tmp rfl _ _ (w.heap.size + 2) _ (znCells y.e.z s3) (0, 0) _ rfl (setRow_heap _ _ _ _ _ _ HV3.out.res) Tryz.underlying41 rfl (zn_size _ _) _ rfl) rfl ?_
    refine ⟨below_setRow HV3.out.up (by omega) _, .inr ⟨y.e.z, s3, by rw [HT.out.names]; exact HF.out, rfl, ?_, y.e, by rw [HT.out.names]; exact List.mem_map_of_mem HYM.out, rfl⟩⟩
    exact (HX3.out.own.of_blocks (by simp [World.setRow]) fun k h1 _ => setRow_other _ _ k _ (by omega)).lower (by omega)
end Go.Proofs.YtbdkalpljhpnmaaGreat
