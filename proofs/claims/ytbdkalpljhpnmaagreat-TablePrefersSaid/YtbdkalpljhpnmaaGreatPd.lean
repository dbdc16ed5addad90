/- table.cloned of any table. -/
import Derived.Test.YtbdkalpljhpnmaaGreatPc
import Derived.BigQuiet
import Derived.Deep.AppendLies
import Derived.Deep.CutBlock
import Derived.Deep.DeepCutAuto
import Derived.Deep.DrawnRows
import Derived.Deep.MidRow
import Derived.Deep.QuietTactic
import Derived.Deep.RegionHeld3
import Derived.Deep.RegionLaw
import Derived.Deep.WholeRow
import Derived.Great.BuildSlice
import Derived.Laws.BytesString
import Derived.Laws.CopyOwn
import Derived.Laws.EntriesVeiled
import Derived.Laws.MakeOwn
import Derived.Laws.ResultCell
import Derived.Laws.Rows
import Derived.Laws.Tables
import Derived.Lib.Hide
import Derived.LoopIn
import Derived.LoopNIn
import Derived.Maps.AppendAt
import Derived.Outline
import Derived.OwnWalkIn
import Derived.RangeFuncBound
import Derived.RangeFuncBox
import Derived.RangeFuncCalls
import Derived.RangeFuncLeaves
import Derived.RangeFuncNested
import Derived.Shelf.Abstract
import Derived.Shelf.Bytes.SlSmallAll
import Derived.Shelf.RegionOpen
import Derived.StillTailTactics
import Derived.Stop.BytesEq
import Derived.TacticsInMore
import Derived.WalkKit
import Derived.WalkLawsBesides
import Derived.WalkSpells
namespace Go.Proofs.YtbdkalpljhpnmaaGreat
open Go Go.RowKit

/-- Cells in a block that is not older than lo. -/
def CO (lo : Nat) (w : World) (A : Option Addr) (cs : List Value) : Prop :=
  cs.length = 0 ∨ ∃ b off, A = some ⟨b, off, none⟩ ∧ lo ≤ b ∧ b < w.heap.size ∧ ∀ j u, cs[j]? = some u → w.cell? ⟨b, off + j, none⟩ = some u
structure ZnO (lo : Nat) (w : World) (s : Zs) (z : Zn) : Prop where
  months : CO lo w s.A (z.cal.months.map I)
  rules : CO lo w s.B (z.cal.rules.flatMap Lr.cells)
  trans : CO lo w s.C (z.trans.flatMap Tr.cells)
  yearly : CO lo w s.D (z.yearly.flatMap Yr.cells)
structure ZesO (lo : Nat) (w : World) (A : Option Addr) (zs : List ZeV) : Prop where
  row : CO lo w A (zecells zs)
  each : ∀ x ∈ zs, ZnO lo w x.s x.e.z
structure TbO (lo : Nat) (w : World) (x : TbV) : Prop where
  names : x.t.zones = x.zs.map (·.e)
  prev : x.t.prev.length = 32
  mac : x.t.mac.length = 32
  zones : ZesO lo w x.A x.zs
section
variable {lo lo' g : Nat} {w w' : World} {A : Option Addr} {cs : List Value} {s : Zs} {z : Zn} {zs : List ZeV} {x : TbV}
theorem CX.own (h : CX lo g w A cs) : CO lo w A cs := h.imp id fun ⟨b, off, h1, h2, h3, _, h5⟩ => ⟨b, off, h1, h2, h3, h5⟩
theorem CO.of_blocks (h : CO lo w A cs) (hs : w.heap.size ≤ w'.heap.size) (hb : ∀ k, lo ≤ k → k < w.heap.size → w'.heap[k]? = w.heap[k]?) : CO lo w' A cs :=
  h.imp id fun ⟨b, off, h1, h2, h3, h5⟩ => ⟨b, off, h1, h2, Nat.lt_of_lt_of_le h3 hs, fun j u hu => (World.cell?_of_block (a := ⟨b, off + j, none⟩) (hb b h2 h3)).trans (h5 j u hu)⟩
theorem CO.lower (h : CO lo w A cs) (hl : lo' ≤ lo) : CO lo' w A cs := h.imp id fun ⟨b, off, h1, h2, h3, h5⟩ => ⟨b, off, h1, by omega, h3, h5⟩
theorem CO.at (h : CO lo w A cs) : CellsAt w w.heap.size A cs := h.imp id fun ⟨b, off, h1, _, h3, h5⟩ => ⟨b, off, h1, h3, h5⟩
theorem ZnX.own (h : ZnX lo g w s z) : ZnO lo w s z := ⟨h.months.own, h.rules.own, h.trans.own, h.yearly.own⟩
theorem ZnO.of_blocks (h : ZnO lo w s z) (hs : w.heap.size ≤ w'.heap.size) (hb : ∀ k, lo ≤ k → k < w.heap.size → w'.heap[k]? = w.heap[k]?) : ZnO lo w' s z := ⟨h.months.of_blocks hs hb, h.rules.of_blocks hs hb, h.trans.of_blocks hs hb, h.yearly.of_blocks hs hb⟩
theorem ZnO.lower (h : ZnO lo w s z) (hl : lo' ≤ lo) : ZnO lo' w s z := ⟨h.months.lower hl, h.rules.lower hl, h.trans.lower hl, h.yearly.lower hl⟩
theorem ZnO.at (h : ZnO lo w s z) : ZnAt w w.heap.size s z := ⟨h.months.at, h.rules.at, h.trans.at, h.yearly.at⟩
theorem ZesO.of_blocks (h : ZesO lo w A zs) (hs : w.heap.size ≤ w'.heap.size) (hb : ∀ k, lo ≤ k → k < w.heap.size → w'.heap[k]? = w.heap[k]?) : ZesO lo w' A zs := ⟨h.row.of_blocks hs hb, fun x hx => (h.each x hx).of_blocks hs hb⟩
theorem ZesO.lower (h : ZesO lo w A zs) (hl : lo' ≤ lo) : ZesO lo' w A zs := ⟨h.row.lower hl, fun x hx => (h.each x hx).lower hl⟩
theorem ZesO.at (h : ZesO lo w A zs) : ZesC w w.heap.size A zs := ⟨h.row.at, fun x hx => (h.each x hx).at⟩
theorem TbO.of_blocks (h : TbO lo w x) (hs : w.heap.size ≤ w'.heap.size) (hb : ∀ k, lo ≤ k → k < w.heap.size → w'.heap[k]? = w.heap[k]?) : TbO lo w' x := ⟨h.names, h.prev, h.mac, h.zones.of_blocks hs hb⟩
theorem TbO.lower (h : TbO lo w x) (hl : lo' ≤ lo) : TbO lo' w x := ⟨h.names, h.prev, h.mac, h.zones.lower hl⟩
theorem TbO.at (h : TbO lo w x) : TbAt w w.heap.size x := ⟨h.names, h.prev, h.mac, h.zones.at⟩
theorem CO.of_own {e size n c : Nat} (h : w.ownsRow lo e size (.slice A n c) n cs) : CO lo w A cs := by
  rcases h.2 with ⟨hv, hn⟩ | ⟨b, cap, cur, hv, hb, hh, _⟩
  · refine .inl ?_
    rw [h.1, hn, Nat.zero_mul]
  · injection hv with h1 _ _
    subst h1
    exact .inr ⟨b, 0, rfl, hb, (Array.getElem?_eq_some_iff.1 hh).1, fun j u hu => by rw [Nat.zero_add, ← addr_add]; exact h.cells (g := b) rfl j u hu⟩
end
/-- What table.cloned gives: the same table in other memory. -/
def ClV (w : World) (x : TbV) (e : Ending) (w' : World) : Prop :=
  ∃ y : TbV, y.t = x.t ∧ y.zs.map (·.e) = x.zs.map (·.e) ∧ e = .returned (.agg (tbVal y.t (.slice y.A y.zs.length y.c))) ∧ TbO w.heap.size w' y ∧ Below w.heap.size w w'
theorem znLens {zs ys : List ZeV} (h : ∀ x ∈ zs, ZnLen x.e.z) (he : ys.map (·.e) = zs.map (·.e)) : ∀ y ∈ ys, ZnLen y.e.z := by
  intro y hy
  have h1 : y.e ∈ zs.map (·.e) := by rw [← he]; exact List.mem_map_of_mem hy
  obtain ⟨x, hx, hxe⟩ := List.mem_map.1 h1
  rw [← hxe]
  exact h x hx
def CvRel (w : World) (t : Tb) (g n c : Nat) (zs : List ZeV) (i : Value) (wr : World) : Prop :=
  ∃ (k : Nat) (ys : List ZeV), k ≤ n ∧ i = .int .i64 k ∧ ys.length = k ∧ ys.map (·.e) = (zs.take k).map (·.e) ∧ ClS w t (.slice (some ⟨g, 0, none⟩) n c) wr ∧
    wr.ownsRow (w.heap.size + 2) 73 9 (.slice (some ⟨g, 0, none⟩) n c) n (zecells (ys ++ zs.drop k)) ∧ ∀ y ∈ ys, ZnX (w.heap.size + 2) g wr y.s y.e.z
attribute [local go_sem] tb_get0 tb_get1 tb_get2 tb_get3
set_option maxRecDepth 10000 in
set_option maxHeartbeats 2000000 in
theorem cloned_zero (t : Tb) (A0 : Option Addr) (c0 : Nat) (hz : t.zones = []) (h32 : t.prev.length = 32) (hm : t.mac.length = 32) (w : World) : Calls Tryz.prog 21 #[.agg (tbVal t (.slice A0 0 c0))] w (ClV w ⟨t, A0, c0, []⟩) := by
  have HS := Lib.hid (ClS.start w t (.slice A0 0 c0))
  have HSZ : Hid (∀ v, (Tryz.prog.info? 47).map (·.size) = some (tbVal t v).size) := Lib.hid fun v => tb_info t v h32 hm
  have HSZ2 : Hid (∀ v, Tryz.zeroCells47.size = (tbVal t v).size) := Lib.hid fun v => (by rw [tb_size _ _ h32 hm]; kernel_rfl)
  have H3 : Hid (t.zones = [] ∧ t.prev.length = 32 ∧ t.mac.length = 32) := Lib.hid ⟨hz, h32, hm⟩
  clear hz h32 hm
  go_enter Tryz.func21, Tryz.ntmps21
  go_wp2_with fail
  generalize (w.alloc (.cells (tbVal t (.slice A0 0 c0)) 47)).alloc (.cells Tryz.zeroCells47 47) = W1 at HS ⊢
  have hl0 := HS.out.lt
  refine (show Calls Tryz.prog _ _ W1 _ from clZ_any A0 c0 0 [] W1 .nil rfl (fun _ h => nomatch h) (by omega)).mono ?_
  rintro e w2 ⟨A, c, rfl, hown, hb2⟩
  have HS2 := Lib.hid (HS.out.grow hb2)
  have hr2 := HS2.out.row.2
  have hf2 : ∀ i, w2.frozen? ⟨w.heap.size, i, none⟩ = false := fun i => frozen_of_row _ _ i _ _ HS2.out.var
  have HS3 := Lib.hid (HS2.out.store (.slice A 0 c))
  clear hown hb2 HS hl0
  go_wp2_with fail
  generalize w2.setCell ⟨w.heap.size, 3, none⟩ (.slice A 0 c) = w3 at HS3 ⊢
  clear hr2 hf2
  go_loopw [11] (fun i wr => i = .int .i64 0 ∧ ClS w t (.slice A 0 c) wr) (fun _ _ => 0)
  case atStart => exact ⟨rfl, HS3.out⟩
  case round =>
    obtain ⟨rfl, hs⟩ := hrel
    have HC := Lib.hid hs
    clear hs HS3
    go_wp2_with (first
      | (with_reducible refine g_load 47 ?_; refine wpList_load_Row rfl _ _ rfl w.heap.size rfl (tbVal t (.slice A 0 c)) HC.out.row _ Tryz.underlying47 rfl (HSZ.out _) ?_)
      | (with_reducible refine g_store 47 ?_; refine wpList_store_row rfl _ _ _ rfl (w.heap.size + 1) (tbVal t (.slice A 0 c)) rfl rfl 47 Tryz.zeroCells47 HC.out.res (HSZ.out _) (HSZ2.out _) (tbVal_one _ _ _ _) ?_))
    refine bodyPost_ret (v := .agg (tbVal t (.slice A 0 c))) (results_cell_row rfl _ _ (w.heap.size + 1) _ (tbVal t (.slice A 0 c)) (0, 0) _ rfl (setRow_heap _ _ _ _ _ _ HC.out.res) Tryz.underlying47 rfl (HSZ.out _)) rfl ?_
    exact ⟨⟨t, A, c, []⟩, rfl, rfl, rfl, ⟨H3.out.1, H3.out.2.1, H3.out.2.2, .inl rfl, fun _ hx => nomatch hx⟩, below_setRow HC.out.up (Nat.le_succ _) _⟩
set_option maxRecDepth 10000 in
set_option maxHeartbeats 4000000 in
theorem cloned_more (t : Tb) (A0 : Option Addr) (c0 n : Nat) (zs : List ZeV) (w : World) (hz : ∀ x ∈ zs, ZnLen x.e.z) (hn : zs.length = n) (hn0 : 0 < n) (hn1 : n ≤ 1000) (h32 : t.prev.length = 32) (hm : t.mac.length = 32) (hzz : t.zones = zs.map (·.e))
    (hA : ZesC w w.heap.size A0 zs) :
    Calls Tryz.prog 21 #[.agg (tbVal t (.slice A0 n c0))] w (ClV w ⟨t, A0, c0, zs⟩) := by
  have HS := Lib.hid (ClS.start w t (.slice A0 n c0))
  have HSZ : Hid (∀ v, (Tryz.prog.info? 47).map (·.size) = some (tbVal t v).size) := Lib.hid fun v => tb_info t v h32 hm
  have HSZ2 : Hid (∀ v, Tryz.zeroCells47.size = (tbVal t v).size) := Lib.hid fun v => (by rw [tb_size _ _ h32 hm]; kernel_rfl)
  have HZ := Lib.hid hz
  have HN := Lib.hid hn
  have HA := Lib.hid hA
  have H3 : Hid (t.zones = zs.map (·.e) ∧ t.prev.length = 32 ∧ t.mac.length = 32) := Lib.hid ⟨hzz, h32, hm⟩
  clear hz hn hA hzz h32 hm
  go_enter Tryz.func21, Tryz.ntmps21
  go_wp2_with fail
  generalize (w.alloc (.cells (tbVal t (.slice A0 n c0)) 47)).alloc (.cells Tryz.zeroCells47 47) = W1 at HS ⊢
  have hl0 := HS.out.lt
  refine (show Calls Tryz.prog _ _ W1 _ from clZ_any A0 c0 n (zecells zs) W1 ((HA.out.row.keep HS.out.up).more HS.out.up.size) (by rw [zecells_len, HN.out]) (zecells_ok zs) (by omega)).mono ?_
  rintro e w2 ⟨A', c, rfl, hown, hb2⟩
  obtain ⟨g, c', hv, _⟩ := own_form hown hn0
  injection hv with hv1 _ hv3
  subst hv1 hv3
  have HS2 := Lib.hid (HS.out.grow hb2)
  have hr2 := HS2.out.row.2
  have hf2 : ∀ i, w2.frozen? ⟨w.heap.size, i, none⟩ = false := fun i => frozen_of_row _ _ i _ _ HS2.out.var
  have hg1 := own_low hown
  have HS3 := Lib.hid (HS2.out.store (.slice (some ⟨g, 0, none⟩) n c))
  have HO3 := Lib.hid (ownsRow_far (u := .slice (some ⟨g, 0, none⟩) n c) (p := ⟨w.heap.size, 3, none⟩) (ownsRow_base' hown (base' := w.heap.size + 2) (by omega)) (by intro h; injection h with h; simp only at h; omega))
  have hg2 : w.heap.size + 2 ≤ g := by omega
  clear hown hb2 HS hl0 hg1
  go_wp2_with fail
  generalize w2.setCell ⟨w.heap.size, 3, none⟩ (.slice (some ⟨g, 0, none⟩) n c) = w3 at HS3 HO3 ⊢
  clear hr2 hf2
  go_loopw [11] (fun i wr => CvRel w t g n c zs i wr) (fun i _ => n - (intOf i).toNat)
  case atStart => exact ⟨0, [], Nat.zero_le _, rfl, rfl, rfl, HS3.out, HO3.out, fun _ h => nomatch h⟩
  case round =>
    obtain ⟨k, ys, hk, rfl, hyl, hye, hcs, hown, hym⟩ := hrel
    have HC := Lib.hid hcs
    have HO := Lib.hid hown
    have HYE := Lib.hid hye
    have HYM := Lib.hid hym
    have HYL := Lib.hid hyl
    clear hcs hown hye hym hyl HS3 HO3
    by_cases hlt : k < n
    · have hkz : k < zs.length := by rw [HN.out]; exact hlt
      obtain ⟨x, hx⟩ : ∃ x, zs[k]? = some x := ⟨_, List.getElem?_eq_getElem hkz⟩
      have hd : zs.drop k = x :: zs.drop (k + 1) := by
        rw [List.drop_eq_getElem_cons hkz]
        rw [List.getElem?_eq_getElem hkz] at hx
        injection hx with hx
        rw [hx]
      have hown2 := HO.out
      rw [hd] at hown2
      have HO2 := Lib.hid hown2
      have hxm := List.mem_of_getElem? hx
      have hfl := HZ.out x hxm
      have cc : ∀ j u, x.cells[j]? = some u → wr.cell? ⟨g, k * 9 + j, none⟩ = some u := fun j u hu => by
        have hj : j < 9 := (Array.getElem?_eq_some_iff.1 hu).1
        refine own_cell hown2 _ _ ?_
        rw [zecells_get _ k j x (by rw [List.getElem?_append_right (by have := HYL.out; omega), HYL.out]; simp) hj]
        exact hu
      have hwr : g < wr.heap.size := (own_low hown2).2
      have fz : ∀ j, wr.frozen? ⟨g, j, none⟩ = false := own_free hown2
      have a3 : wr.cell? ⟨w.heap.size, 3, none⟩ = some (.slice (some ⟨g, 0, none⟩) n c) := (HC.out.row.2 3).trans rfl
      have z0 : wr.cell? ⟨g, k * 9 + 1, none⟩ = some (I x.e.z.cal.epoch) := cc 1 _ rfl
      have z1 : wr.cell? ⟨g, k * 9 + 2, none⟩ = some (.slice x.s.A x.e.z.cal.months.length x.s.a) := cc 2 _ rfl
      have z2 : wr.cell? ⟨g, k * 9 + 3, none⟩ = some (I x.e.z.cal.leap) := cc 3 _ rfl
      have z3 : wr.cell? ⟨g, k * 9 + 4, none⟩ = some (.slice x.s.B x.e.z.cal.rules.length x.s.b) := cc 4 _ rfl
      have z4 : wr.cell? ⟨g, k * 9 + 5, none⟩ = some (I x.e.z.start) := cc 5 _ rfl
      have z5 : wr.cell? ⟨g, k * 9 + 6, none⟩ = some (.slice x.s.C x.e.z.trans.length x.s.c) := cc 6 _ rfl
      have z6 : wr.cell? ⟨g, k * 9 + 7, none⟩ = some (I x.e.z.hor) := cc 7 _ rfl
      have z7 : wr.cell? ⟨g, k * 9 + 8, none⟩ = some (.slice x.s.D x.e.z.yearly.length x.s.d) := cc 8 _ rfl
      have HCZ : Hid (∀ W, Below wr.heap.size wr W → Calls Tryz.prog 24 #[.agg #[I x.e.z.cal.epoch, .slice x.s.A x.e.z.cal.months.length x.s.a, I x.e.z.cal.leap, .slice x.s.B x.e.z.cal.rules.length x.s.b, I x.e.z.start, .slice x.s.C x.e.z.trans.length x.s.c, I x.e.z.hor, .slice x.s.D x.e.z.yearly.length x.s.d]] W (CzQ W x.e.z)) :=
        Lib.hid fun W hb => clonedZone_any x.e.z x.s W hfl ((HA.out.each x hxm).grow (below_trans HC.out.up hb))
      have i0 : (0 : Int) ≤ (k : Int) := by omega
      have i1 : (k : Int) < (n : Int) := by omega
      have hNg : w.heap.size < wr.heap.size := by omega
      clear cc hkz hd hown2 hfl hxm
      have HX := Lib.hid hx
      clear hx
      go_wp2_with fail
      have hk9 : k * 9 + 1 + 8 ≤ n * 9 := by omega
      go_region_law (first | (go_simp; go_at_call 24; refine (HCZ.out _ (Below.refl _ _).drew).mono ?_; rintro e w5 ⟨s5, rfl, hown5, hb5⟩; dsimp only [znCells]; have hs5 := hb5.size; have hc5 : w5.cell? ⟨w.heap.size, 3, none⟩ = some (.slice (some ⟨g, 0, none⟩) n c) := (hb5.cell (p := ⟨w.heap.size, 3, none⟩) hNg).trans a3; have hz5 : ∀ j, w5.cell? ⟨g, j, none⟩ = wr.cell? ⟨g, j, none⟩ := fun j => hb5.cell (p := ⟨g, j, none⟩) hwr; have hf5 : ∀ j, w5.frozen? ⟨g, j, none⟩ = false := fun j => (hb5.frozen (p := ⟨g, j, none⟩) hwr).trans (fz j); have HW5 := Lib.hid hown5; have HB5 := Lib.hid hb5; clear hown5 hb5 hs5))
      all_goals
        have hO5 : w5.ownsRow (w.heap.size + 2) 73 9 (.slice (some ⟨g, 0, none⟩) n c) n (zecells (ys ++ x :: zs.drop (k + 1))) := ownsRow_blocks HO2.out fun j _ h2 => HB5.out.block j h2
        have hO6 := own_puts (znCells x.e.z s5).toList (k * 9 + 1) _ _ hO5
        rw [← HYL.out, zecells_zone ys x _ _, HYL.out] at hO6
        have hC6 := (HC.out.drew.grow HB5.out).puts g (k * 9 + 1) (znCells x.e.z s5).toList hg2
        have hM6 : ∀ y ∈ ys ++ [(⟨x.e, s5⟩ : ZeV)], ZnX (w.heap.size + 2) g (w5.setCells g (k * 9 + 1) (znCells x.e.z s5).toList) y.s y.e.z := by
          intro y hy
          rcases List.mem_append.1 hy with hy | hy
          · exact (HYM.out y hy).of_blocks (by rw [sc_size]; exact HB5.out.size) fun j _ hj hjg => (sc_other _ _ _ _ _ hjg).trans (HB5.out.block j hj)
          · rw [List.mem_singleton.1 hy]
            exact ((HW5.out.off (g' := g) hwr).lower (by show w.heap.size + 2 ≤ wr.heap.size; have := HC.out.lt; omega)).of_blocks (by rw [sc_size]; exact Nat.le_refl _) fun j _ _ hjg => sc_other _ _ _ _ _ hjg
        have HO6 := Lib.hid hO6
        have HC6 := Lib.hid hC6
        have HM6 := Lib.hid hM6
        clear hO5 hO6 hC6 hM6 hc5 hz5 hf5
        go_wp2_with fail
        go_roundw
        case rel =>
          refine ⟨k + 1, ys ++ [⟨x.e, s5⟩], by omega, by go_num, by rw [List.length_append, HYL.out]; rfl, ?_, HC6.out, by rw [List.append_assoc]; exact HO6.out, HM6.out⟩
          rw [List.map_append, HYE.out, List.take_add_one, HX.out, List.map_append]; rfl
        case measure => simp [intOf]; omega
    · have hkn : k = n := by omega
      have HKN := Lib.hid hkn
      have hlt' : ¬ (k : Int) < (n : Int) := by omega
      clear hkn hlt
      go_wp2_with (first
        | (with_reducible refine g_load 47 ?_; refine wpList_load_Row rfl _ _ rfl w.heap.size rfl (tbVal t (.slice (some ⟨g, 0, none⟩) n c)) HC.out.row _ Tryz.underlying47 rfl (HSZ.out _) ?_)
        | (with_reducible refine g_store 47 ?_; refine wpList_store_row rfl _ _ _ rfl (w.heap.size + 1) (tbVal t (.slice (some ⟨g, 0, none⟩) n c)) rfl rfl 47 Tryz.zeroCells47 HC.out.res (HSZ.out _) (HSZ2.out _) (tbVal_one _ _ _ _) ?_))
      refine bodyPost_ret (v := .agg (tbVal t (.slice (some ⟨g, 0, none⟩) n c))) (results_cell_row rfl _ _ (w.heap.size + 1) _ (tbVal t (.slice (some ⟨g, 0, none⟩) n c)) (0, 0) _ rfl (setRow_heap _ _ _ _ _ _ HC.out.res) Tryz.underlying47 rfl (HSZ.out _)) rfl ?_
      have hd : ys ++ zs.drop k = ys := by rw [List.drop_of_length_le (by rw [HN.out, HKN.out]; exact Nat.le_refl _), List.append_nil]
      have hrow := HO.out
      rw [hd] at hrow
      have hyn : ys.length = n := HYL.out.trans HKN.out
      have hye : ys.map (·.e) = zs.map (·.e) := by rw [HYE.out, HKN.out, List.take_of_length_le (by rw [HN.out]; exact Nat.le_refl _)]
      have hrow2 : (wr.setRow (w.heap.size + 1) (tbVal t (.slice (some ⟨g, 0, none⟩) n c))).ownsRow (w.heap.size + 2) 73 9 (.slice (some ⟨g, 0, none⟩) n c) n (zecells ys) := ownsRow_blocks hrow fun j h1 _ => setRow_other _ _ j _ (by omega)
      refine ⟨⟨t, some ⟨g, 0, none⟩, c, ys⟩, rfl, hye, by rw [hyn], ⟨H3.out.1.trans hye.symm, H3.out.2.1, H3.out.2.2, (CO.of_own hrow2).lower (by omega), fun y hy => ?_⟩, below_setRow HC.out.up (Nat.le_succ _) _⟩
      exact ((HYM.out y hy).of_blocks (by simp [World.setRow]) fun j h1 _ _ => setRow_other _ _ j _ (by omega)).own.lower (by omega)
theorem cloned_any (x : TbV) (n : Nat) (w : World) (hn : x.zs.length = n) (hn1 : n ≤ 1000) (hl : ∀ y ∈ x.zs, ZnLen y.e.z) (h : TbAt w w.heap.size x) :
    Calls Tryz.prog 21 #[.agg (tbVal x.t (.slice x.A n x.c))] w (ClV w x) := by
  obtain ⟨t, A, c, zs⟩ := x
  by_cases h0 : n = 0
  · subst h0
    have hz : zs = [] := List.eq_nil_of_length_eq_zero hn
    subst hz
    exact cloned_zero t A c h.names h.prev h.mac w
  · exact cloned_more t A c n zs w hl hn (by omega) hn1 h.prev h.mac h.names h.zones
end Go.Proofs.YtbdkalpljhpnmaaGreat
