/- table.cloned at tables with flat zones. -/
import Derived.Test.YtbdkalpljhpnmaaGreatTbR
import Derived.BigQuiet
import Derived.Deep.AppendLies
import Derived.Deep.CutBlock
import Derived.Deep.DeepCutAuto
import Derived.Deep.DrawnRows
import Derived.Deep.MidRow
import Derived.Deep.QuietTactic
import Derived.Deep.RegionHeld3
import Derived.Deep.RegionLaw
import Derived.Deep.WholeRow
import Derived.Great.BuildSlice
import Derived.Laws.BytesString
import Derived.Laws.CopyOwn
import Derived.Laws.EntriesVeiled
import Derived.Laws.MakeOwn
import Derived.Laws.ResultCell
import Derived.Laws.Rows
import Derived.Laws.Tables
import Derived.Lib.Hide
import Derived.LoopIn
import Derived.LoopNIn
import Derived.Maps.AppendAt
import Derived.Outline
import Derived.OwnWalkIn
import Derived.RangeFuncBound
import Derived.RangeFuncBox
import Derived.RangeFuncCalls
import Derived.RangeFuncLeaves
import Derived.RangeFuncNested
import Derived.Shelf.Abstract
import Derived.Shelf.Bytes.SlSmallAll
import Derived.Shelf.RegionOpen
import Derived.StillTailTactics
import Derived.Stop.BytesEq
import Derived.TacticsInMore
import Derived.WalkKit
import Derived.WalkLawsBesides
import Derived.WalkSpells
namespace Go.Proofs.YtbdkalpljhpnmaaGreat
open Go Go.RowKit

section
variable {P : Program} {ops : Array Oper} {o : Oper} {a : Act} {K : Act → World → Prop} {Q : Exit → Act → World → Prop} {E : Prop} {w : World}
theorem step_store_md (hgd : o.guard = none) (ty : TypeId) (x y : Operand) (ho : o.op = .store ty x y) (g off : Nat) (cells : Array Value) (hx : a.eval x = .pointer (some ⟨g, off, none⟩)) (hy : a.eval y = .agg cells)
    (ht : w.there g off cells.size) (hi : (P.info? ty).map (·.size) = some cells.size) (h1 : cells.all (·.oneCell') = true)
    (h : K (a.put o.dst undef) (w.setCells g off cells.toList)) : if Region.wanted o (yielded ops a.tmps) = true then Oper.wp P o a w K Q else E := by
  have hw : Region.wanted o (yielded ops a.tmps) = true := by simp [Region.wanted, hgd]
  rw [if_pos hw]
  exact wp_store_mid ty x y ho g off cells hx hy ht hi h1 h
end
theorem tbVal_zones (t : Tb) (v v' : Value) : (tbVal t v).setIfInBounds 3 v' = tbVal t v' := by simp [tbVal, tbList]
theorem tbVal_one (t : Tb) (A : Option Addr) (n c : Nat) : (tbVal t (.slice A n c)).all (·.oneCell') = true := by
  rw [Array.all_eq_true_iff_forall_mem]
  intro u hu
  unfold tbVal tbList at hu
  rw [List.mem_toArray, List.mem_append, List.mem_append] at hu
  rcases hu with h | h | h
  · simp at h
    rcases h with rfl | rfl | rfl | rfl <;> rfl
  · exact ref_one2 _ u h
  · exact ref_one2 _ u h
/-- table.cloned under way. -/
structure ClS (w : World) (t : Tb) (v : Value) (W : World) : Prop where
  var : W.heap[w.heap.size]? = some (.cells (tbVal t v) 47 (0, 0))
  res : W.heap[w.heap.size + 1]? = some (.cells Tryz.zeroCells47 47 (0, 0))
  up : Below w.heap.size w W
theorem ClS.lt {w W : World} {t : Tb} {v : Value} (h : ClS w t v W) : w.heap.size + 1 < W.heap.size := (Array.getElem?_eq_some_iff.1 h.res).1
theorem ClS.grow {w W W' : World} {t : Tb} {v : Value} (h : ClS w t v W) (hb : Below W.heap.size W W') : ClS w t v W' :=
  ⟨(hb.block _ (by have := h.lt; omega)).trans h.var, (hb.block _ h.lt).trans h.res, below_trans h.up hb⟩
theorem ClS.store {w W : World} {t : Tb} {v : Value} (h : ClS w t v W) (v' : Value) : ClS w t v' (W.setCell ⟨w.heap.size, 3, none⟩ v') :=
  ⟨by rw [heap_setCell_same W _ 3 _ _ _ h.var, tbVal_zones], (heap_setCell_other W _ _ v' (by show w.heap.size + 1 ≠ w.heap.size; omega)).trans h.res, h.up.setCell (p := ⟨w.heap.size, 3, none⟩) (Nat.le_refl _) _⟩
theorem ClS.puts {w W : World} {t : Tb} {v : Value} (h : ClS w t v W) (g o : Nat) (vs : List Value) (hg : w.heap.size + 2 ≤ g) : ClS w t v (W.setCells g o vs) :=
  ⟨(sc_other vs W g o _ (by omega)).trans h.var, (sc_other vs W g o _ (by omega)).trans h.res, sc_below vs W g o h.up (by omega)⟩
theorem ClS.drew {w W : World} {t : Tb} {v : Value} (h : ClS w t v W) : ClS w t v W.drew := ⟨h.var, h.res, h.up.drew⟩
theorem ClS.start (w : World) (t : Tb) (v : Value) : ClS w t v ((w.alloc (.cells (tbVal t v) 47)).alloc (.cells Tryz.zeroCells47 47)) :=
  ⟨heap_alloc2_old w _ _, heap_alloc2_new w _ _, below_trans (below_var w _) (below_var _ _)⟩
theorem ClS.row {w W : World} {t : Tb} {v : Value} (h : ClS w t v W) : Row W w.heap.size (tbVal t v) := ⟨by have := h.lt; omega, fun i => cell_of_row W _ i _ _ _ h.var⟩
def ClT (w : World) (t : Tb) (zs : List ZeV) (e : Ending) (w' : World) : Prop :=
  ∃ A c zs', e = .returned (.agg (tbVal t (.slice A zs.length c))) ∧ ZsOwn w.heap.size w' (.slice A zs.length c) zs' ∧ zs'.map (·.e) = zs.map (·.e) ∧ Below w.heap.size w w'
attribute [local go_sem] tb_get0 tb_get1 tb_get2 tb_get3
set_option maxRecDepth 10000 in
set_option maxHeartbeats 2000000 in
theorem cloned_none (t : Tb) (h32 : t.prev.length = 32) (hm : t.mac.length = 32) (w : World) : Calls Tryz.prog 21 #[.agg (tbVal t (.slice none 0 0))] w (ClT w t []) := by
  have HS := Lib.hid (ClS.start w t (.slice none 0 0))
  have HSZ := Lib.hid (tb_info t (.slice none 0 0) h32 hm)
  have HSZ2 : Hid (Tryz.zeroCells47.size = (tbVal t (.slice none 0 0)).size) := Lib.hid (by rw [tb_size _ _ h32 hm]; kernel_rfl)
  go_enter Tryz.func21, Tryz.ntmps21
  go_wp2_with fail
  generalize (w.alloc (.cells (tbVal t (.slice none 0 0)) 47)).alloc (.cells Tryz.zeroCells47 47) = W1 at HS ⊢
  have hr0 := HS.out.row.2
  have hl0 := HS.out.lt
  have hf0 : ∀ i, W1.frozen? ⟨w.heap.size, i, none⟩ = false := fun i => frozen_of_row _ _ i _ _ HS.out.var
  have hs3 : W1.setCell ⟨w.heap.size, 3, none⟩ (.slice none 0 0) = W1 := setCell_same (v := .slice none 0 0) (hr0 3)
  refine (cloneZe_nil _ _).mono ?_
  rintro e w2 ⟨rfl, rfl⟩
  go_wp2_with fail
  go_loop [11] (fun i => i = .int .i64 0) (fun _ => 0)
  case atStart => rfl
  case round =>
    subst hrel
    go_wp2_with (first
      | (with_reducible refine g_load 47 ?_; refine wpList_load_Row rfl _ _ rfl w.heap.size rfl (tbVal t (.slice none 0 0)) HS.out.row _ Tryz.underlying47 rfl HSZ.out ?_)
      | (with_reducible refine g_store 47 ?_; refine wpList_store_row rfl _ _ _ rfl (w.heap.size + 1) (tbVal t (.slice none 0 0)) rfl rfl 47 Tryz.zeroCells47 HS.out.res HSZ.out HSZ2.out (tbVal_one _ _ _ _) ?_))
    refine bodyPost_ret (v := .agg (tbVal t (.slice none 0 0))) (results_cell_row rfl _ _ (w.heap.size + 1) _ (tbVal t (.slice none 0 0)) (0, 0) _ rfl (setRow_heap _ _ _ _ _ _ HS.out.res) Tryz.underlying47 rfl HSZ.out) rfl ?_
    exact ⟨none, 0, [], rfl, ⟨World.ownsRow_nil _ _ _ _, (fun _ h => nomatch h), (fun _ h => nomatch h), fun _ => rfl⟩, rfl, below_setRow HS.out.up (Nat.le_succ _) _⟩
theorem own_there {W : World} {lo e size g n m cap : Nat} {xs : List Value} (h : W.ownsRow lo e size (.slice (some ⟨g, 0, none⟩) n cap) m xs) : ∀ j, j < m * size → (W.cell? ⟨g, j, none⟩).isSome = true := fun j hj => by
  obtain ⟨cur, _, _, _, _, _, _, h7, _⟩ := own_inv h
  rw [own_cell h j _ (List.getElem?_eq_getElem (by omega))]
  rfl
theorem there_of {W W' : World} {g N o m : Nat} (h : ∀ j, j < N → (W.cell? ⟨g, j, none⟩).isSome = true) (hc : ∀ j, W'.cell? ⟨g, j, none⟩ = W.cell? ⟨g, j, none⟩) (hf : ∀ j, W'.frozen? ⟨g, j, none⟩ = false) (hle : o + m ≤ N) : W'.there g o m := fun j hj => ⟨by rw [hc]; exact h _ (by omega), hf _⟩
/-- Numbers in a block that is not older than lo and is not g. -/
def LX (lo g : Nat) (w : World) (A : Option Addr) (zs : List Int) : Prop :=
  ∃ b off, A = some ⟨b, off, none⟩ ∧ lo ≤ b ∧ b < w.heap.size ∧ b ≠ g ∧ ∀ j, j < zs.length → w.cell? ⟨b, off + j, none⟩ = some (I (zs[j]?.getD 0))
theorem LX.of_blocks {lo g : Nat} {w w' : World} {A : Option Addr} {zs : List Int} (h : LX lo g w A zs) (hs : w.heap.size ≤ w'.heap.size) (hb : ∀ k, k < w.heap.size → k ≠ g → w'.heap[k]? = w.heap[k]?) : LX lo g w' A zs := by
  obtain ⟨b, off, h1, h2, h3, h4, h5⟩ := h
  exact ⟨b, off, h1, h2, Nat.lt_of_lt_of_le h3 hs, h4, fun j hj => (World.cell?_of_block (a := ⟨b, off + j, none⟩) (hb b h3 h4)).trans (h5 j hj)⟩
theorem LX.li {lo g : Nat} {w : World} {A : Option Addr} {zs : List Int} (h : LX lo g w A zs) : LI lo w A zs := by
  obtain ⟨b, off, h1, h2, h3, _, h5⟩ := h
  exact .inr ⟨b, off, h1, h2, h3, h5⟩
theorem LX.of_own {lo B g b n c : Nat} {w : World} {zs : List Int} (h : w.ownsRow B 3 1 (.slice (some ⟨b, 0, none⟩) n c) n (zs.map I)) (hl : lo ≤ B) (hg : g < B) : LX lo g w (some ⟨b, 0, none⟩) zs := by
  have h1 := own_low h
  refine ⟨b, 0, rfl, by omega, h1.2, by omega, fun j hj => ?_⟩
  rw [Nat.zero_add]
  refine own_cell h j _ ?_
  rw [List.getElem?_map, List.getElem?_eq_getElem hj]; rfl
def ClRel (w : World) (t : Tb) (g n c : Nat) (zs : List ZeV) (i : Value) (wr : World) : Prop :=
  ∃ (k : Nat) (ys : List ZeV), k ≤ n ∧ i = .int .i64 k ∧ ys.length = k ∧ ys.map (·.e) = (zs.take k).map (·.e) ∧ ClS w t (.slice (some ⟨g, 0, none⟩) n c) wr ∧
    wr.ownsRow (w.heap.size + 2) 73 9 (.slice (some ⟨g, 0, none⟩) n c) n (zecells (ys ++ zs.drop k)) ∧ ∀ y ∈ ys, LX (w.heap.size + 2) g wr y.s.A y.e.z.cal.months ∧ ZsNil y.s
set_option maxRecDepth 10000 in
set_option maxHeartbeats 4000000 in
theorem cloned_some (t : Tb) (g0 c0 n : Nat) (zs : List ZeV) (w : World) (hz : ∀ x ∈ zs, ZnFlat x.e.z ∧ ZsNil x.s) (hn : zs.length = n) (hn0 : 0 < n) (hn1 : n ≤ 128) (h32 : t.prev.length = 32) (hm : t.mac.length = 32)
    (hA : ∀ j u, (zecells zs)[j]? = some u → w.cell? ⟨g0, j, none⟩ = some u) (hg0 : g0 < w.heap.size) (hI : ∀ x ∈ zs, IntsAt w w.heap.size x.s.A x.e.z.cal.months) :
    Calls Tryz.prog 21 #[.agg (tbVal t (.slice (some ⟨g0, 0, none⟩) n c0))] w (ClT w t zs) := by
  have HS := Lib.hid (ClS.start w t (.slice (some ⟨g0, 0, none⟩) n c0))
  have HSZ : Hid (∀ v, (Tryz.prog.info? 47).map (·.size) = some (tbVal t v).size) := Lib.hid fun v => tb_info t v h32 hm
  have HSZ2 : Hid (∀ v, Tryz.zeroCells47.size = (tbVal t v).size) := Lib.hid fun v => (by rw [tb_size _ _ h32 hm]; kernel_rfl)
  have HZ := Lib.hid hz
  have HN := Lib.hid hn
  have HA := Lib.hid hA
  have HI := Lib.hid hI
  clear hz hn hA hI
  go_enter Tryz.func21, Tryz.ntmps21
  go_wp2_with fail
  generalize (w.alloc (.cells (tbVal t (.slice (some ⟨g0, 0, none⟩) n c0)) 47)).alloc (.cells Tryz.zeroCells47 47) = W1 at HS ⊢
  have hl0 := HS.out.lt
  refine (cloneZe_some g0 c0 zs n W1 (fun j u hu => (HS.out.up.cell (p := ⟨g0, j, none⟩) hg0).trans (HA.out j u hu)) (by omega) HN.out hn0 (by omega)).mono ?_
  rintro e w2 ⟨g, c, rfl, hown, hb2⟩
  have HS2 := Lib.hid (HS.out.grow hb2)
  have hr2 := HS2.out.row.2
  have hf2 : ∀ i, w2.frozen? ⟨w.heap.size, i, none⟩ = false := fun i => frozen_of_row _ _ i _ _ HS2.out.var
  have hg1 := own_low hown
  have HS3 := Lib.hid (HS2.out.store (.slice (some ⟨g, 0, none⟩) n c))
  have HO3 := Lib.hid (ownsRow_far (u := .slice (some ⟨g, 0, none⟩) n c) (p := ⟨w.heap.size, 3, none⟩) (ownsRow_base' hown (base' := w.heap.size + 2) (by omega)) (by intro h; injection h with h; simp only at h; omega))
  have hg2 : w.heap.size + 2 ≤ g := by omega
  clear hown hb2 HS hl0 hg1
  go_wp2_with fail
  generalize w2.setCell ⟨w.heap.size, 3, none⟩ (.slice (some ⟨g, 0, none⟩) n c) = w3 at HS3 HO3 ⊢
  clear hr2 hf2
  go_loopw [11] (fun i wr => ClRel w t g n c zs i wr) (fun i _ => n - (intOf i).toNat)
  case atStart => exact ⟨0, [], Nat.zero_le _, rfl, rfl, rfl, HS3.out, HO3.out, fun _ h => nomatch h⟩
  case round =>
    obtain ⟨k, ys, hk, rfl, hyl, hye, hcs, hown, hym⟩ := hrel
    have HC := Lib.hid hcs
    have HO := Lib.hid hown
    have HYE := Lib.hid hye
    have HYM := Lib.hid hym
    have HYL := Lib.hid hyl
    clear hcs hown hye hym hyl HS3 HO3
    by_cases hlt : k < n
    · have hkz : k < zs.length := by rw [HN.out]; exact hlt
      obtain ⟨x, hx⟩ : ∃ x, zs[k]? = some x := ⟨_, List.getElem?_eq_getElem hkz⟩
      have hd : zs.drop k = x :: zs.drop (k + 1) := by
        rw [List.drop_eq_getElem_cons hkz]
        rw [List.getElem?_eq_getElem hkz] at hx
        injection hx with hx
        rw [hx]
      have hown2 := HO.out
      rw [hd] at hown2
      have HO2 := Lib.hid hown2
      have hxm := List.mem_of_getElem? hx
      obtain ⟨hfl, hnil⟩ := HZ.out x hxm
      have cc : ∀ j u, x.cells[j]? = some u → wr.cell? ⟨g, k * 9 + j, none⟩ = some u := fun j u hu => by
        have hj : j < 9 := (Array.getElem?_eq_some_iff.1 hu).1
        refine own_cell hown2 _ _ ?_
        rw [zecells_get _ k j x (by rw [List.getElem?_append_right (by have := HYL.out; omega), HYL.out]; simp) hj]
        exact hu
      have hwr : g < wr.heap.size := (own_low hown2).2
      have fz : ∀ j, wr.frozen? ⟨g, j, none⟩ = false := own_free hown2
      have a3 : wr.cell? ⟨w.heap.size, 3, none⟩ = some (.slice (some ⟨g, 0, none⟩) n c) := (HC.out.row.2 3).trans rfl
      have z0 : wr.cell? ⟨g, k * 9 + 1, none⟩ = some (I x.e.z.cal.epoch) := cc 1 _ rfl
      have z1 : wr.cell? ⟨g, k * 9 + 2, none⟩ = some (.slice x.s.A x.e.z.cal.months.length x.s.a) := cc 2 _ rfl
      have z2 : wr.cell? ⟨g, k * 9 + 3, none⟩ = some (I x.e.z.cal.leap) := cc 3 _ rfl
      have z3 : wr.cell? ⟨g, k * 9 + 4, none⟩ = some (.slice x.s.B x.e.z.cal.rules.length x.s.b) := cc 4 _ rfl
      have z4 : wr.cell? ⟨g, k * 9 + 5, none⟩ = some (I x.e.z.start) := cc 5 _ rfl
      have z5 : wr.cell? ⟨g, k * 9 + 6, none⟩ = some (.slice x.s.C x.e.z.trans.length x.s.c) := cc 6 _ rfl
      have z6 : wr.cell? ⟨g, k * 9 + 7, none⟩ = some (I x.e.z.hor) := cc 7 _ rfl
      have z7 : wr.cell? ⟨g, k * 9 + 8, none⟩ = some (.slice x.s.D x.e.z.yearly.length x.s.d) := cc 8 _ rfl
      have HCZ : Hid (∀ W, Below wr.heap.size wr W → Calls Tryz.prog 24 #[.agg #[I x.e.z.cal.epoch, .slice x.s.A x.e.z.cal.months.length x.s.a, I x.e.z.cal.leap, .slice x.s.B x.e.z.cal.rules.length x.s.b, I x.e.z.start, .slice x.s.C x.e.z.trans.length x.s.c, I x.e.z.hor, .slice x.s.D x.e.z.yearly.length x.s.d]] W (CzP W x.e.z)) :=
        Lib.hid fun W hb => clonedZone_flat x.e.z x.s W hfl hnil (((HI.out x hxm).keep (below_trans HC.out.up hb)).more (below_trans HC.out.up hb).size)
      have i0 : (0 : Int) ≤ (k : Int) := by omega
      have i1 : (k : Int) < (n : Int) := by omega
      have hNg : w.heap.size < wr.heap.size := by omega
      clear cc hkz hd hown2 hfl hnil hxm
      have HX := Lib.hid hx
      clear hx
      go_wp2_with fail
      have hk9 : k * 9 + 1 + 8 ≤ n * 9 := by omega
      go_region_law (first | (go_simp; go_at_call 24; refine (HCZ.out _ (Below.refl _ _).drew).mono ?_; rintro e w5 ⟨g5, c5, rfl, hown5, hb5⟩; dsimp only [znCells]; have hs5 := hb5.size; have hc5 : w5.cell? ⟨w.heap.size, 3, none⟩ = some (.slice (some ⟨g, 0, none⟩) n c) := (hb5.cell (p := ⟨w.heap.size, 3, none⟩) hNg).trans a3; have hz5 : ∀ j, w5.cell? ⟨g, j, none⟩ = wr.cell? ⟨g, j, none⟩ := fun j => hb5.cell (p := ⟨g, j, none⟩) hwr; have hf5 : ∀ j, w5.frozen? ⟨g, j, none⟩ = false := fun j => (hb5.frozen (p := ⟨g, j, none⟩) hwr).trans (fz j); have HW5 := Lib.hid hown5; have HB5 := Lib.hid hb5; clear hown5 hb5 hs5))
      all_goals
        have hO5 : w5.ownsRow (w.heap.size + 2) 73 9 (.slice (some ⟨g, 0, none⟩) n c) n (zecells (ys ++ x :: zs.drop (k + 1))) := ownsRow_blocks HO2.out fun j _ h2 => HB5.out.block j h2
        have hO6 := own_puts (znCells x.e.z ⟨some ⟨g5, 0, none⟩, c5, none, 0, none, 0, none, 0⟩).toList (k * 9 + 1) _ _ hO5
        rw [← HYL.out, zecells_zone ys x _ _, HYL.out] at hO6
        have hC6 := (HC.out.drew.grow HB5.out).puts g (k * 9 + 1) (znCells x.e.z ⟨some ⟨g5, 0, none⟩, c5, none, 0, none, 0, none, 0⟩).toList hg2
        have hM6 : ∀ y ∈ ys ++ [(⟨x.e, ⟨some ⟨g5, 0, none⟩, c5, none, 0, none, 0, none, 0⟩⟩ : ZeV)], LX (w.heap.size + 2) g (w5.setCells g (k * 9 + 1) (znCells x.e.z ⟨some ⟨g5, 0, none⟩, c5, none, 0, none, 0, none, 0⟩).toList) y.s.A y.e.z.cal.months ∧ ZsNil y.s := by
          intro y hy
          rcases List.mem_append.1 hy with hy | hy
          · obtain ⟨h1, h2⟩ := HYM.out y hy
            exact ⟨h1.of_blocks (by rw [sc_size]; exact HB5.out.size) (fun j hj hjg => (sc_other _ _ _ _ _ hjg).trans (HB5.out.block j hj)), h2⟩
          · rw [List.mem_singleton.1 hy]
            exact ⟨(LX.of_own HW5.out (by show w.heap.size + 2 ≤ wr.heap.size; have := HC.out.lt; omega) hwr).of_blocks (by rw [sc_size]; exact Nat.le_refl _) (fun j _ hjg => sc_other _ _ _ _ _ hjg), ⟨⟨rfl, rfl⟩, ⟨rfl, rfl⟩, ⟨rfl, rfl⟩⟩⟩
        have HO6 := Lib.hid hO6
        have HC6 := Lib.hid hC6
        have HM6 := Lib.hid hM6
        clear hO5 hO6 hC6 hM6 hc5 hz5 hf5
        go_wp2_with fail
        go_roundw
        case rel =>
          refine ⟨k + 1, ys ++ [⟨x.e, ⟨some ⟨g5, 0, none⟩, c5, none, 0, none, 0, none, 0⟩⟩], by omega, by go_num, by rw [List.length_append, HYL.out]; rfl, ?_, HC6.out, by rw [List.append_assoc]; exact HO6.out, HM6.out⟩
          rw [List.map_append, HYE.out, List.take_add_one, HX.out, List.map_append]; rfl
        case measure => simp [intOf]; omega
    · have hkn : k = n := by omega
      have HKN := Lib.hid hkn
      have hlt' : ¬ (k : Int) < (n : Int) := by omega
      clear hkn hlt
      go_wp2_with (first
        | (with_reducible refine g_load 47 ?_; refine wpList_load_Row rfl _ _ rfl w.heap.size rfl (tbVal t (.slice (some ⟨g, 0, none⟩) n c)) HC.out.row _ Tryz.underlying47 rfl (HSZ.out _) ?_)
        | (with_reducible refine g_store 47 ?_; refine wpList_store_row rfl _ _ _ rfl (w.heap.size + 1) (tbVal t (.slice (some ⟨g, 0, none⟩) n c)) rfl rfl 47 Tryz.zeroCells47 HC.out.res (HSZ.out _) (HSZ2.out _) (tbVal_one _ _ _ _) ?_))
      refine bodyPost_ret (v := .agg (tbVal t (.slice (some ⟨g, 0, none⟩) n c))) (results_cell_row rfl _ _ (w.heap.size + 1) _ (tbVal t (.slice (some ⟨g, 0, none⟩) n c)) (0, 0) _ rfl (setRow_heap _ _ _ _ _ _ HC.out.res) Tryz.underlying47 rfl (HSZ.out _)) rfl ?_
      have hd : ys ++ zs.drop k = ys := by rw [List.drop_of_length_le (by rw [HN.out, HKN.out]; exact Nat.le_refl _), List.append_nil]
      have hrow := HO.out
      rw [hd] at hrow
      have hyn : ys.length = n := HYL.out.trans HKN.out
      refine ⟨some ⟨g, 0, none⟩, c, ys, by rw [HN.out], ⟨?_, fun y hy => ?_, fun y hy => (HYM.out y hy).2, fun h => by omega⟩, by rw [HYE.out, HKN.out, List.take_of_length_le (by rw [HN.out]; exact Nat.le_refl _)], below_setRow HC.out.up (Nat.le_succ _) _⟩
      · rw [HN.out, hyn]
        exact ownsRow_base' (ownsRow_blocks hrow fun j h1 _ => setRow_other _ _ j _ (by omega)) (by omega)
      · have h1 : LI (w.heap.size + 2) (wr.setRow (w.heap.size + 1) (tbVal t (.slice (some ⟨g, 0, none⟩) n c))) y.s.A y.e.z.cal.months := (HYM.out y hy).1.li.of_blocks (by simp [World.setRow]) fun j h1 _ => setRow_other _ _ j _ (by omega)
        exact h1.lower (by omega)
end Go.Proofs.YtbdkalpljhpnmaaGreat
