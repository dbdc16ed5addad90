/- table.Newest, table.Version, table.Zone. -/
import Derived.Test.YtbdkalpljhpnmaaGreatPf
import Derived.Test.YtbdkalpljhpnmaaGreatPd
import Derived.BigQuiet
import Derived.Deep.AppendLies
import Derived.Deep.CutBlock
import Derived.Deep.DeepCutAuto
import Derived.Deep.DrawnRows
import Derived.Deep.MidRow
import Derived.Deep.QuietTactic
import Derived.Deep.RegionHeld3
import Derived.Deep.RegionLaw
import Derived.Deep.WholeRow
import Derived.Great.BuildSlice
import Derived.Laws.BytesString
import Derived.Laws.CopyOwn
import Derived.Laws.EntriesVeiled
import Derived.Laws.MakeOwn
import Derived.Laws.ResultCell
import Derived.Laws.Rows
import Derived.Laws.Tables
import Derived.Lib.Hide
import Derived.LoopIn
import Derived.LoopNIn
import Derived.Maps.AppendAt
import Derived.Outline
import Derived.OwnWalkIn
import Derived.RangeFuncBound
import Derived.RangeFuncBox
import Derived.RangeFuncCalls
import Derived.RangeFuncLeaves
import Derived.RangeFuncNested
import Derived.Shelf.Abstract
import Derived.Shelf.Bytes.SlSmallAll
import Derived.Shelf.RegionOpen
import Derived.StillTailTactics
import Derived.Stop.BytesEq
import Derived.TacticsInMore
import Derived.WalkKit
import Derived.WalkLawsBesides
import Derived.WalkSpells
namespace Go.Proofs.YtbdkalpljhpnmaaGreat
open Go Go.RowKit

theorem pb_build {P : Program} {ops : Array Oper} {Q : Exit → Act → World → Prop} {rest : List Oper} {a : Act} {w : World} {d : Option Tmp} {t : TypeId} {pos : String} {af : Array Edge} {g : Option (Nat × Bool)} (ty : TypeId) {x : Array (Nat × Operand)} (h : wpList P ops Q (⟨d, .build ty x, t, pos, af, g⟩ :: rest) a w) : wpList P ops Q (⟨d, .build ty x, t, pos, af, g⟩ :: rest) a w := h
theorem fold_range (ts : List TbV) (pre : List (El ts)) : (curFold ts pre).1 = -1 ∨ ∃ i : Nat, i < ts.length ∧ (curFold ts pre).1 = (i : Int) := by
  unfold curFold
  have : ∀ (l : List (El ts)) (st : Int × List Bool), (st.1 = -1 ∨ ∃ i : Nat, i < ts.length ∧ st.1 = (i : Int)) → ((l.foldl (fun st x => curStep st x.1) st).1 = -1 ∨ ∃ i : Nat, i < ts.length ∧ (l.foldl (fun st x => curStep st x.1) st).1 = (i : Int)) := by
    intro l
    induction l with
    | nil => intro st h; exact h
    | cons x l ih =>
      intro st h
      rw [List.foldl_cons]
      refine ih _ ?_
      unfold curStep
      split
      · exact h
      · dsimp only
        split
        · exact .inr ⟨x.1.1, (List.getElem?_eq_some_iff.1 x.2).1, rfl⟩
        · exact h
  exact this pre _ (.inl rfl)
theorem curF_range {ts : List TbV} {p : Int} {b : Bool} (h : curF ts = (p, b)) : p < 0 ∨ ∃ i x, p = ((i : Nat) : Int) ∧ (b = true → ts[i]? = some x) := by
  unfold curF at h
  split at h
  · injection h with h1 h2
    rcases fold_range ts (bkL ts ts.length) with h3 | ⟨i, hi, h3⟩
    · exact .inl (by omega)
    · exact .inr ⟨i, ts[i], by omega, fun _ => List.getElem?_eq_getElem hi⟩
  · injection h with h1 h2
    subst h1 h2
    exact .inr ⟨0, ⟨⟨0, 0, 0, [], [], []⟩, none, 0, []⟩, rfl, fun h => nomatch h⟩
/-- How long the lists of a chain's zones are. -/
def ChLen (ts : List TbV) : Prop := ∀ x ∈ ts, x.zs.length ≤ 1000 ∧ ∀ y ∈ x.zs, ZnLen y.e.z
/-- What table.Newest gives. -/
def NewP (w : World) (ts : List TbV) (e : Ending) (w' : World) : Prop :=
  Below w.heap.size w w' ∧ ∃ p b, curF ts = (p, b) ∧ ((b = false ∧ e = .returned (.tuple #[.agg Tryz.zeroCells47, I 1])) ∨ (b = true ∧ p < 0 ∧ e = .returned (.tuple #[.agg Tryz.zeroCells47, I 4])) ∨
    (b = true ∧ ∃ i x y, p = ((i : Nat) : Int) ∧ ts[i]? = some x ∧ y.t = x.t ∧ y.zs.map (·.e) = x.zs.map (·.e) ∧ e = .returned (.tuple #[.agg (tbVal y.t (.slice y.A y.zs.length y.c)), I 0]) ∧ TbO w.heap.size w' y))
theorem zt_size : (Tryz.prog.info? 47).map (·.size) = some Tryz.zeroCells47.size := by kernel_rfl
theorem zt_one : Tryz.zeroCells47.all (·.oneCell') = true := by kernel_rfl
theorem zt_alloc : (Tryz.prog.info? 47).map (fun i => (i.zero, i.size)) = some (some (.agg Tryz.zeroCells47), Tryz.zeroCells47.size) := by kernel_rfl
set_option maxRecDepth 10000 in
set_option maxHeartbeats 2000000 in
theorem newest_any (A : Option Addr) (c n : Nat) (ts : List TbV) (w : World) (hn : ts.length = n) (hn1 : n ≤ 1000) (hl : ChLen ts) (h : ChAt w w.heap.size A ts) :
    Calls Tryz.prog 7 #[.slice A n c] w (NewP w ts) := by
  have HR0 := Lib.hid (heap_alloc_last w (.cells Tryz.zeroCells47 47))
  have HB0 := Lib.hid (below_var w (.cells Tryz.zeroCells47 47))
  have HC := Lib.hid (current_any A c n ts (w.alloc (.cells Tryz.zeroCells47 47)) hn hn1 (h.grow (below_var w _)))
  have HN := Lib.hid hn
  have HL := Lib.hid hl
  have HCH := Lib.hid h
  clear hn hl h
  go_enter Tryz.func7, Tryz.ntmps7
  go_wp2_with (first
    | (with_reducible refine g_alloc 47 ?_; refine wpList_alloc_as rfl _ rfl Tryz.zeroCells47 zt_alloc ?_))
  refine HC.out.mono ?_
  rintro e w1 ⟨p, b, rfl, hp, hb1⟩
  have HR1 := Lib.hid ((hb1.block _ (by simp)).trans HR0.out)
  have HB1 := Lib.hid (below_trans HB0.out hb1)
  have HP := Lib.hid hp
  have hrg := curF_range hp
  clear hb1 hp HC HR0 HB0
  cases b with
  | false =>
    clear hrg
    go_wp2_with (first
      | ((with_reducible refine pb_build 47 ?_); refine wpList_build_as rfl _ rfl Tryz.zeroCells47 (by kernel_rfl) ?_)
      | ((with_reducible refine g_store 47 ?_); refine wpList_store_row rfl _ _ _ rfl w.heap.size Tryz.zeroCells47 rfl rfl 47 Tryz.zeroCells47 HR1.out zt_size rfl zt_one ?_))
    refine bodyPost_ret (v := .tuple #[.agg Tryz.zeroCells47, I 1]) (results_row_tmp rfl _ _ w.heap.size _ Tryz.zeroCells47 (0, 0) _ rfl (setRow_heap _ _ _ _ _ _ HR1.out) Tryz.underlying47 rfl zt_size _ rfl) rfl ?_
    exact ⟨below_setRow HB1.out (Nat.le_refl _) _, p, false, HP.out, .inl ⟨rfl, rfl⟩⟩
  | true =>
    rcases hrg with hneg | ⟨i, x, rfl, hx⟩
    · go_wp2_with (first
        | ((with_reducible refine pb_build 47 ?_); refine wpList_build_as rfl _ rfl Tryz.zeroCells47 (by kernel_rfl) ?_)
        | ((with_reducible refine g_store 47 ?_); refine wpList_store_row rfl _ _ _ rfl w.heap.size Tryz.zeroCells47 rfl rfl 47 Tryz.zeroCells47 HR1.out zt_size rfl zt_one ?_))
      refine bodyPost_ret (v := .tuple #[.agg Tryz.zeroCells47, I 4]) (results_row_tmp rfl _ _ w.heap.size _ Tryz.zeroCells47 (0, 0) _ rfl (setRow_heap _ _ _ _ _ _ HR1.out) Tryz.underlying47 rfl zt_size _ rfl) rfl ?_
      exact ⟨below_setRow HB1.out (Nat.le_refl _) _, p, true, HP.out, .inr (.inl ⟨rfl, hneg, rfl⟩)⟩
    · have hx := hx rfl
      have hil : i < n := by have h1 := (List.getElem?_eq_some_iff.1 hx).1; have := HN.out; omega
      have hxm := List.mem_of_getElem? hx
      have HAT : Hid (TbAt w1 w1.heap.size x) := Lib.hid ((HCH.out.each x hxm).grow HB1.out)
      have h68 := (HCH.out.each x hxm).size
      obtain ⟨b, off, rfl, hbw, htab⟩ : ∃ b off, A = some ⟨b, off, none⟩ ∧ b < w.heap.size ∧ TabsAt w b off ts := by
        rcases tabs_of HCH.out with h0 | h0
        · have := HN.out; omega
        · exact h0
      have HCX : Hid (w1.rangeAt b (off + i * 68) x.cells) := Lib.hid (rangeAt_keep (htab i x hx).1 HB1.out hbw)
      have HSZ : Hid ((Tryz.prog.info? 47).map (·.size) = some x.cells.length) := Lib.hid (by rw [h68]; kernel_rfl)
      have HX := Lib.hid hx
      have HLX := Lib.hid (HL.out x hxm)
      have i0 : (0 : Int) ≤ (i : Int) := by omega
      have i1 : (i : Int) < (n : Int) := by omega
      clear hx hxm h68 htab
      go_wp2_with (with_reducible refine g_load 47 ?_; refine wpList_load_mid rfl _ _ rfl b (off + i * 68) rfl x.cells _ HCX.out Tryz.underlying47 rfl HSZ.out ?_)
      refine (show Calls Tryz.prog _ #[.agg x.cells.toArray] w1 _ from cloned_any x x.zs.length w1 rfl HLX.out.1 HLX.out.2 HAT.out).mono ?_
      rintro e w2 ⟨y, hy1, hy2, rfl, hy3, hb2⟩
      have HY := Lib.hid (show y.t = x.t ∧ y.zs.map (·.e) = x.zs.map (·.e) ∧ TbO w1.heap.size w2 y from ⟨hy1, hy2, hy3⟩)
      have HR2 := Lib.hid ((hb2.block _ (Array.getElem?_eq_some_iff.1 HR1.out).1).trans HR1.out)
      have HB2 := Lib.hid (below_trans HB1.out hb2)
      have hlt1 := (Array.getElem?_eq_some_iff.1 HR1.out).1
      have HSY := Lib.hid (tb_info y.t (.slice y.A y.zs.length y.c) hy3.prev hy3.mac)
      have HZY : Hid (Tryz.zeroCells47.size = (tbVal y.t (.slice y.A y.zs.length y.c)).size) := Lib.hid (by rw [tb_size _ _ hy3.prev hy3.mac]; kernel_rfl)
      clear hy1 hy2 hy3 hb2
      go_wp2_with ((with_reducible refine g_store 47 ?_); refine wpList_store_row rfl _ _ _ rfl w.heap.size (tbVal y.t (.slice y.A y.zs.length y.c)) rfl rfl 47 Tryz.zeroCells47 HR2.out HSY.out HZY.out (tbVal_one _ _ _ _) ?_)
      refine bodyPost_ret (v := .tuple #[.agg (tbVal y.t (.slice y.A y.zs.length y.c)), I 0]) (results_row_tmp rfl _ _ w.heap.size _ (tbVal y.t (.slice y.A y.zs.length y.c)) (0, 0) _ rfl (setRow_heap _ _ _ _ _ _ HR2.out) Tryz.underlying47 rfl HSY.out _ rfl) rfl ?_
      refine ⟨below_setRow HB2.out (Nat.le_refl _) _, (i : Int), true, HP.out, .inr (.inr ⟨rfl, i, x, y, rfl, HX.out, HY.out.1, HY.out.2.1, rfl, ?_⟩)⟩
      exact (HY.out.2.2.of_blocks (by simp [World.setRow]) fun k h1 _ => setRow_other _ _ k _ (by omega)).lower (by omega)
end Go.Proofs.YtbdkalpljhpnmaaGreat
