/- The texts MadeR, Made, UnP, SvQ, in this order. -/
import Derived.Test.YthhbbebabmemfaaGreatG05
import Derived.BigQuiet
import Derived.Deep.AppendLies
import Derived.Deep.CutBlock
import Derived.Deep.DeepCutAuto
import Derived.Deep.DrawnRows
import Derived.Deep.MidRow
import Derived.Deep.QuietTactic
import Derived.Deep.RegionHeld3
import Derived.Deep.RegionLaw
import Derived.Deep.WholeRow
import Derived.Great.BuildSlice
import Derived.Laws.BytesString
import Derived.Laws.CopyOwn
import Derived.Laws.EntriesVeiled
import Derived.Laws.MakeOwn
import Derived.Laws.ResultCell
import Derived.Laws.Rows
import Derived.Laws.Tables
import Derived.Lib.Hide
import Derived.LoopIn
import Derived.LoopNIn
import Derived.Maps.AppendAt
import Derived.Outline
import Derived.OwnWalkIn
import Derived.RangeFuncBound
import Derived.RangeFuncBox
import Derived.RangeFuncCalls
import Derived.RangeFuncLeaves
import Derived.RangeFuncNested
import Derived.Shelf.Abstract
import Derived.Shelf.Bytes.SlSmallAll
import Derived.Shelf.RegionOpen
import Derived.StillTailTactics
import Derived.Stop.BytesEq
import Derived.TacticsInMore
import Derived.WalkKit
import Derived.WalkLawsBesides
import Derived.WalkSpells
import Derived.Test.YthhbbebabmemfaaGreatG03
import Derived.Test.YthhbbebabmemfaaGreatG04
import Derived.Laws.Cover3
import Derived.MapKept
/- kalendsref20.made for the digest; made for every field. -/
namespace Go.Proofs.YthhbbebabmemfaaGreat
open Go Go.RowKit

theorem put_ref (l : Lt) (s : Sl) (o : Nat) (x : Int) (h0 : 0 ≤ x) (h1 : x < 256) : ∃ b : UInt8, (ltVal l s).setIfInBounds (30 + o) (.int .u8 x) = ltVal { l with ref := l.ref.set o b } s := by
  obtain ⟨n, rfl⟩ := Int.eq_ofNat_of_zero_le h0
  refine ⟨UInt8.ofNat n, ?_⟩
  have hb : Extern.Stop.cell (UInt8.ofNat n) = .int .u8 (n : Int) := by
    unfold Extern.Stop.cell
    simp
    omega
  unfold ltVal ltCells refCells
  rw [List.setIfInBounds_toArray, List.set_append_right _ _ (by simp), List.map_set, hb]
  simp
def RfRel (w : World) (mb : Nat) (xs : List Int) (a0 nodes : Nat) (l : Lt) (s : Sl) (i : Value) (wr : World) : Prop :=
  ∃ (j : Nat) (r : List UInt8) (a' : Nat), j ≤ 4 ∧ i = I j ∧ r.length = 32 ∧ a' ≤ a0 + j ∧ TS w mb xs a' nodes (ltVal { l with ref := r } s) wr
attribute [local go_sem] ltVal_get
set_option maxRecDepth 10000 in
set_option maxHeartbeats 4000000 in
theorem made_ref (w : World) (lo mb : Nat) (xs : List Int) (at_ nodes : Nat) (l : Lt) (s : Sl) (ns : List NdV) (h : MkSt w mb xs at_ nodes) (hx : XsOK xs) (hat : at_ ≤ 100000) (hmem : LtMem lo w l s ns) (hlo : mb < lo) (_hlw : lo ≤ w.heap.size) (hr : l.ref.length = 32) :
    Calls Tryz.prog 32 #[pt mb, .agg (ltVal l s), I 16] w (MadeP w lo mb xs at_ nodes l s ns 16) := by
  have G0 : Hid (TS w mb xs at_ nodes (ltVal l s) ((w.alloc (.cells (ltVal l s) 37)).alloc (.cells (ltVal zLt zSl) 37))) := Lib.hid (TS.start h)
  have hml := h.lt
  have HM := Lib.hid hmem
  have HR := Lib.hid hr
  have HZ := Lib.hid (ltVal_size l s hr)
  clear h hmem hr
  go_enter Tryz.func32, Tryz.ntmps32
  go_wp2_with (with_reducible refine g_alloc 37 ?_; refine wpList_alloc_as rfl _ rfl (ltVal zLt zSl) lt_zero ?_)
  refine (numeric_any 16 _).mono ?_
  rintro e w1 ⟨rfl, rfl⟩
  rw [show numB 16 = false from rfl]
  go_wp2_with fail
  clear HZ
  go_loopw [13] (fun i wr => RfRel w mb xs at_ nodes l s i wr) (fun i _ => (4 - intOf i).toNat)
  case atStart => exact ⟨0, l.ref, _, by omega, rfl, HR.out, by omega, G0.out⟩
  case round =>
    obtain ⟨j, r, a', hj, rfl, hrl, ha', hts⟩ := hrel
    have HG := Lib.hid hts
    have HRL := Lib.hid hrl
    have hlt1 := hts.lt
    clear hts hrl G0
    by_cases hlt : (j : Int) < 4
    · have hj4 : j = 0 ∨ j = 1 ∨ j = 2 ∨ j = 3 := by omega
      rcases hj4 with rfl | rfl | rfl | rfl
      · go_wp2_with fail
        refine (HG.out.pick hx 256 (by omega) (by omega) (by omega)).mono ?_
        rintro e w2 ⟨x, rfl, x1, x2, -, g2⟩
        have hcx : ∃ v, w2.cell? ⟨w.heap.size, 30, none⟩ = some v := ⟨_, (g2.cell 30).trans (Array.getElem?_eq_getElem (by rw [ltVal_size _ _ HRL.out]; omega))⟩
        obtain ⟨v0, hc2⟩ := hcx
        have hf2 := g2.froz 30
        have hwx : IntKind.u8.wrap x = x := by rw [IntKind.wrap_u8]; omega
        obtain ⟨b, hb⟩ := put_ref { l with ref := r } s 0 x x1 x2
        have G3 : Hid (TS w mb xs (a' + 1) nodes (ltVal { l with ref := r.set 0 b } s) (w2.setCell ⟨w.heap.size, 30, none⟩ (.int .u8 x))) := Lib.hid (by have := g2.store 30 (.int .u8 x); rw [show 30 = 30 + 0 from rfl, hb] at this; exact this)
        have HLN : Hid ((r.set 0 b).length = 32) := Lib.hid (by rw [List.length_set]; exact HRL.out)
        clear g2 hb
        go_wp2_with fail
        go_roundw
        case rel => exact ⟨1, _, _, by omega, by go_num, HLN.out, by omega, G3.out⟩
        case measure => simp [intOf]
      · go_wp2_with fail
        refine (HG.out.pick hx 256 (by omega) (by omega) (by omega)).mono ?_
        rintro e w2 ⟨x, rfl, x1, x2, -, g2⟩
        have hcx : ∃ v, w2.cell? ⟨w.heap.size, 38, none⟩ = some v := ⟨_, (g2.cell 38).trans (Array.getElem?_eq_getElem (by rw [ltVal_size _ _ HRL.out]; omega))⟩
        obtain ⟨v0, hc2⟩ := hcx
        have hf2 := g2.froz 38
        have hwx : IntKind.u8.wrap x = x := by rw [IntKind.wrap_u8]; omega
        obtain ⟨b, hb⟩ := put_ref { l with ref := r } s 8 x x1 x2
        have G3 : Hid (TS w mb xs (a' + 1) nodes (ltVal { l with ref := r.set 8 b } s) (w2.setCell ⟨w.heap.size, 38, none⟩ (.int .u8 x))) := Lib.hid (by have := g2.store 38 (.int .u8 x); rw [show 38 = 30 + 8 from rfl, hb] at this; exact this)
        have HLN : Hid ((r.set 8 b).length = 32) := Lib.hid (by rw [List.length_set]; exact HRL.out)
        clear g2 hb
        go_wp2_with fail
        go_roundw
        case rel => exact ⟨2, _, _, by omega, by go_num, HLN.out, by omega, G3.out⟩
        case measure => simp [intOf]
      · go_wp2_with fail
        refine (HG.out.pick hx 256 (by omega) (by omega) (by omega)).mono ?_
        rintro e w2 ⟨x, rfl, x1, x2, -, g2⟩
        have hcx : ∃ v, w2.cell? ⟨w.heap.size, 46, none⟩ = some v := ⟨_, (g2.cell 46).trans (Array.getElem?_eq_getElem (by rw [ltVal_size _ _ HRL.out]; omega))⟩
        obtain ⟨v0, hc2⟩ := hcx
        have hf2 := g2.froz 46
        have hwx : IntKind.u8.wrap x = x := by rw [IntKind.wrap_u8]; omega
        obtain ⟨b, hb⟩ := put_ref { l with ref := r } s 16 x x1 x2
        have G3 : Hid (TS w mb xs (a' + 1) nodes (ltVal { l with ref := r.set 16 b } s) (w2.setCell ⟨w.heap.size, 46, none⟩ (.int .u8 x))) := Lib.hid (by have := g2.store 46 (.int .u8 x); rw [show 46 = 30 + 16 from rfl, hb] at this; exact this)
        have HLN : Hid ((r.set 16 b).length = 32) := Lib.hid (by rw [List.length_set]; exact HRL.out)
        clear g2 hb
        go_wp2_with fail
        go_roundw
        case rel => exact ⟨3, _, _, by omega, by go_num, HLN.out, by omega, G3.out⟩
        case measure => simp [intOf]
      · go_wp2_with fail
        refine (HG.out.pick hx 256 (by omega) (by omega) (by omega)).mono ?_
        rintro e w2 ⟨x, rfl, x1, x2, -, g2⟩
        have hcx : ∃ v, w2.cell? ⟨w.heap.size, 54, none⟩ = some v := ⟨_, (g2.cell 54).trans (Array.getElem?_eq_getElem (by rw [ltVal_size _ _ HRL.out]; omega))⟩
        obtain ⟨v0, hc2⟩ := hcx
        have hf2 := g2.froz 54
        have hwx : IntKind.u8.wrap x = x := by rw [IntKind.wrap_u8]; omega
        obtain ⟨b, hb⟩ := put_ref { l with ref := r } s 24 x x1 x2
        have G3 : Hid (TS w mb xs (a' + 1) nodes (ltVal { l with ref := r.set 24 b } s) (w2.setCell ⟨w.heap.size, 54, none⟩ (.int .u8 x))) := Lib.hid (by have := g2.store 54 (.int .u8 x); rw [show 54 = 30 + 24 from rfl, hb] at this; exact this)
        have HLN : Hid ((r.set 24 b).length = 32) := Lib.hid (by rw [List.length_set]; exact HRL.out)
        clear g2 hb
        go_wp2_with fail
        go_roundw
        case rel => exact ⟨4, _, _, by omega, by go_num, HLN.out, by omega, G3.out⟩
        case measure => simp [intOf]
    · have HR0 := HR
      clear HR
      have HR : Hid (r.length = 32) := HRL
      go_wp2_with (first
        | (with_reducible refine g_load 37 ?_; refine wpList_load_Row rfl _ _ rfl w.heap.size rfl (ltVal { l with ref := r } s) HG.out.row _ Tryz.underlying37 rfl (size62 _ _ HR.out) ?_)
        | (with_reducible refine g_store 37 ?_; refine wpList_store_row rfl _ _ _ rfl (w.heap.size + 1) (ltVal { l with ref := r } s) rfl rfl 37 (ltVal zLt zSl) HG.out.res (size62 _ _ HR.out) (sz_eq _ _ HR.out) (ltVal_one _ _) ?_))
      exact bodyPost_ret (v := .agg (ltVal { l with ref := r } s)) (results_cell_row rfl _ _ (w.heap.size + 1) _ (ltVal { l with ref := r } s) (0, 0) _ rfl (setRow_heap _ _ _ _ _ _ HG.out.res) Tryz.underlying37 rfl (size62 _ _ HR.out)) rfl (HG.out.done_same (at_ := at_) (nodes := nodes) (.inr (.inr (.inr (.inr (.inr ⟨rfl, rfl, r, HR.out, rfl⟩))))) HM.out hlo rfl rfl (by omega) (by omega))
theorem made_any (w : World) (lo mb : Nat) (xs : List Int) (at_ nodes : Nat) (l : Lt) (s : Sl) (ns : List NdV) (f : Nat) (h : MkSt w mb xs at_ nodes) (hx : XsOK xs) (hat : at_ ≤ 100000) (hnd : nodes ≤ 100000) (hmem : LtMem lo w l s ns) (hlo : mb < lo) (hlw : lo ≤ w.heap.size) (hr : l.ref.length = 32) (hf : f < 17)
    (hC : f = 15 → l.cells = [] ∧ s.C = none ∧ s.e = 0) : Calls Tryz.prog 32 #[pt mb, .agg (ltVal l s), I f] w (MadeP w lo mb xs at_ nodes l s ns f) := by
  cases hn : numB f with
  | true => exact made_num w lo mb xs at_ nodes l s ns f h hx hat hmem hlo hr hf hn
  | false =>
    have h5 : f = 9 ∨ f = 10 ∨ f = 14 ∨ f = 15 ∨ f = 16 := by simp [numB] at hn; omega
    rcases h5 with rfl | rfl | rfl | rfl | rfl
    · exact made_move w lo mb xs at_ nodes l s ns h hx hat hmem hlo hlw hr
    · exact made_series w lo mb xs at_ nodes l s ns h hx hat hnd hmem hlo hlw hr
    · exact made_window w lo mb xs at_ nodes l s ns h hx hat hmem hlo hlw hr
    · obtain ⟨h1, h2, h3⟩ := hC rfl
      exact made_cells w lo mb xs at_ nodes l s ns h hx hat h1 h2 h3 hmem hlo hlw hr
    · exact made_ref w lo mb xs at_ nodes l s ns h hx hat hmem hlo hlw hr
end Go.Proofs.YthhbbebabmemfaaGreat

/- kalendsref20.Made: the letters that are made. -/
namespace Go.Proofs.YthhbbebabmemfaaGreat
open Go Go.RowKit

def bareF (f : Int) : Bool := (f == 4) || (f == 5) || (f == 6) || (f == 12) || (f == 10)
def skipB (k : Int) (bare : Bool) (f : Nat) : Bool := !(usesB k f) || (bare && bareF f)
/-- The letter behind the fields below j. -/
inductive MadeTo (bare : Bool) (l0 : Lt) : Nat → Lt → List NdV → Prop
  | zero : MadeTo bare l0 0 l0 []
  | skip {j : Nat} {l : Lt} {ns : List NdV} : MadeTo bare l0 j l ns → skipB l0.kind bare j = true → MadeTo bare l0 (j + 1) l ns
  | step {j : Nat} {l l' : Lt} {ns ns' : List NdV} : MadeTo bare l0 j l ns → skipB l0.kind bare j = false → MadeF l ns j l' ns' → MadeTo bare l0 (j + 1) l' ns'
def adjust (l : Lt) : Lt := if l.kind = 6 ∧ l.scope = 3 then { l with day := 0 } else if l.kind = 5 ∧ l.other = l.person then { l with other := l.other + 1 } else l
/-- The result's variable (zero), the maker behind it, the letter's variable at lb. -/
structure MS (w0 : World) (xs : List Int) (a nd lb : Nat) (cs : Array Value) (W : World) : Prop where
  mkr : MkSt W (w0.heap.size + 1) xs a nd
  keep : Below w0.heap.size w0 W
  hb : w0.heap.size + 1 < lb
  var : W.heap[lb]? = some (.cells cs 37 (0, 0))
  res : W.heap[w0.heap.size]? = some (.cells (ltVal zLt zSl) 37 (0, 0))
section
variable {w0 W W' : World} {a a' nd nd' lb : Nat} {xs : List Int} {cs : Array Value}
theorem MS.lt (h : MS w0 xs a nd lb cs W) : lb < W.heap.size := (Array.getElem?_eq_some_iff.1 h.var).1
theorem MS.cell (h : MS w0 xs a nd lb cs W) : ∀ i, W.cell? ⟨lb, i, none⟩ = cs[i]? := fun i => cell_of_row W _ i _ _ _ h.var
theorem MS.froz (h : MS w0 xs a nd lb cs W) : ∀ i, W.frozen? ⟨lb, i, none⟩ = false := fun i => frozen_of_row W _ i _ _ h.var
theorem MS.row (h : MS w0 xs a nd lb cs W) : Row W lb cs := ⟨h.lt, h.cell⟩
theorem MS.step (h : MS w0 xs a nd lb cs W) (hm : MkSt W' (w0.heap.size + 1) xs a' nd') (hk : MKeep (w0.heap.size + 1) W W') : MS w0 xs a' nd' lb cs W' := by
  have h1 := h.hb
  have h2 := h.lt
  refine ⟨hm, ?_, h.hb, (hk.block _ (by omega) (by omega)).trans h.var, (hk.block _ (by omega) (by omega)).trans h.res⟩
  exact ⟨hk.os.trans h.keep.os, hk.tape.trans h.keep.tape, hk.output.trans h.keep.output, Nat.le_trans h.keep.size hk.size, fun k hk' => (hk.block k (by omega) (by omega)).trans (h.keep.block k hk')⟩
theorem MS.below (h : MS w0 xs a nd lb cs W) (hb : Below W.heap.size W W') : MS w0 xs a nd lb cs W' := h.step (h.mkr.grow hb) (MKeep.of_below hb)
theorem MS.drew (h : MS w0 xs a nd lb cs W) : MS w0 xs a nd lb cs W.drew := ⟨h.mkr, ⟨h.keep.os, h.keep.tape, h.keep.output, h.keep.size, h.keep.block⟩, h.hb, h.var, h.res⟩
theorem MS.pick (h : MS w0 xs a nd lb cs W) (hx : XsOK xs) (n : Int) (ha : a ≤ 1000000000) (hn : 0 < n) (hn2 : n ≤ 1000000000000000000) :
    Calls Tryz.prog 30 #[pt (w0.heap.size + 1), I n] W fun e W' => ∃ r, e = .returned (I r) ∧ 0 ≤ r ∧ r < n ∧ MKeep (w0.heap.size + 1) W W' ∧ MS w0 xs (a + 1) nd lb cs W' :=
  (pick_any W _ xs a nd n h.mkr hx ha hn hn2).mono fun _ _ ⟨r, h1, h2, h3, h4, h5⟩ => ⟨r, h1, h2, h3, h5, h.step h4 h5⟩
theorem MS.store (h : MS w0 xs a nd lb cs W) (o : Nat) (v : Value) : MS w0 xs a nd lb (cs.setIfInBounds o v) (W.setCell ⟨lb, o, none⟩ v) := by
  have h1 := h.hb
  refine ⟨h.mkr.far _ _ (by show w0.heap.size + 1 < lb; omega), h.keep.setCell (p := ⟨lb, o, none⟩) (by show w0.heap.size ≤ lb; omega) _, h.hb, heap_setCell_same W _ o _ _ _ h.var, (heap_setCell_other W _ _ v (by show w0.heap.size ≠ lb; omega)).trans h.res⟩
/-- The whole letter stored. -/
theorem MS.put (h : MS w0 xs a nd lb cs W) (ds : Array Value) : MS w0 xs a nd lb ds (W.setRow lb ds) := by
  have h1 := h.hb
  have hb : Below w0.heap.size w0 (W.setRow lb ds) := below_setRow h.keep (by omega) ds
  refine ⟨?_, hb, h.hb, setRow_heap _ _ _ _ _ _ h.var, (setRow_other W _ _ _ (by omega)).trans h.res⟩
  obtain ⟨A', c', g1, g2⟩ := h.mkr
  exact ⟨A', c', (setRow_other W _ _ _ (by omega)).trans g1, g2.keep (below_setRow (Below.refl _ W) (by omega) _)⟩
end
theorem LtMem.put {lo lb : Nat} {W : World} {l : Lt} {s : Sl} {ns : List NdV} (h : LtMem lo W l s ns) (hb : lb < lo) (ds : Array Value) : LtMem lo (W.setRow lb ds) l s ns :=
  ⟨h.rule.of_blocks (by simp) fun k hk _ => setRow_other _ _ k _ (by omega), h.names, ownsRow_blocks h.moves fun k hk _ => setRow_other _ _ k _ (by omega), ownsRow_blocks h.cells fun k hk _ => setRow_other _ _ k _ (by omega)⟩
theorem LtMem.set {lo lb : Nat} {W : World} {l l' : Lt} {s : Sl} {ns : List NdV} (h : LtMem lo W l s ns) (hb : lb < lo) (o : Nat) (u : Value) (h1 : l'.series = l.series) (h2 : l'.cells = l.cells) : LtMem lo (W.setCell ⟨lb, o, none⟩ u) l' s ns :=
  ⟨by rw [h1]; exact h.rule.put lb o u hb, by rw [h1]; exact h.names, by rw [h1]; exact ownsRow_setCell_below (a := ⟨lb, o, none⟩) h.moves hb u, by rw [h2]; exact ownsRow_setCell_below (a := ⟨lb, o, none⟩) h.cells hb u⟩
def startLt (k f t : Int) : Lt := { zLt with kind := k, src := f, dst := t }
/-- What 'Made' gives. -/
structure MadeLt (l : Lt) (ns : List NdV) : Prop where
  made : ∃ bare k f t l1, 1 ≤ k ∧ k ≤ 18 ∧ 0 ≤ f ∧ f ≤ 15 ∧ 0 ≤ t ∧ t ≤ 15 ∧ f ≠ t ∧ (bare = true → k = 8) ∧ MadeTo bare (startLt k f t) 17 l1 ns ∧ l = adjust l1
  ref : l.ref.length = 32
def MadeQ (w : World) (e : Ending) (w' : World) : Prop := ∃ l s ns, e = .returned (.agg (ltVal l s)) ∧ MadeLt l ns ∧ LtMem (w.heap.size + 2) w' l s ns ∧ Below w.heap.size w w'
attribute [local go_sem] ltVal_get lt_get0 lt_get1 lt_get7 lt_get8 lt_get10
theorem put_src (l : Lt) (s : Sl) (x : Int) : (ltVal l s).setIfInBounds 1 (I x) = ltVal { l with src := x } s := by simp [ltVal, ltCells]
theorem put_dst (l : Lt) (s : Sl) (x : Int) : (ltVal l s).setIfInBounds 2 (I x) = ltVal { l with dst := x } s := by simp [ltVal, ltCells]
theorem ints_take {w : World} {B : Nat} {A : Option Addr} {xs : List Int} (h : IntsAt w B A xs) (n : Nat) : IntsAt w B A (xs.take n) := by
  rcases h with h | ⟨b, off, hA, hbB, hc⟩
  · exact .inl (by simp [h])
  · refine .inr ⟨b, off, hA, hbB, fun j hj => ?_⟩
    rw [List.length_take] at hj
    rw [hc j (by omega), List.getElem?_take_of_lt (by omega)]
theorem startMk {w : World} {A : Option Addr} {xs : List Int} {m c : Nat} (hA : IntsAt w w.heap.size A xs) (hm : (xs.take 60).length = m) (z : Array Value) (t : TypeId) :
    MkSt ((w.alloc (.cells z t)).alloc (.cells #[.slice A m c, .int .i64 0, .int .i64 2, .int .i64 0] 68)) (w.heap.size + 1) (xs.take 60) 0 0 := by
  subst hm
  have h2 := heap_alloc2_new w (.cells z t) (.cells #[.slice A (xs.take 60).length c, .int .i64 0, .int .i64 2, .int .i64 0] 68)
  refine ⟨A, c, h2, ?_⟩
  have hb := below_trans (below_var w (.cells z t)) (below_var _ (.cells #[.slice A (xs.take 60).length c, .int .i64 0, .int .i64 2, .int .i64 0] 68))
  rcases (ints_take hA 60).keep hb with h | ⟨b, off, h1, h3, h4⟩
  · exact .inl h
  · exact .inr ⟨b, off, h1, by omega, h4⟩
theorem MS.start {w w1 : World} {xs : List Int} {a nd : Nat} {o : Obj} {cs : Array Value} (hm : MkSt w1 (w.heap.size + 1) xs a nd) (hk : MKeep (w.heap.size + 1) ((w.alloc (.cells (ltVal zLt zSl) 37)).alloc o) w1) :
    MS w xs a nd w1.heap.size cs (w1.alloc (.cells cs 37)) := by
  have hs := hk.size
  simp only [World.size_alloc] at hs
  have hb0 := below_trans (below_var w (.cells (ltVal zLt zSl) 37)) (below_var _ o)
  have hb1 := below_var w1 (.cells cs 37)
  refine ⟨hm.grow hb1, ?_, by omega, heap_alloc_last w1 _, ?_⟩
  · exact ⟨hb1.os.trans (hk.os.trans hb0.os), hb1.tape.trans (hk.tape.trans hb0.tape), hb1.output.trans (hk.output.trans hb0.output), by simp; omega, fun k hk' => by rw [hb1.block k (by omega), hk.block k (by simp; omega) (by omega), hb0.block k hk']⟩
  · rw [hb1.block _ (by omega), hk.block _ (by simp; omega) (by omega)]
    exact heap_alloc2_old w _ _
def MCut1 (w : World) (ys : List Int) (k0 f0 : Int) (lb : Nat) (p q r : Value) (wx : World) : Prop :=
  p = .pointer (some ⟨w.heap.size, 0, none⟩) ∧ q = pt (w.heap.size + 1) ∧ r = .pointer (some ⟨lb, 0, none⟩) ∧ ∃ t, 0 ≤ t ∧ t ≤ 15 ∧ f0 ≠ t ∧ MS w ys 3 0 lb (ltVal (startLt (1 + k0) f0 t) zSl) wx
def MCut2 (w : World) (ys : List Int) (k0 f0 t : Int) (lb : Nat) (p q r b : Value) (wx : World) : Prop :=
  p = .pointer (some ⟨w.heap.size, 0, none⟩) ∧ q = pt (w.heap.size + 1) ∧ r = .pointer (some ⟨lb, 0, none⟩) ∧ ∃ a bare, b = .bool bare ∧ (bare = true → 1 + k0 = 8) ∧ a ≤ 4 ∧ MS w ys a 0 lb (ltVal (startLt (1 + k0) f0 t) zSl) wx
theorem MadeF.kind {l l' : Lt} {ns ns' : List NdV} {f : Nat} (h : MadeF l ns f l' ns') : l'.kind = l.kind := by
  rcases h with ⟨_, x, _, _, _, rfl, _⟩ | ⟨_, _, ⟨_, m, rfl, _⟩ | ⟨_, _, rfl⟩⟩ | ⟨_, ⟨_, se, rfl, _⟩ | ⟨_, _, rfl, _⟩⟩ | ⟨_, _, a, b, _, _, _, rfl⟩ | ⟨_, _, zs, rfl, _⟩ | ⟨_, _, r, _, rfl⟩
  · unfold setNum; split <;> rfl
  all_goals rfl
theorem MadeTo.kind {bare : Bool} {l0 l : Lt} {j : Nat} {ns : List NdV} (h : MadeTo bare l0 j l ns) : l.kind = l0.kind := by
  induction h with
  | zero => rfl
  | skip _ _ ih => exact ih
  | step _ _ hf ih => exact hf.kind.trans ih
theorem MadeF.ref {l l' : Lt} {ns ns' : List NdV} {f : Nat} (h : MadeF l ns f l' ns') (hr : l.ref.length = 32) : l'.ref.length = 32 := by
  rcases h with ⟨_, x, _, _, _, rfl, _⟩ | ⟨_, _, ⟨_, m, rfl, _⟩ | ⟨_, _, rfl⟩⟩ | ⟨_, ⟨_, se, rfl, _⟩ | ⟨_, _, rfl, _⟩⟩ | ⟨_, _, a, b, _, _, _, rfl⟩ | ⟨_, _, zs, rfl, _⟩ | ⟨_, _, r, h, rfl⟩
  · rw [setNum_ref]; exact hr
  all_goals first | exact hr | exact h
theorem MadeF.cells {l l' : Lt} {ns ns' : List NdV} {f : Nat} (h : MadeF l ns f l' ns') (hf : f ≠ 15) : l'.cells = l.cells := by
  rcases h with ⟨_, x, _, _, _, rfl, _⟩ | ⟨_, _, ⟨_, m, rfl, _⟩ | ⟨_, _, rfl⟩⟩ | ⟨_, ⟨_, se, rfl, _⟩ | ⟨_, _, rfl, _⟩⟩ | ⟨_, _, a, b, _, _, _, rfl⟩ | ⟨h, _, zs, rfl, _⟩ | ⟨_, _, r, h, rfl⟩
  · rw [setNum_cellsL]
  all_goals first | rfl | exact absurd h hf
theorem setNum_other (l : Lt) (f : Nat) (x : Int) (hf : f ≠ 5) : (setNum l f x).other = l.other := by
  unfold setNum; split <;> first | rfl | (exact absurd rfl hf)
theorem bnd_five (k : Int) : (bnd k 5).2 ≤ 511 := by
  unfold bnd; simp only; split <;> simp
theorem MadeF.other {l l' : Lt} {ns ns' : List NdV} {f : Nat} (h : MadeF l ns f l' ns') (ho : 0 ≤ l.other ∧ l.other ≤ 511) : 0 ≤ l'.other ∧ l'.other ≤ 511 := by
  rcases h with ⟨_, x, h1, h2, _, rfl, _⟩ | ⟨_, _, ⟨_, m, rfl, _⟩ | ⟨_, _, rfl⟩⟩ | ⟨_, ⟨_, se, rfl, _⟩ | ⟨_, _, rfl, _⟩⟩ | ⟨_, _, a, b, _, _, _, rfl⟩ | ⟨h, _, zs, rfl, _⟩ | ⟨_, _, r, h, rfl⟩
  · by_cases h5 : f = 5
    · subst h5
      have := bnd_ok l.kind 5
      have h3 := bnd_five l.kind
      show 0 ≤ x ∧ x ≤ 511
      omega
    · rw [setNum_other _ _ _ h5]; exact ho
  all_goals exact ho
theorem MadeTo.other {bare : Bool} {l0 l : Lt} {j : Nat} {ns : List NdV} (h : MadeTo bare l0 j l ns) (h0 : l0.other = 0) : 0 ≤ l.other ∧ l.other ≤ 511 := by
  induction h with
  | zero => omega
  | skip _ _ ih => exact ih
  | step _ _ hf ih => exact hf.other ih
theorem put_day (l : Lt) (s : Sl) (x : Int) : (ltVal l s).setIfInBounds 11 (I x) = ltVal { l with day := x } s := by simp [ltVal, ltCells]
theorem put_other (l : Lt) (s : Sl) (x : Int) : (ltVal l s).setIfInBounds 8 (I x) = ltVal { l with other := x } s := by simp [ltVal, ltCells]
theorem adjust_ref (l : Lt) : (adjust l).ref = l.ref := by unfold adjust; split <;> (try split) <;> rfl
theorem MS.done {w wr : World} {ys : List Int} {a nd lb : Nat} {l : Lt} {s : Sl} {ns : List NdV} (h : MS w ys a nd lb (ltVal l s) wr) (hm : LtMem (lb + 1) wr l s ns) (hl : MadeLt l ns) : MadeQ w (.returned (.agg (ltVal l s))) (wr.setRow w.heap.size (ltVal l s)) := by
  have hb := h.hb
  have m := hm.put (Nat.lt_succ_of_lt (Nat.lt_of_succ_lt hb)) (ltVal l s)
  refine ⟨l, s, ns, rfl, hl, ⟨m.rule.lower (by omega), m.names, ownsRow_base' m.moves (by omega), ownsRow_base' m.cells (by omega)⟩, below_setRow h.keep (Nat.le_refl _) _⟩
def MaRel (w : World) (ys : List Int) (lb : Nat) (bare : Bool) (l0 : Lt) (f : Value) (wr : World) : Prop :=
  ∃ (j : Nat) (l : Lt) (s : Sl) (ns : List NdV) (a nd : Nat), j ≤ 17 ∧ f = I j ∧ MS w ys a nd lb (ltVal l s) wr ∧ LtMem (lb + 1) wr l s ns ∧ MadeTo bare l0 j l ns ∧ l.ref.length = 32 ∧ (j ≤ 15 → l.cells = [] ∧ s.C = none ∧ s.e = 0) ∧ a ≤ 4 + 400 * j ∧ nd ≤ 16 * j
set_option maxRecDepth 10000 in
set_option maxHeartbeats 4000000 in
theorem refMade_any (w : World) (A : Option Addr) (n c : Nat) (xs : List Int) (hn : xs.length = n) (hA : IntsAt w w.heap.size A xs) (hfit : ∀ j, j < xs.length → fits (xs[j]?.getD 0)) (hc : n ≤ c) (_hbig : c ≤ 9223372036854775807) :
    Calls Tryz.prog 8 #[.slice A n c] w (MadeQ w) := by
  have HX : Hid (XsOK (xs.take 60)) := Lib.hid ⟨by rw [List.length_take]; omega, fun j hj => by rw [List.length_take] at hj; rw [List.getElem?_take_of_lt (by omega)]; exact hfit j (by omega)⟩
  have HA := Lib.hid hA
  have hlen : (xs.take 60).length = (min (n : Int) 60).toNat := by rw [List.length_take, hn]; omega
  have HLN := Lib.hid hlen
  clear hA hfit hn hlen
  go_enter Tryz.func8, Tryz.ntmps8
  go_wp2_with (with_reducible refine g_alloc 37 ?_; refine wpList_alloc_as rfl _ rfl (ltVal zLt zSl) lt_zero ?_)
  have HM0 := Lib.hid (startMk (c := c) HA.out HLN.out (ltVal zLt zSl) 37)
  obtain ⟨ys, hys⟩ : ∃ ys, xs.take 60 = ys := ⟨_, rfl⟩
  rw [hys] at HX HM0
  refine (pick_any _ (w.heap.size + 1) ys 0 0 18 HM0.out HX.out (by omega) (by omega) (by omega)).mono ?_
  rintro e w1 ⟨k0, rfl, k1, k2, hm1, hk1⟩
  have G0 : Hid (MS w ys 1 0 w1.heap.size (ltVal (startLt (1 + k0) 0 0) zSl) (w1.alloc (.cells (ltVal (startLt (1 + k0) 0 0) zSl) 37))) := Lib.hid (MS.start hm1 hk1)
  have hlb : w.heap.size + 1 < w1.heap.size := G0.out.hb
  clear hm1 hk1 HM0 HLN HA hys
  go_wp2_with (first
      | (with_reducible refine at_build 37 ?_; refine wpList_build_as rfl _ rfl (ltVal (startLt (1 + k0) 0 0) zSl) (by kernel_rfl) ?_)
      | (with_reducible refine at_alloc 37 ?_; refine wpList_var_row rfl rfl _ _ _ rfl rfl rfl rfl _ (ltVal (startLt (1 + k0) 0 0) zSl) (lt_info' _ zSl rfl) rfl rfl rfl (ltVal_one _ _) ?_))
  refine (G0.out.pick HX.out 16 (by omega) (by omega) (by omega)).mono ?_
  rintro e w2 ⟨f0, rfl, f1, f2, -, g2⟩
  have g2c := g2.cell
  have g2f := g2.froz
  have G2 : Hid (MS w ys (1 + 1) 0 w1.heap.size (ltVal (startLt (1 + k0) f0 0) zSl) (w2.setCell ⟨w1.heap.size, 1, none⟩ (I f0))) := Lib.hid (by have := g2.store 1 (I f0); rw [put_src] at this; exact this)
  clear g2 G0
  go_wp2_with fail
  clear g2c g2f
  have HGD := Lib.hid G2.out.drew
  have hc1 : (w2.setCell ⟨w1.heap.size, 1, none⟩ (I f0)).cell? ⟨w1.heap.size, 1, none⟩ = some (I f0) := HGD.out.cell 1
  have hwf : IntKind.i64.wrap (f0 + 1) = f0 + 1 := by rw [IntKind.wrap_i64]; omega
  go_cut [2, 3, 4] (fun p q r wx => MCut1 w ys k0 f0 w1.heap.size p q r wx)
  case first =>
    go_region_law (go_simp; go_at_call 30; refine (HGD.out.pick HX.out 15 (by omega) (by omega) (by omega)).mono ?_; rintro e w5 ⟨t0, rfl, t1, t2, -, g5⟩; have hc5 : w5.cell? ⟨w1.heap.size, 1, none⟩ = some (I f0) := g5.cell 1; have hc52 : w5.cell? ⟨w1.heap.size, 2, none⟩ = some (I 0) := g5.cell 2; have hf52 := g5.froz 2; have hw2 : IntKind.i64.wrap (f0 + 1 + t0) = f0 + 1 + t0 := (by rw [IntKind.wrap_i64]; omega); have hw3 : (f0 + 1 + t0).tmod 16 = (f0 + 1 + t0) % 16 := Int.tmod_eq_emod_of_nonneg (by omega); have G5 : Hid (MS w ys (1 + 1 + 1) 0 w1.heap.size (ltVal (startLt (1 + k0) f0 ((f0 + 1 + t0) % 16)) zSl) (w5.setCell ⟨w1.heap.size, 2, none⟩ (I ((f0 + 1 + t0) % 16)))) := Lib.hid (by have := g5.store 2 (I ((f0 + 1 + t0) % 16)); rw [put_dst] at this; exact this); clear g5)
    all_goals
      go_wp2_with fail
      go_meet
      exact ⟨rfl, rfl, rfl, _, by omega, by omega, by omega, G5.out⟩
  case rest =>
    obtain ⟨rfl, rfl, rfl, t0, t1, t2, t3, g5⟩ := hcut
    have G5 := Lib.hid g5
    have hc0 : wc.cell? ⟨w1.heap.size, 0, none⟩ = some (I (1 + k0)) := g5.cell 0
    clear g5 HGD G2 hc1 hwf
    go_upto_region 5 with fail
    go_cut [2, 3, 4, 5] (fun p q r b wx => MCut2 w ys k0 f0 t0 w1.heap.size p q r b wx)
    case first =>
      by_cases hk8 : 1 + k0 = 8
      · go_wp2_with fail
        refine (G5.out.pick HX.out 3 (by omega) (by omega) (by omega)).mono ?_
        rintro e w6 ⟨z, rfl, z1, z2, -, g6⟩
        have G6 := Lib.hid g6
        clear g6
        go_wp2_with fail
        go_meet
        exact ⟨rfl, rfl, rfl, _, (z == 0), rfl, (fun _ => hk8), by omega, G6.out⟩
      · go_wp2_with fail
        go_meet
        exact ⟨rfl, rfl, rfl, _, false, rfl, (fun h => nomatch h), by omega, G5.out⟩
    case rest =>
      rename_i wc1 _
      obtain ⟨rfl, rfl, rfl, a0, bare, rfl, hb8, ha0, g6⟩ := hcut
      have G6 := Lib.hid g6
      have HB8 := Lib.hid hb8
      obtain ⟨kn, hkn⟩ : ∃ kn : Nat, 1 + k0 = (kn : Int) := ⟨(1 + k0).toNat, by omega⟩
      rw [hkn] at G6 HB8
      have hkn1 : 1 ≤ kn := by omega
      have hkn2 : kn ≤ 18 := by omega
      clear g6 hb8 G5 hc0
      go_wp2_with fail
      go_loopw [6] (fun i wr => MaRel w ys w1.heap.size bare (startLt kn f0 t0) i wr) (fun i _ => (17 - intOf i).toNat)
      case atStart => exact ⟨0, startLt kn f0 t0, zSl, [], a0, 0, by omega, rfl, G6.out, ⟨⟨World.ownsRow_nil _ _ _ _, (fun x hx => nomatch hx)⟩, rfl, World.ownsRow_nil _ _ _ _, World.ownsRow_nil _ _ _ _⟩, .zero, rfl, (fun _ => ⟨rfl, rfl, rfl⟩), by omega, by omega⟩
      case round =>
        obtain ⟨j, l, s, ns, a, nd, hj, rfl, hms, hmem, hmt, href, hC, ha, hnd⟩ := hrel
        have HG := Lib.hid hms
        have HM := Lib.hid hmem
        have HT := Lib.hid hmt
        have HR := Lib.hid href
        have HC := Lib.hid hC
        have hlt1 := hms.lt
        have hkk : l.kind = kn := hmt.kind
        have hcc := hms.cell
        have hc0 : wr.cell? ⟨w1.heap.size, 0, none⟩ = some (I kn) := by rw [hcc, ← hkk]; rfl
        have HCC := Lib.hid hcc
        have HKK := Lib.hid hkk
        clear hms hmem hmt href hC G6 hcc hkk
        by_cases hlt : (j : Int) < 17
        · go_wp2_with fail
          refine (refUses_any kn hkn1 hkn2 j wr).mono ?_
          rintro e w4 ⟨rfl, hb4⟩
          have G4 := Lib.hid (HG.out.below hb4)
          have M4 : Hid (LtMem (w1.heap.size + 1) w4 l s ns) := Lib.hid (HM.out.mkeep (MKeep.of_below (mb := w.heap.size + 1) hb4) (by omega))
          obtain ⟨u, hu⟩ : ∃ u, (fieldsL kn).contains (j : Int) = u := ⟨_, rfl⟩
          have HU : Hid (usesB kn j = u) := Lib.hid (by rw [← fields_uses kn (by omega) j (by omega)]; exact hu)
          rw [hu]
          clear hb4 hu HG HM
          cases u with
          | false =>
            have HSK : Hid (skipB (startLt kn f0 t0).kind bare j = true) := Lib.hid (by show skipB kn bare j = true; unfold skipB; rw [HU.out]; rfl)
            go_wp2_with fail
            go_roundw
            case rel => exact ⟨j + 1, l, s, ns, a, nd, by omega, by go_num, G4.out, M4.out, .skip HT.out HSK.out, HR.out, (fun h => HC.out (by omega)), by omega, by omega⟩
            case measure => simp [intOf]; omega
          | true =>
            cases bare with
            | false =>
              have HSK : Hid (skipB (startLt kn f0 t0).kind false j = false) := Lib.hid (by show skipB kn false j = false; unfold skipB; rw [HU.out]; rfl)
              go_wp2_with (with_reducible refine g_load 37 ?_; refine wpList_load_Row rfl _ _ rfl w1.heap.size rfl (ltVal l s) G4.out.row _ Tryz.underlying37 rfl (size62 _ _ HR.out) ?_)
              refine (made_any w4 (w1.heap.size + 1) (w.heap.size + 1) ys a nd l s ns j G4.out.mkr HX.out (by omega) (by omega) M4.out (by omega) (by have := G4.out.lt; omega) HR.out (by omega) (fun e => HC.out (by omega))).mono ?_
              rintro e w5 ⟨l', s', ns', a', n', rfl, hmf, hmem5, hC5, hm5, ha5, hn5, hk5⟩
              have G5 := Lib.hid (G4.out.step hm5 hk5)
              have HR5 := Lib.hid (hmf.ref HR.out)
              have HF := Lib.hid hmf
              have HM5 := Lib.hid hmem5
              have HC5 : Hid (j + 1 ≤ 15 → l'.cells = [] ∧ s'.C = none ∧ s'.e = 0) := Lib.hid (fun h => by have h1 := HC.out (by omega); have h2 := hC5 (by omega); exact ⟨(hmf.cells (by omega)).trans h1.1, h2.1.trans h1.2.1, h2.2.trans h1.2.2⟩)
              have G6 := Lib.hid (G5.out.put (ltVal l' s'))
              have HM6 := Lib.hid (HM5.out.put (Nat.lt_succ_self _) (ltVal l' s'))
              clear hm5 hk5 hmf hmem5 hC5
              go_wp2_with (with_reducible refine g_store 37 ?_; refine wpList_store_row rfl _ _ _ rfl w1.heap.size (ltVal l' s') rfl rfl 37 (ltVal l s) G5.out.var (size62 _ _ HR5.out) (by rw [ltVal_size _ _ HR5.out, ltVal_size _ _ HR.out]) (ltVal_one _ _) ?_)
              go_roundw
              case rel => exact ⟨j + 1, l', s', ns', a', n', by omega, by go_num, G6.out, HM6.out, .step HT.out HSK.out HF.out, HR5.out, HC5.out, by omega, by omega⟩
              case measure => simp [intOf]; omega
            | true =>
              by_cases hbf : j = 4 ∨ j = 5 ∨ j = 6 ∨ j = 12 ∨ j = 10
              · have HSK : Hid (skipB (startLt kn f0 t0).kind true j = true) := Lib.hid (by show skipB kn true j = true; unfold skipB; rcases hbf with rfl | rfl | rfl | rfl | rfl <;> rw [HU.out] <;> rfl)
                rcases hbf with rfl | rfl | rfl | rfl | rfl
                · go_wp2_with fail
                  go_roundw
                  case rel => exact ⟨5, l, s, ns, a, nd, by omega, by go_num, G4.out, M4.out, .skip HT.out HSK.out, HR.out, (fun h => HC.out (by omega)), by omega, by omega⟩
                  case measure => simp [intOf]
                · go_wp2_with fail
                  go_roundw
                  case rel => exact ⟨6, l, s, ns, a, nd, by omega, by go_num, G4.out, M4.out, .skip HT.out HSK.out, HR.out, (fun h => HC.out (by omega)), by omega, by omega⟩
                  case measure => simp [intOf]
                · go_wp2_with fail
                  go_roundw
                  case rel => exact ⟨7, l, s, ns, a, nd, by omega, by go_num, G4.out, M4.out, .skip HT.out HSK.out, HR.out, (fun h => HC.out (by omega)), by omega, by omega⟩
                  case measure => simp [intOf]
                · go_wp2_with fail
                  go_roundw
                  case rel => exact ⟨13, l, s, ns, a, nd, by omega, by go_num, G4.out, M4.out, .skip HT.out HSK.out, HR.out, (fun h => HC.out (by omega)), by omega, by omega⟩
                  case measure => simp [intOf]
                · go_wp2_with fail
                  go_roundw
                  case rel => exact ⟨11, l, s, ns, a, nd, by omega, by go_num, G4.out, M4.out, .skip HT.out HSK.out, HR.out, (fun h => HC.out (by omega)), by omega, by omega⟩
                  case measure => simp [intOf]
              · have n4 : ((j : Int) == 4) = false := by simp; omega
                have n5 : ((j : Int) == 5) = false := by simp; omega
                have n6 : ((j : Int) == 6) = false := by simp; omega
                have n12 : ((j : Int) == 12) = false := by simp; omega
                have n10 : ((j : Int) == 10) = false := by simp; omega
                have HSK : Hid (skipB (startLt kn f0 t0).kind true j = false) := Lib.hid (by show skipB kn true j = false; unfold skipB bareF; rw [HU.out, n4, n5, n6, n12, n10]; rfl)
                clear hbf
                go_wp2_with (with_reducible refine g_load 37 ?_; refine wpList_load_Row rfl _ _ rfl w1.heap.size rfl (ltVal l s) G4.out.row _ Tryz.underlying37 rfl (size62 _ _ HR.out) ?_)
                refine (made_any w4 (w1.heap.size + 1) (w.heap.size + 1) ys a nd l s ns j G4.out.mkr HX.out (by omega) (by omega) M4.out (by omega) (by have := G4.out.lt; omega) HR.out (by omega) (fun e => HC.out (by omega))).mono ?_
                rintro e w5 ⟨l', s', ns', a', n', rfl, hmf, hmem5, hC5, hm5, ha5, hn5, hk5⟩
                have G5 := Lib.hid (G4.out.step hm5 hk5)
                have HR5 := Lib.hid (hmf.ref HR.out)
                have HF := Lib.hid hmf
                have HM5 := Lib.hid hmem5
                have HC5 : Hid (j + 1 ≤ 15 → l'.cells = [] ∧ s'.C = none ∧ s'.e = 0) := Lib.hid (fun h => by have h1 := HC.out (by omega); have h2 := hC5 (by omega); exact ⟨(hmf.cells (by omega)).trans h1.1, h2.1.trans h1.2.1, h2.2.trans h1.2.2⟩)
                have G6 := Lib.hid (G5.out.put (ltVal l' s'))
                have HM6 := Lib.hid (HM5.out.put (Nat.lt_succ_self _) (ltVal l' s'))
                clear hm5 hk5 hmf hmem5 hC5
                go_wp2_with (with_reducible refine g_store 37 ?_; refine wpList_store_row rfl _ _ _ rfl w1.heap.size (ltVal l' s') rfl rfl 37 (ltVal l s) G5.out.var (size62 _ _ HR5.out) (by rw [ltVal_size _ _ HR5.out, ltVal_size _ _ HR.out]) (ltVal_one _ _) ?_)
                go_roundw
                case rel => exact ⟨j + 1, l', s', ns', a', n', by omega, by go_num, G6.out, HM6.out, .step HT.out HSK.out HF.out, HR5.out, HC5.out, by omega, by omega⟩
                case measure => simp [intOf]; omega
        · have hj17 : j = 17 := by omega
          subst hj17
          have HO := Lib.hid (HT.out.other rfl)
          obtain ⟨ho1, ho2⟩ := HT.out.other rfl
          have hc10 : wr.cell? ⟨w1.heap.size, 10, none⟩ = some (I l.scope) := HCC.out 10
          have hc7 : wr.cell? ⟨w1.heap.size, 7, none⟩ = some (I l.person) := HCC.out 7
          have hc8 : wr.cell? ⟨w1.heap.size, 8, none⟩ = some (I l.other) := HCC.out 8
          have hc11 : wr.cell? ⟨w1.heap.size, 11, none⟩ = some (I l.day) := HCC.out 11
          have hf8 := HG.out.froz 8
          have hf11 := HG.out.froz 11
          have hwo : IntKind.i64.wrap (l.other + 1) = l.other + 1 := by rw [IntKind.wrap_i64]; omega
          by_cases hk6 : kn = 6
          · subst hk6
            by_cases hs3 : l.scope = 3
            · have HS3 := Lib.hid hs3
              rw [hs3] at hc10
              clear hs3
              have G7 : Hid (MS w ys a nd w1.heap.size (ltVal { l with day := 0 } s) (wr.setCell ⟨w1.heap.size, 11, none⟩ (I 0))) := Lib.hid (by have := HG.out.store 11 (I 0); rw [put_day] at this; exact this)
              have M7 : Hid (LtMem (w1.heap.size + 1) (wr.setCell ⟨w1.heap.size, 11, none⟩ (I 0)) { l with day := 0 } s ns) := Lib.hid (HM.out.set (Nat.lt_succ_self _) 11 (I 0) rfl rfl)
              have hq0 : (wr.setCell ⟨w1.heap.size, 11, none⟩ (I 0)).cell? ⟨w1.heap.size, 0, none⟩ = some (I l.kind) := G7.out.cell 0
              rw [HKK.out] at hq0
              go_wp2_with (first
                | (with_reducible refine g_load 37 ?_; refine wpList_load_Row rfl _ _ rfl w1.heap.size rfl (ltVal { l with day := 0 } s) G7.out.row _ Tryz.underlying37 rfl (size62 _ _ HR.out) ?_)
                | (with_reducible refine g_store 37 ?_; refine wpList_store_row rfl _ _ _ rfl w.heap.size (ltVal { l with day := 0 } s) rfl rfl 37 (ltVal zLt zSl) G7.out.res (size62 _ _ HR.out) (sz_eq _ _ HR.out) (ltVal_one _ _) ?_))
              exact bodyPost_ret (v := .agg (ltVal { l with day := 0 } s)) (results_cell_row rfl _ _ w.heap.size _ (ltVal { l with day := 0 } s) (0, 0) _ rfl (setRow_heap _ _ _ _ _ _ G7.out.res) Tryz.underlying37 rfl (size62 _ _ HR.out)) rfl (G7.out.done M7.out ⟨⟨bare, _, f0, t0, l, by omega, by omega, by omega, by omega, by omega, by omega, by omega, HB8.out, HT.out, by unfold adjust; rw [if_pos ⟨HKK.out, HS3.out⟩]⟩, HR.out⟩)
            · go_wp2_with (first
                | (with_reducible refine g_load 37 ?_; refine wpList_load_Row rfl _ _ rfl w1.heap.size rfl (ltVal l s) HG.out.row _ Tryz.underlying37 rfl (size62 _ _ HR.out) ?_)
                | (with_reducible refine g_store 37 ?_; refine wpList_store_row rfl _ _ _ rfl w.heap.size (ltVal l s) rfl rfl 37 (ltVal zLt zSl) HG.out.res (size62 _ _ HR.out) (sz_eq _ _ HR.out) (ltVal_one _ _) ?_))
              exact bodyPost_ret (v := .agg (ltVal l s)) (results_cell_row rfl _ _ w.heap.size _ (ltVal l s) (0, 0) _ rfl (setRow_heap _ _ _ _ _ _ HG.out.res) Tryz.underlying37 rfl (size62 _ _ HR.out)) rfl (HG.out.done HM.out ⟨⟨bare, _, f0, t0, l, by omega, by omega, by omega, by omega, by omega, by omega, by omega, HB8.out, HT.out, by unfold adjust; rw [if_neg (fun h => hs3 h.2), if_neg (fun h => by have := HKK.out; omega)]⟩, HR.out⟩)
          · have hk6' : ¬ (kn : Int) = 6 := by omega
            by_cases hk5 : kn = 5
            · subst hk5
              by_cases hop : l.other = l.person
              · have HOP := Lib.hid hop
                rw [← hop] at hc7
                clear hop
                have G7 : Hid (MS w ys a nd w1.heap.size (ltVal { l with other := l.other + 1 } s) (wr.setCell ⟨w1.heap.size, 8, none⟩ (I (l.other + 1)))) := Lib.hid (by have := HG.out.store 8 (I (l.other + 1)); rw [put_other] at this; exact this)
                have M7 : Hid (LtMem (w1.heap.size + 1) (wr.setCell ⟨w1.heap.size, 8, none⟩ (I (l.other + 1))) { l with other := l.other + 1 } s ns) := Lib.hid (HM.out.set (Nat.lt_succ_self _) 8 (I (l.other + 1)) rfl rfl)
                go_wp2_with (first
                  | (with_reducible refine g_load 37 ?_; refine wpList_load_Row rfl _ _ rfl w1.heap.size rfl (ltVal { l with other := l.other + 1 } s) G7.out.row _ Tryz.underlying37 rfl (size62 _ _ HR.out) ?_)
                  | (with_reducible refine g_store 37 ?_; refine wpList_store_row rfl _ _ _ rfl w.heap.size (ltVal { l with other := l.other + 1 } s) rfl rfl 37 (ltVal zLt zSl) G7.out.res (size62 _ _ HR.out) (sz_eq _ _ HR.out) (ltVal_one _ _) ?_))
                exact bodyPost_ret (v := .agg (ltVal { l with other := l.other + 1 } s)) (results_cell_row rfl _ _ w.heap.size _ (ltVal { l with other := l.other + 1 } s) (0, 0) _ rfl (setRow_heap _ _ _ _ _ _ G7.out.res) Tryz.underlying37 rfl (size62 _ _ HR.out)) rfl (G7.out.done M7.out ⟨⟨bare, _, f0, t0, l, by omega, by omega, by omega, by omega, by omega, by omega, by omega, HB8.out, HT.out, by unfold adjust; rw [if_neg (fun h => by have := HKK.out; omega), if_pos ⟨HKK.out, HOP.out⟩]⟩, HR.out⟩)
              · go_wp2_with (first
                  | (with_reducible refine g_load 37 ?_; refine wpList_load_Row rfl _ _ rfl w1.heap.size rfl (ltVal l s) HG.out.row _ Tryz.underlying37 rfl (size62 _ _ HR.out) ?_)
                  | (with_reducible refine g_store 37 ?_; refine wpList_store_row rfl _ _ _ rfl w.heap.size (ltVal l s) rfl rfl 37 (ltVal zLt zSl) HG.out.res (size62 _ _ HR.out) (sz_eq _ _ HR.out) (ltVal_one _ _) ?_))
                exact bodyPost_ret (v := .agg (ltVal l s)) (results_cell_row rfl _ _ w.heap.size _ (ltVal l s) (0, 0) _ rfl (setRow_heap _ _ _ _ _ _ HG.out.res) Tryz.underlying37 rfl (size62 _ _ HR.out)) rfl (HG.out.done HM.out ⟨⟨bare, _, f0, t0, l, by omega, by omega, by omega, by omega, by omega, by omega, by omega, HB8.out, HT.out, by unfold adjust; rw [if_neg (fun h => by have := HKK.out; omega), if_neg (fun h => hop h.2)]⟩, HR.out⟩)
            · have hk5' : ¬ (kn : Int) = 5 := by omega
              go_wp2_with (first
                | (with_reducible refine g_load 37 ?_; refine wpList_load_Row rfl _ _ rfl w1.heap.size rfl (ltVal l s) HG.out.row _ Tryz.underlying37 rfl (size62 _ _ HR.out) ?_)
                | (with_reducible refine g_store 37 ?_; refine wpList_store_row rfl _ _ _ rfl w.heap.size (ltVal l s) rfl rfl 37 (ltVal zLt zSl) HG.out.res (size62 _ _ HR.out) (sz_eq _ _ HR.out) (ltVal_one _ _) ?_))
              exact bodyPost_ret (v := .agg (ltVal l s)) (results_cell_row rfl _ _ w.heap.size _ (ltVal l s) (0, 0) _ rfl (setRow_heap _ _ _ _ _ _ HG.out.res) Tryz.underlying37 rfl (size62 _ _ HR.out)) rfl (HG.out.done HM.out ⟨⟨bare, _, f0, t0, l, by omega, by omega, by omega, by omega, by omega, by omega, by omega, HB8.out, HT.out, by unfold adjust; rw [if_neg (fun h => by have := HKK.out; omega), if_neg (fun h => by have := HKK.out; omega)]⟩, HR.out⟩)
end Go.Proofs.YthhbbebabmemfaaGreat

/- What a letter that was made is, in plain words: its head, its lengths, the numbers that its kind does not use. -/
namespace Go.Proofs.YthhbbebabmemfaaGreat
open Go Go.RowKit

theorem MRule.lists {cals : Int} {ns : List NdV} (h : MRule cals ns) : ∀ x ∈ ns, x.d.list.length ≤ 4 := by
  induction h with
  | leaf x h =>
    intro y hy
    rw [List.mem_singleton.1 hy]
    obtain ⟨_, h⟩ := h
    rcases h with h | h | h | h | h | h | h | h
    · rw [h.2.2.2.2.2.2.2.1]; simp
    · rw [h.2.2.2.2.2.2.2.2.1]; simp
    · exact h.2.2.2.2.2.2.1.2.1
    · exact h.2.2.2.2.2.2.1.2.1
    · exact h.2.2.2.2.2.1.2.1
    · exact h.2.2.2.2.2.2.1.2.1
    · rw [h.2.2.2.2.2.2.2.2.1]; simp
    · rw [h.2.2.2.2.2.1]; simp
  | one ns x _ h ih =>
    intro y hy
    rcases List.mem_append.1 hy with hy | hy
    · exact ih y hy
    · rw [List.mem_singleton.1 hy]
      show x.d.list.length ≤ 4
      rcases h.2.2 with h | h | h | h
      · rw [h.2.2.2.2.2]; simp
      · rw [h.2.2.2.2.2]; simp
      · exact h.2.2.2.2.2.1
      · exact h.2.2.2.2.2.2.2.1
  | two ns ms x _ _ h ih1 ih2 =>
    intro y hy
    rcases List.mem_append.1 hy with hy | hy
    · rcases List.mem_append.1 hy with hy | hy
      · exact ih1 y hy
      · obtain ⟨z, hz, rfl⟩ := List.mem_map.1 hy
        exact ih2 z hz
    · rw [List.mem_singleton.1 hy]
      show x.d.list.length ≤ 4
      rw [h.2.2.1]; simp
theorem numF_ne (l : Lt) (x : Int) (f k : Nat) (hk : k < 17) (h : f ≠ k) : numF (setNum l f x) k = numF l k :=
  all17 (p := fun k => f ≠ k → numF (setNum l f x) k = numF l k) (by
    refine ⟨?_, ?_, ?_, ?_, ?_, ?_, ?_, ?_, ?_, ?_, ?_, ?_, ?_, ?_, ?_, ?_, ?_⟩ <;> (intro h; unfold setNum; split <;> first | rfl | exact absurd rfl h)) k hk h
theorem numF_same (l : Lt) (x : Int) (k : Nat) (hk : k < 17) (h : (numOff k).isSome = true) : numF (setNum l k x) k = x :=
  all17 (p := fun k => (numOff k).isSome = true → numF (setNum l k x) k = x) (by
    refine ⟨?_, ?_, ?_, ?_, ?_, ?_, ?_, ?_, ?_, ?_, ?_, ?_, ?_, ?_, ?_, ?_, ?_⟩ <;> (intro h; first | rfl | cases h)) k hk h
theorem setNum_none (l : Lt) (x : Int) (k : Nat) (hk : k < 17) (h : numOff k = none) : setNum l k x = l :=
  all17 (p := fun k => numOff k = none → setNum l k x = l) (by
    refine ⟨?_, ?_, ?_, ?_, ?_, ?_, ?_, ?_, ?_, ?_, ?_, ?_, ?_, ?_, ?_, ?_, ?_⟩ <;> (intro h; first | rfl | cases h)) k hk h
theorem setNum_src (l : Lt) (k : Nat) (x : Int) : (setNum l k x).src = l.src := by unfold setNum; split <;> rfl
theorem setNum_dst (l : Lt) (k : Nat) (x : Int) : (setNum l k x).dst = l.dst := by unfold setNum; split <;> rfl
theorem setNum_move (l : Lt) (k : Nat) (x : Int) : (setNum l k x).move = l.move := by unfold setNum; split <;> rfl
theorem setNum_wfrom (l : Lt) (k : Nat) (x : Int) : (setNum l k x).wfrom = l.wfrom := by unfold setNum; split <;> rfl
theorem setNum_wto (l : Lt) (k : Nat) (x : Int) : (setNum l k x).wto = l.wto := by unfold setNum; split <;> rfl
theorem MadeF.numF {l l' : Lt} {ns ns' : List NdV} {f : Nat} (h : MadeF l ns f l' ns') (k : Nat) (hk : k < 17) (hf : f ≠ k) : numF l' k = numF l k := by
  rcases h with ⟨_, x, _, _, _, rfl, _⟩ | ⟨_, _, ⟨_, m, rfl, _⟩ | ⟨_, _, rfl⟩⟩ | ⟨_, ⟨_, se, rfl, _⟩ | ⟨_, _, rfl, _⟩⟩ | ⟨_, _, a, b, _, _, _, rfl⟩ | ⟨_, _, zs, rfl, _⟩ | ⟨_, _, r, _, rfl⟩
  · exact numF_ne l x f k hk hf
  all_goals rfl
theorem MadeTo.unused {bare : Bool} {l0 l : Lt} {j : Nat} {ns : List NdV} (h : MadeTo bare l0 j l ns) (k : Nat) (hk : k < 17) (hu : usesB l0.kind k = false) : numF l k = numF l0 k := by
  induction h with
  | zero => rfl
  | skip _ _ ih => exact ih
  | @step j l l' ns ns' _ hs hf ih =>
    refine (hf.numF k hk ?_).trans ih
    rintro rfl
    unfold skipB at hs
    rw [hu] at hs
    cases hs
theorem start_numF (k f t : Int) (i : Nat) (hi : i < 17) : numF (startLt k f t) i = 0 :=
  all17 (p := fun i => numF (startLt k f t) i = 0) (by refine ⟨?_, ?_, ?_, ?_, ?_, ?_, ?_, ?_, ?_, ?_, ?_, ?_, ?_, ?_, ?_, ?_, ?_⟩ <;> rfl) i hi
theorem adjust_unused (l : Lt) (k : Nat) (hk : k < 17) (hu : usesB l.kind k = false) : numF (adjust l) k = numF l k := by
  unfold adjust
  split
  · rename_i h
    rw [h.1] at hu
    have : k ≠ 8 := by rintro rfl; revert hu; decide
    exact numF_ne l 0 8 k hk (fun e => this e.symm)
  · split
    · rename_i h
      rw [h.1] at hu
      have : k ≠ 5 := by rintro rfl; revert hu; decide
      exact numF_ne l (l.other + 1) 5 k hk (fun e => this e.symm)
    · rfl
theorem adjust_kind (l : Lt) : (adjust l).kind = l.kind := by unfold adjust; split <;> (try split) <;> rfl
theorem adjust_src (l : Lt) : (adjust l).src = l.src := by unfold adjust; split <;> (try split) <;> rfl
theorem adjust_dst (l : Lt) : (adjust l).dst = l.dst := by unfold adjust; split <;> (try split) <;> rfl
theorem adjust_series (l : Lt) : (adjust l).series = l.series := by unfold adjust; split <;> (try split) <;> rfl
theorem adjust_cells (l : Lt) : (adjust l).cells = l.cells := by unfold adjust; split <;> (try split) <;> rfl
/-- What every letter under way keeps. -/
structure Inv (l0 l : Lt) (ns : List NdV) : Prop where
  kind : l.kind = l0.kind
  src : l.src = l0.src
  dst : l.dst = l0.dst
  ser : (l.series = zSer ∧ ns = []) ∨ SerOK ns l.series
  cells : l.cells = [] ∨ CellsOK l.cells
theorem MadeF.inv {l0 l l' : Lt} {ns ns' : List NdV} {f : Nat} (h : MadeF l ns f l' ns') (i : Inv l0 l ns) : Inv l0 l' ns' := by
  rcases h with ⟨_, x, _, _, _, rfl, rfl⟩ | ⟨_, rfl, ⟨_, m, rfl, _⟩ | ⟨_, _, rfl⟩⟩ | ⟨_, ⟨_, se, rfl, h⟩ | ⟨_, _, rfl, rfl⟩⟩ | ⟨_, rfl, a, b, _, _, _, rfl⟩ | ⟨_, rfl, zs, rfl, h⟩ | ⟨_, rfl, r, _, rfl⟩
  · exact ⟨by rw [setNum_kind]; exact i.kind, by rw [setNum_src]; exact i.src, by rw [setNum_dst]; exact i.dst, by rw [setNum_series]; exact i.ser, by rw [setNum_cellsL]; exact i.cells⟩
  · exact ⟨i.kind, i.src, i.dst, i.ser, i.cells⟩
  · exact i
  · exact ⟨i.kind, i.src, i.dst, .inr h, i.cells⟩
  · exact i
  · exact ⟨i.kind, i.src, i.dst, i.ser, i.cells⟩
  · exact ⟨i.kind, i.src, i.dst, i.ser, .inr h⟩
  · exact ⟨i.kind, i.src, i.dst, i.ser, i.cells⟩
theorem MadeTo.inv {bare : Bool} {l0 l : Lt} {j : Nat} {ns : List NdV} (h : MadeTo bare l0 j l ns) (h0 : Inv l0 l0 []) : Inv l0 l ns := by
  induction h with
  | zero => exact h0
  | skip _ _ ih => exact ih
  | step _ _ hf ih => exact hf.inv ih
theorem MadeLt.inv {l : Lt} {ns : List NdV} (h : MadeLt l ns) : ∃ k f t, 1 ≤ k ∧ k ≤ 18 ∧ 0 ≤ f ∧ f ≤ 15 ∧ 0 ≤ t ∧ t ≤ 15 ∧ f ≠ t ∧ Inv (startLt k f t) l ns ∧ ∀ i : Nat, i < 17 → usesB k i = false → numF l i = 0 := by
  obtain ⟨bare, k, f, t, l1, h1, h2, h3, h4, h5, h6, h7, _, hm, rfl⟩ := h.made
  have i := hm.inv ⟨rfl, rfl, rfl, .inl ⟨rfl, rfl⟩, .inl rfl⟩
  refine ⟨k, f, t, h1, h2, h3, h4, h5, h6, h7, ⟨by rw [adjust_kind]; exact i.kind, by rw [adjust_src]; exact i.src, by rw [adjust_dst]; exact i.dst, by rw [adjust_series]; exact i.ser, by rw [adjust_cells]; exact i.cells⟩, fun j hj hu => ?_⟩
  have hk : l1.kind = k := i.kind
  rw [adjust_unused l1 j hj (by rw [hk]; exact hu), hm.unused j hj hu, start_numF k f t j hj]
theorem MadeLt.unused {l : Lt} {ns : List NdV} (h : MadeLt l ns) (i : Nat) (hi : i < 17) (hu : usesB l.kind i = false) : numF l i = 0 := by
  obtain ⟨k, f, t, _, _, _, _, _, _, _, hv, hz⟩ := h.inv
  exact hz i hi (by rw [hv.kind] at hu; exact hu)
theorem MadeLt.kinds {l : Lt} {ns : List NdV} (h : MadeLt l ns) : 1 ≤ l.kind ∧ l.kind ≤ 18 := by
  obtain ⟨k, f, t, h1, h2, _, _, _, _, _, hv, _⟩ := h.inv
  have : l.kind = k := hv.kind
  omega
theorem MadeLt.head {l : Lt} {ns : List NdV} (h : MadeLt l ns) : headOK l = true := by
  obtain ⟨k, f, t, h1, h2, h3, h4, h5, h6, h7, hv, _⟩ := h.inv
  have e1 : l.kind = k := hv.kind
  have e2 : l.src = f := hv.src
  have e3 : l.dst = t := hv.dst
  unfold headOK srvIn
  rw [e1, e2, e3]
  simp only [Bool.and_eq_true, decide_eq_true_eq]
  omega
theorem MadeLt.ok {l : Lt} {ns : List NdV} (h : MadeLt l ns) : LtOK l := by
  obtain ⟨k, f, t, _, _, _, _, _, _, _, hv, _⟩ := h.inv
  have hc : l.cells.length ≤ 140737488355328 := by
    rcases hv.cells with h | h
    · rw [h]; simp
    · have := h.len; omega
  rcases hv.ser with ⟨hs, _⟩ | hs
  · exact ⟨by rw [hs]; simp [zSer], by rw [hs]; simp [zSer], by rw [hs]; simp [zSer], h.ref, hc⟩
  · refine ⟨?_, ?_, ?_, h.ref, hc⟩
    · rw [hs.names, List.length_map]; have := hs.len; omega
    · have := hs.mlen; omega
    · rcases hs.zone with h | h | h | h <;> rw [h] <;> decide
theorem MadeLt.lens {l : Lt} {ns : List NdV} (h : MadeLt l ns) : l.series.rule.length ≤ 16 ∧ l.series.moves.length ≤ 2 ∧ l.cells.length ≤ 5 ∧ ∀ x ∈ ns, x.d.list.length ≤ 4 := by
  obtain ⟨k, f, t, _, _, _, _, _, _, _, hv, _⟩ := h.inv
  have hc : l.cells.length ≤ 5 := by
    rcases hv.cells with h | h
    · rw [h]; simp
    · exact h.len
  rcases hv.ser with ⟨hs, hn⟩ | hs
  · exact ⟨by rw [hs]; simp [zSer], by rw [hs]; simp [zSer], hc, by rw [hn]; simp⟩
  · exact ⟨by rw [hs.names, List.length_map]; exact hs.len, hs.mlen, hc, hs.made.lists⟩
theorem LtOK.num {l : Lt} (h : LtOK l) (k : Nat) (x : Int) : LtOK (setNum l k x) := ⟨by rw [setNum_series]; exact h.rule, by rw [setNum_series]; exact h.moves, by rw [setNum_series]; exact h.zone, by rw [setNum_ref]; exact h.ref, by rw [setNum_cellsL]; exact h.cells⟩
theorem head_num (l : Lt) (k : Nat) (x : Int) : headOK (setNum l k x) = headOK l := by unfold headOK; rw [setNum_kind, setNum_src, setNum_dst]
/-- A number that the kind does not use is not zero: the letter is not valid. -/
theorem unused_bad {l : Lt} (k : Nat) (hk : k < 17) (hu : usesB l.kind k = false) (x : Int) (hx : x ≠ 0) (ho : (numOff k).isSome = true) : bodyOK (setNum l k x) = false := by
  unfold bodyOK
  rw [vNums_no hk, Bool.false_and]
  unfold numOK numLow numHigh
  rw [setNum_kind, hu, numF_same l x k hk ho]
  obtain ⟨o, ho⟩ := Option.isSome_iff_exists.1 ho
  rw [ho]
  simp
  omega
theorem numsEq_num (l : Lt) (k : Nat) (hk : k < 17) (x : Int) : numsEq l (setNum l k x) = ((numOff k).isNone || (numF l k == x)) := by
  cases h : (numOff k).isNone || (numF l k == x) with
  | true =>
    apply numsEq_yes
    intro j hj
    by_cases e : j = k
    · subst e
      cases h2 : numOff j with
      | none => rfl
      | some o =>
        rw [h2] at h
        rw [numF_same l x j hj (by rw [h2]; rfl)]
        exact h
    · rw [numF_ne l x k j hj (fun h => e h.symm)]
      simp
  | false =>
    rw [Bool.or_eq_false_iff] at h
    obtain ⟨o, ho⟩ : ∃ o, numOff k = some o := by
      cases h2 : numOff k with
      | none => rw [h2] at h; cases h.1
      | some o => exact ⟨o, rfl⟩
    exact numsEq_no hk ho (by rw [numF_same l x k hk (by rw [ho]; rfl)]; exact h.2)
theorem headEq_num (l : Lt) (k : Nat) (x : Int) : headEq l (setNum l k x) = true := by
  unfold headEq moveEq
  rw [setNum_kind, setNum_src, setNum_dst, setNum_move, setNum_wfrom, setNum_wto, setNum_ref]
  simp
theorem serEq_same (s : Ser) : serEq s s = true := by unfold serEq; simp
/-- The lists, as the laws of equality ask for them. -/
theorem LtMem.rules {lo : Nat} {w : World} {l : Lt} {s : Sl} {ns : List NdV} (h : LtMem lo w l s ns) (hl : ∀ x ∈ ns, x.d.list.length ≤ 4) : RulesAt w w.heap.size s.A ns := by
  by_cases hn : ns = []
  · exact .inl (by rw [hn]; rfl)
  obtain ⟨g, cap, h1, h2, h3, h4⟩ := h.rule.form hn
  injection h1 with h1 _ _
  refine .inr ⟨g, h1, h3, fun k x hx => ⟨fun j v hv => ?_, (h.rule.lists x (List.mem_of_getElem? hx)).ints, by have := hl x (List.mem_of_getElem? hx); omega⟩⟩
  have hj : j < 8 := by have := (List.getElem?_eq_some_iff.1 hv).1; rw [x.len] at this; exact this
  exact h4 _ _ (by rw [rcells_get ns k j hj, hx]; exact hv)
theorem LtMem.mvs {lo : Nat} {w : World} {l : Lt} {s : Sl} {ns : List NdV} (h : LtMem lo w l s ns) : MovesAt w w.heap.size s.B l.series.moves := by
  obtain ⟨h0, ⟨_, h1⟩ | ⟨g, cap, cur, hv, hg, hb, h1, h2, h3, h4⟩⟩ := h.moves
  · exact .inl h1
  injection hv with hv _ _
  refine .inr ⟨g, hv, (Array.getElem?_eq_some_iff.1 hb).1, fun k x hx j v hj => ?_⟩
  have h5 : j < 5 := (List.getElem?_eq_some_iff.1 hj).1
  rw [cell_of_row w g _ _ _ _ hb]
  have h6 : (mvsCells l.series.moves)[k * 5 + j]? = some v := by rw [mvs_get _ k j h5, hx]; exact hj
  rw [← h4, List.getElem?_take] at h6
  split at h6
  · simpa using h6
  · cases h6
theorem LtMem.ints {lo : Nat} {w : World} {l : Lt} {s : Sl} {ns : List NdV} (h : LtMem lo w l s ns) : IntsAt w w.heap.size s.C l.cells := by
  obtain ⟨A, c, h1, h2⟩ := LI.of_owns h.cells
  injection h1 with h1 _ _
  rw [h1]
  exact h2.ints
end Go.Proofs.YthhbbebabmemfaaGreat

/- A letter that was made is valid, in plain words. -/
namespace Go.Proofs.YthhbbebabmemfaaGreat
open Go Go.RowKit

theorem SerOK.good {ns : List NdV} {s : Ser} (h : SerOK ns s) : SerGood s := by
  obtain ⟨dd, h1, h2⟩ := h.mok
  refine ⟨by have := h.min; omega, by have := h.lng; omega, by have := h.gap; omega, by have := h.fold; omega, ?_, by have := h.mlen; omega, fun m hm => ?_, h2.up⟩
  · rcases h.zone with h | h | h | h <;> rw [h] <;> decide
  · obtain ⟨h3, h4, h5⟩ := h2.ok m hm
    refine ⟨h4, by omega, ?_⟩
    rcases h3.2 with ⟨a, b, c, d⟩ | ⟨a, b, c, d, e, f, g⟩
    · exact .inl ⟨a, b, c, d⟩
    · exact .inr ⟨a, b, by omega, d, by omega, f, by omega⟩
theorem SerOK.rulesOK {ns : List NdV} {s : Ser} (h : SerOK ns s) : RuleOK ns := h.made.ruleOK h.len
section
variable {l l' : Lt} {ns ns' : List NdV} {f : Nat}
theorem MadeF.kind2 (h : MadeF l ns f l' ns') : l'.kind = l.kind := by
  rcases h with ⟨_, x, _, _, _, rfl, rfl⟩ | ⟨_, rfl, ⟨_, m, rfl, _⟩ | ⟨_, _, rfl⟩⟩ | ⟨_, ⟨_, se, rfl, h⟩ | ⟨_, _, rfl, rfl⟩⟩ | ⟨_, rfl, a, b, _, _, _, rfl⟩ | ⟨_, rfl, zs, rfl, h⟩ | ⟨_, rfl, r, _, rfl⟩
  · exact setNum_kind _ _ _
  all_goals rfl
theorem MadeF.move (h : MadeF l ns f l' ns') (hf : f ≠ 9) : l'.move = l.move := by
  rcases h with ⟨_, x, _, _, _, rfl, rfl⟩ | ⟨e, _⟩ | ⟨_, ⟨_, se, rfl, h⟩ | ⟨_, _, rfl, rfl⟩⟩ | ⟨_, rfl, a, b, _, _, _, rfl⟩ | ⟨_, rfl, zs, rfl, h⟩ | ⟨_, rfl, r, _, rfl⟩
  · exact setNum_move _ _ _
  · exact absurd e hf
  all_goals rfl
theorem MadeF.series (h : MadeF l ns f l' ns') (hf : f ≠ 10) : l'.series = l.series ∧ ns' = ns := by
  rcases h with ⟨_, x, _, _, _, rfl, rfl⟩ | ⟨_, rfl, ⟨_, m, rfl, _⟩ | ⟨_, _, rfl⟩⟩ | ⟨e, _⟩ | ⟨_, rfl, a, b, _, _, _, rfl⟩ | ⟨_, rfl, zs, rfl, h⟩ | ⟨_, rfl, r, _, rfl⟩
  · exact ⟨setNum_series _ _ _, rfl⟩
  · exact ⟨rfl, rfl⟩
  · exact ⟨rfl, rfl⟩
  · exact absurd e hf
  all_goals exact ⟨rfl, rfl⟩
theorem MadeF.window (h : MadeF l ns f l' ns') (hf : f ≠ 14) : l'.wfrom = l.wfrom ∧ l'.wto = l.wto := by
  rcases h with ⟨_, x, _, _, _, rfl, rfl⟩ | ⟨_, rfl, ⟨_, m, rfl, _⟩ | ⟨_, _, rfl⟩⟩ | ⟨_, ⟨_, se, rfl, h⟩ | ⟨_, _, rfl, rfl⟩⟩ | ⟨e, _⟩ | ⟨_, rfl, zs, rfl, h⟩ | ⟨_, rfl, r, _, rfl⟩
  · exact ⟨setNum_wfrom _ _ _, setNum_wto _ _ _⟩
  · exact ⟨rfl, rfl⟩
  · exact ⟨rfl, rfl⟩
  · exact ⟨rfl, rfl⟩
  · exact ⟨rfl, rfl⟩
  · exact absurd e hf
  all_goals exact ⟨rfl, rfl⟩
theorem MadeF.cells2 (h : MadeF l ns f l' ns') (hf : f ≠ 15) : l'.cells = l.cells := by
  rcases h with ⟨_, x, _, _, _, rfl, rfl⟩ | ⟨_, rfl, ⟨_, m, rfl, _⟩ | ⟨_, _, rfl⟩⟩ | ⟨_, ⟨_, se, rfl, h⟩ | ⟨_, _, rfl, rfl⟩⟩ | ⟨_, rfl, a, b, _, _, _, rfl⟩ | ⟨e, _⟩ | ⟨_, rfl, r, _, rfl⟩
  · exact setNum_cellsL _ _ _
  · rfl
  · rfl
  · rfl
  · rfl
  · rfl
  · exact absurd e hf
  · rfl
theorem MadeF.ref2 (h : MadeF l ns f l' ns') (hf : f ≠ 16) : l'.ref = l.ref := by
  rcases h with ⟨_, x, _, _, _, rfl, rfl⟩ | ⟨_, rfl, ⟨_, m, rfl, _⟩ | ⟨_, _, rfl⟩⟩ | ⟨_, ⟨_, se, rfl, h⟩ | ⟨_, _, rfl, rfl⟩⟩ | ⟨_, rfl, a, b, _, _, _, rfl⟩ | ⟨_, rfl, zs, rfl, h⟩ | ⟨e, _⟩
  · exact setNum_ref _ _ _
  · rfl
  · rfl
  · rfl
  · rfl
  · rfl
  · rfl
  · exact absurd e hf
theorem MadeF.scope (h : MadeF l ns f l' ns') (hf : f ≠ 7) : l'.scope = l.scope := h.numF 7 (by omega) hf
theorem MadeF.day (h : MadeF l ns f l' ns') (hf : f ≠ 8) : l'.day = l.day := h.numF 8 (by omega) hf
end
def InB (k : Int) (f : Nat) (x : Int) : Prop := (bnd k f).1 ≤ x ∧ x ≤ (bnd k f).2 ∧ x < (bnd k f).1 + 40
theorem numB_lit (f : Nat) (h : numB f = true) : f ≠ 9 ∧ f ≠ 10 ∧ f ≠ 14 ∧ f ≠ 15 ∧ f ≠ 16 := by
  refine ⟨?_, ?_, ?_, ?_, ?_⟩ <;> (rintro rfl; revert h; decide)
/-- The numbers of a letter under way. -/
theorem MadeTo.nums {bare : Bool} {l0 l : Lt} {j : Nat} {ns : List NdV} (h : MadeTo bare l0 j l ns) : l.kind = l0.kind ∧ (∀ k, j ≤ k → k < 17 → numF l k = numF l0 k) ∧ ∀ k, k < j → k < 17 → (skipB l0.kind bare k = true → numF l k = numF l0 k) ∧ (skipB l0.kind bare k = false → numB k = true → InB l0.kind k (numF l k)) := by
  induction h with
  | zero => exact ⟨rfl, fun _ _ _ => rfl, fun k hk => absurd hk (Nat.not_lt_zero k)⟩
  | @skip j l ns _ hs ih =>
    obtain ⟨h1, h2, h3⟩ := ih
    refine ⟨h1, fun k hk hk2 => h2 k (by omega) hk2, fun k hk hk2 => ?_⟩
    by_cases e : k = j
    · subst e
      exact ⟨fun _ => h2 k (Nat.le_refl _) hk2, fun hn => by rw [hs] at hn; cases hn⟩
    · exact h3 k (by omega) hk2
  | @step j l l' ns ns' _ hs hf ih =>
    obtain ⟨h1, h2, h3⟩ := ih
    refine ⟨hf.kind2.trans h1, fun k hk hk2 => (hf.numF k hk2 (by omega)).trans (h2 k (by omega) hk2), fun k hk hk2 => ?_⟩
    by_cases e : k = j
    · subst e
      refine ⟨fun hn => absurd (hs.symm.trans hn) (by decide), fun _ hn => ?_⟩
      obtain ⟨n1, n2, n3, n4, n5⟩ := numB_lit k hn
      rcases hf with ⟨_, x, a, b, c, rfl, _⟩ | ⟨e, _⟩ | ⟨e, _⟩ | ⟨e, _⟩ | ⟨e, _⟩ | ⟨e, _⟩
      · have ho : (numOff k).isSome = true := all17 (p := fun k => numB k = true → (numOff k).isSome = true) (by refine ⟨?_, ?_, ?_, ?_, ?_, ?_, ?_, ?_, ?_, ?_, ?_, ?_, ?_, ?_, ?_, ?_, ?_⟩ <;> decide) k hk2 hn
        rw [numF_same l x k hk2 ho]
        rw [h1] at a b c
        exact ⟨a, b, c⟩
      · exact absurd e n1
      · exact absurd e n2
      · exact absurd e n3
      · exact absurd e n4
      · exact absurd e n5
    · obtain ⟨g1, g2⟩ := h3 k (by omega) hk2
      have e2 := hf.numF k hk2 (fun h => e h.symm)
      rw [e2]
      exact ⟨g1, g2⟩
theorem uses9 {k : Int} (h1 : 1 ≤ k) (h2 : k ≤ 18) : usesB k (9 : Nat) = true ↔ k = 4 ∨ k = 6 := by
  obtain ⟨n, rfl⟩ : ∃ n : Nat, k = n := ⟨k.toNat, by omega⟩
  have h : ∀ n : Nat, n < 19 → (usesB (n : Int) (9 : Nat) = true ↔ (n : Int) = 4 ∨ (n : Int) = 6) := by decide +kernel
  exact h n (by omega)
theorem uses10 {k : Int} (h1 : 1 ≤ k) (h2 : k ≤ 18) : usesB k (10 : Nat) = true ↔ k = 1 ∨ k = 6 ∨ k = 8 := by
  obtain ⟨n, rfl⟩ : ∃ n : Nat, k = n := ⟨k.toNat, by omega⟩
  have h : ∀ n : Nat, n < 19 → (usesB (n : Int) (10 : Nat) = true ↔ (n : Int) = 1 ∨ (n : Int) = 6 ∨ (n : Int) = 8) := by decide +kernel
  exact h n (by omega)
theorem skipB_f {k : Int} {bare : Bool} {f : Nat} (h : bareF f = false) : skipB k bare f = !(usesB k f) := by unfold skipB; rw [h]; simp
def MvInv (k : Int) (l : Lt) : Prop :=
  (k = 4 ∧ MoveOK l.move.day l.move ∧ 0 ≤ l.move.day ∧ l.move.day < 40) ∨ (k = 6 ∧ l.scope = 1 ∧ MoveOK l.move.day l.move ∧ l.move.day = l.day) ∨ (k ≠ 4 ∧ (k = 6 → l.scope ≠ 1) ∧ l.move = zMv)
theorem MadeTo.mv {bare : Bool} {l0 l : Lt} {j : Nat} {ns : List NdV} (h : MadeTo bare l0 j l ns) (h0 : l0.move = zMv) (k1 : 1 ≤ l0.kind) (k2 : l0.kind ≤ 18) : (j ≤ 9 → l.move = zMv) ∧ (9 < j → MvInv l0.kind l) := by
  induction h with
  | zero => exact ⟨fun _ => h0, fun h => absurd h (by omega)⟩
  | @skip j l ns _ hs ih =>
    obtain ⟨h1, h2⟩ := ih
    refine ⟨fun hj => h1 (by omega), fun hj => ?_⟩
    by_cases e : j = 9
    · subst e
      rw [skipB_f (by decide)] at hs
      have hn : ¬ (l0.kind = 4 ∨ l0.kind = 6) := fun hc => by rw [(uses9 k1 k2).2 hc] at hs; cases hs
      exact .inr (.inr ⟨fun h => hn (.inl h), fun h => absurd (.inr h) hn, h1 (by omega)⟩)
    · exact h2 (by omega)
  | @step j l l' ns ns' hm hs hf ih =>
    obtain ⟨h1, h2⟩ := ih
    have hk : l.kind = l0.kind := hm.nums.1
    refine ⟨fun hj => (hf.move (by omega)).trans (h1 (by omega)), fun hj => ?_⟩
    by_cases e : j = 9
    · subst e
      rw [skipB_f (by decide)] at hs
      have hu : l0.kind = 4 ∨ l0.kind = 6 := (uses9 k1 k2).1 (by simpa using hs)
      rcases hf with ⟨e, _⟩ | ⟨_, _, ⟨a, m, rfl, b, c⟩ | ⟨a, b, rfl⟩⟩ | ⟨e, _⟩ | ⟨e, _⟩ | ⟨e, _⟩ | ⟨e, _⟩
      · cases e
      · rw [hk] at a c
        rcases c with ⟨c1, c2, c3⟩ | ⟨c1, c2⟩
        · exact .inl ⟨c1, b, c2, c3⟩
        · refine .inr (.inl ⟨by omega, by show l.scope = 1; omega, b, c2⟩)
      · rw [hk] at a
        exact .inr (.inr ⟨a, fun _ => b, h1 (by omega)⟩)
      all_goals cases e
    · have hi := h2 (by omega)
      unfold MvInv at hi ⊢
      rw [hf.move e, hf.scope (by omega), hf.day (by omega)]
      exact hi
def SeInv (k : Int) (bare : Bool) (l : Lt) (ns : List NdV) : Prop :=
  ((k = 1 ∨ k = 6 ∨ k = 8) ∧ bare = false ∧ (k = 6 → l.scope ≠ 1) ∧ SerOK ns l.series) ∨ ((k = 1 → bare = true) ∧ (k = 8 → bare = true) ∧ (k = 6 → bare = true ∨ l.scope = 1) ∧ l.series = zSer)
theorem MadeTo.se {bare : Bool} {l0 l : Lt} {j : Nat} {ns : List NdV} (h : MadeTo bare l0 j l ns) (h0 : l0.series = zSer) (k1 : 1 ≤ l0.kind) (k2 : l0.kind ≤ 18) : (j ≤ 10 → l.series = zSer) ∧ (10 < j → SeInv l0.kind bare l ns) := by
  induction h with
  | zero => exact ⟨fun _ => h0, fun h => absurd h (by omega)⟩
  | @skip j l ns _ hs ih =>
    obtain ⟨h1, h2⟩ := ih
    refine ⟨fun hj => h1 (by omega), fun hj => ?_⟩
    by_cases e : j = 10
    · subst e
      have hb : bareF ((10 : Nat) : Int) = true := by decide
      unfold skipB at hs
      rw [hb] at hs
      right
      have key : (l0.kind = 1 ∨ l0.kind = 6 ∨ l0.kind = 8) → bare = true := fun hc => by
        rw [(uses10 k1 k2).2 hc] at hs
        simpa using hs
      exact ⟨fun h => key (by omega), fun h => key (by omega), fun h => .inl (key (by omega)), h1 (by omega)⟩
    · exact h2 (by omega)
  | @step j l l' ns ns' hm hs hf ih =>
    obtain ⟨h1, h2⟩ := ih
    have hk : l.kind = l0.kind := hm.nums.1
    refine ⟨fun hj => (hf.series (by omega)).1.trans (h1 (by omega)), fun hj => ?_⟩
    by_cases e : j = 10
    · subst e
      have hb : bareF ((10 : Nat) : Int) = true := by decide
      unfold skipB at hs
      rw [hb, Bool.or_eq_false_iff] at hs
      obtain ⟨s1, s2⟩ := hs
      have hu : l0.kind = 1 ∨ l0.kind = 6 ∨ l0.kind = 8 := (uses10 k1 k2).1 (by simpa using s1)
      have hbr : bare = false := by simpa using s2
      rcases hf with ⟨e, _⟩ | ⟨e, _⟩ | ⟨_, ⟨a, se, rfl, b⟩ | ⟨a, b, rfl, rfl⟩⟩ | ⟨e, _⟩ | ⟨e, _⟩ | ⟨e, _⟩
      · cases e
      · cases e
      · rw [hk] at a
        refine .inl ⟨hu, hbr, fun h6 => ?_, b⟩
        rcases a with a | a
        · exact absurd h6 a
        · exact a
      · rw [hk] at a
        exact .inr ⟨fun h => by omega, fun h => by omega, fun _ => .inr b, h1 (by omega)⟩
      all_goals cases e
    · have hi := h2 (by omega)
      unfold SeInv at hi ⊢
      rw [(hf.series e).1, (hf.series e).2, hf.scope (by omega)]
      exact hi
theorem MadeTo.win {bare : Bool} {l0 l : Lt} {j : Nat} {ns : List NdV} (h : MadeTo bare l0 j l ns) (h0 : l0.wfrom = 0 ∧ l0.wto = 0) : (j ≤ 14 → l.wfrom = 0 ∧ l.wto = 0) ∧ (14 < j → (l.wfrom = 0 ∧ l.wto = 0) ∨ (usesB l0.kind (14 : Nat) = true ∧ -1000 ≤ l.wfrom ∧ l.wfrom ≤ l.wto ∧ l.wto ≤ 9000)) := by
  induction h with
  | zero => exact ⟨fun _ => h0, fun h => absurd h (by omega)⟩
  | @skip j l ns _ hs ih =>
    obtain ⟨h1, h2⟩ := ih
    refine ⟨fun hj => h1 (by omega), fun hj => ?_⟩
    by_cases e : j = 14
    · exact .inl (h1 (by omega))
    · exact h2 (by omega)
  | @step j l l' ns ns' hm hs hf ih =>
    obtain ⟨h1, h2⟩ := ih
    refine ⟨fun hj => by rw [(hf.window (by omega)).1, (hf.window (by omega)).2]; exact h1 (by omega), fun hj => ?_⟩
    by_cases e : j = 14
    · subst e
      rw [skipB_f (by decide)] at hs
      rcases hf with ⟨e, _⟩ | ⟨e, _⟩ | ⟨e, _⟩ | ⟨_, _, a, b, c1, c2, c3, rfl⟩ | ⟨e, _⟩ | ⟨e, _⟩
      · cases e
      · cases e
      · cases e
      · exact .inr ⟨by simpa using hs, c1, c2, c3⟩
      all_goals cases e
    · rw [(hf.window e).1, (hf.window e).2]
      exact h2 (by omega)
theorem MadeTo.cel {bare : Bool} {l0 l : Lt} {j : Nat} {ns : List NdV} (h : MadeTo bare l0 j l ns) (h0 : l0.cells = []) : (j ≤ 15 → l.cells = []) ∧ (15 < j → (usesB l0.kind (15 : Nat) = false ∧ l.cells = []) ∨ (usesB l0.kind (15 : Nat) = true ∧ CellsOK l.cells)) := by
  induction h with
  | zero => exact ⟨fun _ => h0, fun h => absurd h (by omega)⟩
  | @skip j l ns _ hs ih =>
    obtain ⟨h1, h2⟩ := ih
    refine ⟨fun hj => h1 (by omega), fun hj => ?_⟩
    by_cases e : j = 15
    · subst e
      rw [skipB_f (by decide)] at hs
      exact .inl ⟨by simpa using hs, h1 (by omega)⟩
    · exact h2 (by omega)
  | @step j l l' ns ns' hm hs hf ih =>
    obtain ⟨h1, h2⟩ := ih
    refine ⟨fun hj => by rw [hf.cells2 (by omega)]; exact h1 (by omega), fun hj => ?_⟩
    by_cases e : j = 15
    · subst e
      rw [skipB_f (by decide)] at hs
      rcases hf with ⟨e, _⟩ | ⟨e, _⟩ | ⟨e, _⟩ | ⟨e, _⟩ | ⟨_, _, zs, rfl, hz⟩ | ⟨e, _⟩
      · cases e
      · cases e
      · cases e
      · cases e
      · exact .inr ⟨by simpa using hs, hz⟩
      · cases e
    · rw [hf.cells2 e]
      exact h2 (by omega)
theorem MadeTo.rf {bare : Bool} {l0 l : Lt} {j : Nat} {ns : List NdV} (h : MadeTo bare l0 j l ns) (h0 : l0.ref = zero32) : (j ≤ 16 → l.ref = zero32) ∧ (16 < j → usesB l0.kind (16 : Nat) = true ∨ l.ref = zero32) := by
  induction h with
  | zero => exact ⟨fun _ => h0, fun h => absurd h (by omega)⟩
  | @skip j l ns _ hs ih =>
    obtain ⟨h1, h2⟩ := ih
    refine ⟨fun hj => h1 (by omega), fun hj => ?_⟩
    by_cases e : j = 16
    · exact .inr (h1 (by omega))
    · exact h2 (by omega)
  | @step j l l' ns ns' hm hs hf ih =>
    obtain ⟨h1, h2⟩ := ih
    refine ⟨fun hj => by rw [hf.ref2 (by omega)]; exact h1 (by omega), fun hj => ?_⟩
    by_cases e : j = 16
    · subst e
      rw [skipB_f (by decide)] at hs
      exact .inl (by simpa using hs)
    · rw [hf.ref2 e]
      exact h2 (by omega)
theorem lim_bnd {k : Int} (h1 : 1 ≤ k) (h2 : k ≤ 18) (f : Nat) (hf : f < 17) (hn : numB f = true) : limLow k f = (bnd k f).1 ∧ limHigh k f = (bnd k f).2 := by
  obtain ⟨n, rfl⟩ : ∃ n : Nat, k = n := ⟨k.toNat, by omega⟩
  have h : ∀ n : Nat, n < 19 → ∀ f : Nat, f < 17 → numB (f : Int) = true → limLow (n : Int) (f : Int) = (bnd (n : Int) f).1 ∧ limHigh (n : Int) (f : Int) = (bnd (n : Int) f).2 := by decide +kernel
  exact h n (by omega) f hf hn
theorem numB_offs {f : Nat} (hf : f < 17) : (∃ o, numOff f = some o ∧ numB f = true ∧ bareF f = specialB f) ∨ numOff f = none :=
  all17 (p := fun f => (∃ o, numOff f = some o ∧ numB f = true ∧ bareF f = specialB f) ∨ numOff f = none) (by
    refine ⟨?_, ?_, ?_, ?_, ?_, ?_, ?_, ?_, ?_, ?_, ?_, ?_, ?_, ?_, ?_, ?_, ?_⟩ <;> first | exact .inr rfl | exact .inl ⟨_, rfl, by decide, by decide⟩) f hf
theorem numOK_skip {l : Lt} {bare : Bool} {k o : Nat} (ho : numOff k = some o) (hb : bareF k = specialB k) (hs : skipB l.kind bare k = true) (h : numF l k = 0) : numOK l bare k = true := by
  unfold skipB at hs
  rw [hb] at hs
  rw [numOK_zero ho (by cases h1 : usesB l.kind k <;> cases h2 : (bare && specialB k) <;> simp_all), h]
  rfl
theorem numOK_in {l : Lt} {bare : Bool} {k o : Nat} (ho : numOff k = some o) (hb : bareF k = specialB k) (hs : skipB l.kind bare k = false) (h1 : limLow l.kind k ≤ numF l k) (h2 : numF l k ≤ limHigh l.kind k) : numOK l bare k = true := by
  unfold skipB at hs
  rw [hb] at hs
  rw [numOK_lim ho (by cases h1 : usesB l.kind k <;> cases h2 : (bare && specialB k) <;> simp_all), decide_eq_true h1, decide_eq_true h2]
  rfl
theorem adjust_cases (l : Lt) : adjust l = l ∧ ¬ (l.kind = 6 ∧ l.scope = 3) ∧ ¬ (l.kind = 5 ∧ l.other = l.person) ∨ (l.kind = 6 ∧ l.scope = 3 ∧ adjust l = setNum l 8 0) ∨ (l.kind = 5 ∧ l.other = l.person ∧ adjust l = setNum l 5 (l.other + 1)) := by
  unfold adjust
  split
  · rename_i h; exact .inr (.inl ⟨h.1, h.2, rfl⟩)
  · rename_i h
    split
    · rename_i h2; exact .inr (.inr ⟨h2.1, h2.2, rfl⟩)
    · rename_i h2; exact .inl ⟨rfl, h, h2⟩
theorem cellsOK_v {zs : List Int} (h : CellsOK zs) (k : Int) : vCells k zs = true := by
  rw [vCells_end]
  · have := h.ne
    simp only [Bool.or_eq_true, decide_eq_true_eq]
    omega
  · intro j hj
    have hz : zs[j]?.getD 0 = zs[j] := by rw [List.getElem?_eq_getElem hj]; rfl
    have hr := h.rng zs[j] (List.getElem_mem hj)
    cases srvB k with
    | false => rw [cellOK_f hz]; exact decide_eq_true (by omega)
    | true =>
      rw [cellOK_t hz rfl]
      refine decide_eq_true ⟨by omega, by omega, by omega, ?_⟩
      by_cases e : j = 0
      · exact .inl e
      · right
        rw [List.getElem?_eq_getElem (by omega)]
        exact List.pairwise_iff_getElem.1 h.up (j - 1) j (by omega) hj (by omega)
theorem vMove_ok {d : Int} {m : Mv} (h : MoveOK d m) (h1 : 0 ≤ m.day) (h2 : m.day ≤ 1099511627776) : vMove m = true := by
  obtain ⟨_, h⟩ := h
  unfold vMove
  rcases h with ⟨e, a, b, c⟩ | ⟨e, a, b, c, d, f, g⟩
  · rw [e, if_pos rfl]; exact decide_eq_true ⟨h1, h2, a, b, c⟩
  · rw [e, if_neg (by decide)]; exact decide_eq_true ⟨h1, h2, a, by omega, c, by omega, f, by omega⟩
theorem numOff_num {f o : Nat} (hf : f < 17) (h : numOff f = some o) : numB f = true ∧ bareF f = specialB f := by
  rcases numB_offs hf with ⟨o', _, h1, h2⟩ | h1
  · exact ⟨h1, h2⟩
  · rw [h1] at h; cases h
/-- What a letter that was made holds: everything that letter.Valid asks for. -/
structure MadeV (l : Lt) (ns : List NdV) : Prop where
  k1 : 1 ≤ l.kind
  k2 : l.kind ≤ 18
  body : bodyOK l = true
  ser : noSerB l = true ∨ (usesB l.kind (10 : Nat) = true ∧ nzOf l = false ∧ SerOK ns l.series)
theorem MadeLt.v {l : Lt} {ns : List NdV} (h : MadeLt l ns) : MadeV l ns := by
  obtain ⟨bare, k, f, t, l1, h1, h2, h3, h4, h5, h6, h7, hbk, hm, hadj⟩ := h.made
  have hk0 : (startLt k f t).kind = k := rfl
  obtain ⟨ek, _, hnum⟩ := hm.nums
  rw [hk0] at ek hnum
  have hmv := (hm.mv rfl (by rw [hk0]; exact h1) (by rw [hk0]; exact h2)).2 (by omega)
  have hse := (hm.se rfl (by rw [hk0]; exact h1) (by rw [hk0]; exact h2)).2 (by omega)
  have hwi := (hm.win ⟨rfl, rfl⟩).2 (by omega)
  have hce := (hm.cel rfl).2 (by omega)
  have hrf := (hm.rf rfl).2 (by omega)
  rw [hk0] at hmv hse hwi hce hrf
  have z0 : ∀ i, i < 17 → numF (startLt k f t) i = 0 := fun i hi => start_numF k f t i hi
  -- the letter behind the adjustment
  have a_kind : l.kind = k := by rw [hadj, adjust_kind]; exact ek
  have a_ser : l.series = l1.series := by rw [hadj]; exact adjust_series l1
  have a_cel : l.cells = l1.cells := by rw [hadj]; exact adjust_cells l1
  have a_ref : l.ref = l1.ref := by rw [hadj]; exact adjust_ref l1
  have hac := adjust_cases l1
  have a_mv : l.move = l1.move := by
    rw [hadj]
    rcases hac with ⟨e, _⟩ | ⟨_, _, e⟩ | ⟨_, _, e⟩ <;> rw [e]
    · exact setNum_move _ _ _
    · exact setNum_move _ _ _
  have a_wf : l.wfrom = l1.wfrom := by
    rw [hadj]
    rcases hac with ⟨e, _⟩ | ⟨_, _, e⟩ | ⟨_, _, e⟩ <;> rw [e]
    · exact setNum_wfrom _ _ _
    · exact setNum_wfrom _ _ _
  have a_wt : l.wto = l1.wto := by
    rw [hadj]
    rcases hac with ⟨e, _⟩ | ⟨_, _, e⟩ | ⟨_, _, e⟩ <;> rw [e]
    · exact setNum_wto _ _ _
    · exact setNum_wto _ _ _
  have a_num : ∀ i, i < 17 → i ≠ 8 → i ≠ 5 → numF l i = numF l1 i := fun i hi n8 n5 => by
    rw [hadj]
    rcases hac with ⟨e, _⟩ | ⟨_, _, e⟩ | ⟨_, _, e⟩ <;> rw [e]
    · exact numF_ne _ _ _ _ hi (fun h => n8 h.symm)
    · exact numF_ne _ _ _ _ hi (fun h => n5 h.symm)
  have a_sc : l.scope = l1.scope := a_num 7 (by omega) (by omega) (by omega)
  have bnd8 : (bnd k 8) = (0, 1099511627776) := rfl
  -- all numbers
  have hN : ∀ i, i < 17 → numOK l bare i = true := by
    intro i hi
    cases ho : numOff i with
    | none => exact numOK_nil ho
    | some o =>
      obtain ⟨hnb, hsp⟩ := numOff_num hi ho
      obtain ⟨g1, g2⟩ := hnum i hi hi
      obtain ⟨b1, b2⟩ := lim_bnd h1 h2 i hi hnb
      cases hs : skipB k bare i with
      | true =>
        refine numOK_skip ho hsp (by rw [a_kind]; exact hs) ?_
        have e0 : numF l1 i = 0 := (g1 hs).trans (z0 i hi)
        by_cases n8 : i = 8
        · subst n8
          rcases hac with ⟨e, _⟩ | ⟨_, _, e⟩ | ⟨_, _, e⟩ <;> rw [hadj, e]
          · exact e0
          · rfl
          · rw [numF_ne _ _ _ _ hi (by omega)]; exact e0
        · by_cases n5 : i = 5
          · subst n5
            rcases hac with ⟨e, _⟩ | ⟨_, _, e⟩ | ⟨hk5, _, e⟩ <;> rw [hadj, e]
            · exact e0
            · rw [numF_ne _ _ _ _ hi (by omega)]; exact e0
            · exfalso
              rw [ek] at hk5
              have hb : bare = false := by
                cases bare with
                | false => rfl
                | true => have := hbk rfl; omega
              rw [hk5, hb] at hs
              revert hs
              decide
          · rw [a_num i hi n8 n5]; exact e0
      | false =>
        obtain ⟨c1, c2, c3⟩ := g2 hs hnb
        refine numOK_in ho hsp (by rw [a_kind]; exact hs) ?_ ?_
        all_goals
          rw [a_kind]
          first | rw [b1] | rw [b2]
          by_cases n8 : i = 8
          · subst n8
            rcases hac with ⟨e, _⟩ | ⟨_, _, e⟩ | ⟨_, _, e⟩ <;> rw [hadj, e]
            · first | exact c1 | exact c2
            · rw [bnd8]; first | exact Int.le_refl _ | exact (show (0 : Int) ≤ 1099511627776 by decide)
            · rw [numF_ne _ _ _ _ hi (by omega)]; first | exact c1 | exact c2
          · by_cases n5 : i = 5
            · subst n5
              rcases hac with ⟨e, _⟩ | ⟨_, _, e⟩ | ⟨hk5, _, e⟩ <;> rw [hadj, e]
              · first | exact c1 | exact c2
              · rw [numF_ne _ _ _ _ hi (by omega)]; first | exact c1 | exact c2
              · rw [ek] at hk5
                subst hk5
                have e5 : bnd 5 5 = (0, 511) := rfl
                rw [e5] at c1 c2 c3 ⊢
                rw [numF_same _ _ _ hi rfl]
                have : numF l1 5 = l1.other := rfl
                rw [this] at c1 c2 c3
                dsimp only at c1 c2 c3 ⊢
                omega
            · rw [a_num i hi n8 n5]; first | exact c1 | exact c2
  have hday : k = 6 → 0 ≤ l.day ∧ l.day ≤ 1099511627776 := by
    intro hk
    have h := hN 8 (by omega)
    have hb : bare = false := by
      cases bare with
      | false => rfl
      | true => have := hbk rfl; omega
    rw [hb, numOK_lim (o := 11) rfl (by rw [a_kind, hk]; decide), Bool.and_eq_true, decide_eq_true_eq, decide_eq_true_eq, a_kind, hk] at h
    exact h
  have hop : (decide (l.kind ≠ 5) || decide (l.other ≠ l.person)) = true := by
    rw [Bool.or_eq_true, decide_eq_true_eq, decide_eq_true_eq]
    by_cases hk : l.kind = 5
    · right
      rw [hadj]
      rcases hac with ⟨e, _, n⟩ | ⟨k6, _, _⟩ | ⟨_, he, e⟩
      · rw [e]; intro hc; exact n ⟨by rw [ek, ← a_kind]; exact hk, hc⟩
      · omega
      · rw [e]; show l1.other + 1 ≠ l1.person; omega
    · exact .inl hk
  -- the series
  have hnz : (nzOf l = true ∧ l.series = zSer) ∨ (nzOf l = false ∧ SerOK ns l.series) := by
    rcases hse with ⟨_, _, _, hs⟩ | ⟨_, _, _, hs⟩
    · right
      rw [← a_ser] at hs
      refine ⟨?_, hs⟩
      unfold nzOf noSer
      exact decide_eq_false (by have := hs.lng; omega)
    · left
      rw [← a_ser] at hs
      exact ⟨by unfold nzOf; rw [hs]; rfl, hs⟩
  have hbare : bareB l.kind l.series.rule.length l.series.moves.length l.series = bare := by
    unfold bareB
    rw [a_kind]
    change (decide (k = 8) && nzOf l) = bare
    rcases hse with ⟨_, hb, _, hs⟩ | ⟨_, k8, _, hs⟩
    · rcases hnz with ⟨_, hz⟩ | ⟨hz, _⟩
      · exfalso; rw [← a_ser, hz] at hs; have := hs.lng; simp [zSer] at this
      · rw [hz, hb, Bool.and_false]
    · rcases hnz with ⟨hz, _⟩ | ⟨_, hz⟩
      · rw [hz, Bool.and_true]
        cases bare with
        | true => exact decide_eq_true (hbk rfl)
        | false => exact decide_eq_false fun h => by have := k8 h; cases this
      · exfalso; rw [a_ser, hs] at hz; have := hz.lng; simp [zSer] at this
  have hV : vNums l (bareB l.kind l.series.rule.length l.series.moves.length l.series) = true := by
    rw [hbare, vNums_end hN]
    exact hop
  -- the move
  have hmz : l.move = zMv → mvZ l.move = true := fun e => by rw [e]; rfl
  have hO : oth l = true := by
    unfold oth
    rw [vOthers_rest]
    · rw [Bool.and_eq_true, Bool.and_eq_true, Bool.and_eq_true, Bool.or_eq_true, Bool.or_eq_true, decide_eq_true_eq, decide_eq_true_eq, a_kind]
      refine ⟨⟨⟨?_, ?_⟩, ?_⟩, ?_⟩
      · rcases hmv with ⟨e, g1, g2, g3⟩ | ⟨e, _⟩ | ⟨e, _⟩
        · right; rw [a_mv]; exact vMove_ok g1 g2 (by omega)
        · left; omega
        · exact .inl e
      · by_cases k6 : k = 6
        · right
          unfold vChange
          rcases hmv with ⟨e, _⟩ | ⟨_, hsc, g1, g2⟩ | ⟨_, hsc, g⟩
          · omega
          · have e1 : l.scope = 1 := by rw [a_sc]; exact hsc
            have ed : l.day = l1.day := by
              rw [hadj]
              rcases hac with ⟨e, _⟩ | ⟨_, e3, _⟩ | ⟨e5, _⟩
              · rw [e]
              · omega
              · omega
            have hd := hday k6
            have hz : nzOf l = true := by
              rcases hse with ⟨_, _, n, _⟩ | ⟨_, _, _, hs⟩
              · exact absurd hsc (n k6)
              · rcases hnz with ⟨h, _⟩ | ⟨_, h⟩
                · exact h
                · exfalso; rw [a_ser, hs] at h; have := h.lng; simp [zSer] at this
            rw [if_pos e1, a_mv, vMove_ok g1 (by omega) (by omega), hz, decide_eq_true (by omega)]
            rfl
          · have n1 : ¬ l.scope = 1 := by rw [a_sc]; exact hsc k6
            rw [if_neg n1, hmz (a_mv.trans g)]
            split
            · rename_i e3
              have : l.day = 0 := by
                rw [hadj]
                rcases hac with ⟨_, e, _⟩ | ⟨_, _, e⟩ | ⟨e5, _⟩
                · exact absurd ⟨by omega, by rw [← a_sc]; exact e3⟩ e
                · rw [e]; rfl
                · omega
              rw [this]; rfl
            · rfl
        · exact .inl k6
      · unfold spanB
        rw [a_wf, a_wt]
        refine decide_eq_true ?_
        rcases hwi with ⟨e1, e2⟩ | ⟨_, e1, e2, e3⟩
        · rw [e1, e2]; decide
        · omega
      · rw [a_cel]
        rcases hce with ⟨hu, e⟩ | ⟨_, e⟩
        · rw [e]
          unfold vCells
          rw [decide_eq_true (show k ≠ 17 by rintro rfl; revert hu; decide)]
          rfl
        · exact cellsOK_v e k
    · refine zerosOK_yes fun i hi => ?_
      rw [a_kind]
      have hi' : i = 0 ∨ i = 1 ∨ i = 2 ∨ i = 3 ∨ i = 4 := by omega
      rcases hi' with rfl | rfl | rfl | rfl | rfl
      · show (usesB k ((9 : Nat) : Int) || mvZ l.move) = true
        rw [Bool.or_eq_true]
        rcases hmv with ⟨e, _⟩ | ⟨e, _⟩ | ⟨_, _, g⟩
        · exact .inl ((uses9 h1 h2).2 (.inl e))
        · exact .inl ((uses9 h1 h2).2 (.inr e))
        · exact .inr (hmz (a_mv.trans g))
      · show (usesB k ((10 : Nat) : Int) || nzOf l) = true
        rw [Bool.or_eq_true]
        rcases hse with ⟨e, _⟩ | ⟨_, _, _, hs⟩
        · exact .inl ((uses10 h1 h2).2 e)
        · rcases hnz with ⟨h, _⟩ | ⟨_, h⟩
          · exact .inr h
          · exfalso; rw [a_ser, hs] at h; have := h.lng; simp [zSer] at this
      · show (usesB k ((14 : Nat) : Int) || (decide (l.wfrom = 0) && decide (l.wto = 0))) = true
        rw [Bool.or_eq_true, a_wf, a_wt]
        rcases hwi with ⟨e1, e2⟩ | ⟨e, _⟩
        · right; rw [e1, e2]; rfl
        · exact .inl e
      · show (usesB k ((15 : Nat) : Int) || ((l.cells.length : Int) == 0)) = true
        rw [Bool.or_eq_true, a_cel]
        rcases hce with ⟨_, e⟩ | ⟨e, _⟩
        · right; rw [e]; rfl
        · exact .inl e
      · show (usesB k ((16 : Nat) : Int) || (l.ref == zero32)) = true
        rw [Bool.or_eq_true, a_ref]
        rcases hrf with e | e
        · exact .inl e
        · right; rw [e]; decide
  refine ⟨by omega, by omega, by unfold bodyOK; rw [hV, hO]; rfl, ?_⟩
  rcases hnz with ⟨hz, _⟩ | ⟨hz, hs⟩
  · left
    unfold noSerB
    rw [hz, a_kind, a_sc]
    change (!usesB k ((10 : Nat) : Int) || _) = true
    cases hu : usesB k ((10 : Nat) : Int) with
    | false => rfl
    | true =>
      have hk := (uses10 h1 h2).1 hu
      rcases hse with ⟨_, _, _, hs⟩ | ⟨a, b, c, _⟩
      · exfalso
        unfold nzOf noSer at hz
        rw [a_ser, decide_eq_true_eq] at hz
        have := hs.lng
        omega
      · simp only [Bool.not_true, Bool.false_or, Bool.true_and, Bool.or_eq_true, decide_eq_true_eq]
        rcases hk with hk | hk | hk
        · have := hbk (a hk); omega
        · rcases c hk with c | c
          · have := hbk c; omega
          · exact .inr c
        · exact .inl hk
  · right
    refine ⟨?_, hz, hs⟩
    rw [a_kind]
    rcases hse with ⟨e, _⟩ | ⟨_, _, _, hs'⟩
    · exact (uses10 h1 h2).2 e
    · exfalso; rw [a_ser, hs'] at hs; have := hs.lng; simp [zSer] at this
end Go.Proofs.YthhbbebabmemfaaGreat
