/- The texts GS, Flds, Others, ValidW, in this order. -/
import Derived.Test.YtpgagfmpikhpkaaGreatDoorG05
import Derived.Test.YtpgagfmpikhpkaaGreatDoorG01
import Derived.Test.YtpgagfmpikhpkaaGreatDoorG03
import Derived.Deep.RegionHeld3
import Derived.Deep.DrawnRows
import Derived.Deep.DeepCutAuto
import Derived.Deep.CutBlock
/- A struct under way beside the maker, of any type; kalendsref20.MadeMove. -/
namespace Go.Proofs.YtpgagfmpikhpkaaGreatDoor
open Go Go.RowKit

/-- The result's variable at b4 (zero), a variable of the same type at b6. -/
structure GS (t : TypeId) (z : Array Value) (w0 : World) (mb : Nat) (xs : List Int) (a nd b4 b6 : Nat) (cs : Array Value) (W : World) : Prop where
  hm : mb < w0.heap.size
  mkr : MkSt W mb xs a nd
  keep : MKeep mb w0 W
  lo : w0.heap.size ≤ b4
  ne : b4 < b6
  res : W.heap[b4]? = some (.cells z t (0, 0))
  var : W.heap[b6]? = some (.cells cs t (0, 0))
section
variable {t : TypeId} {z : Array Value} {w0 W W' : World} {mb a a' nd nd' b4 b6 : Nat} {xs : List Int} {cs : Array Value}
theorem GS.lt (h : GS t z w0 mb xs a nd b4 b6 cs W) : b6 < W.heap.size := (Array.getElem?_eq_some_iff.1 h.var).1
theorem GS.cell (h : GS t z w0 mb xs a nd b4 b6 cs W) : ∀ i, W.cell? ⟨b6, i, none⟩ = cs[i]? := fun i => cell_of_row W b6 i _ _ _ h.var
theorem GS.froz (h : GS t z w0 mb xs a nd b4 b6 cs W) : ∀ i, W.frozen? ⟨b6, i, none⟩ = false := fun i => frozen_of_row W b6 i _ _ h.var
theorem GS.row (h : GS t z w0 mb xs a nd b4 b6 cs W) : Row W b6 cs := ⟨h.lt, h.cell⟩
theorem GS.step (h : GS t z w0 mb xs a nd b4 b6 cs W) (hm : MkSt W' mb xs a' nd') (hk : MKeep mb W W') : GS t z w0 mb xs a' nd' b4 b6 cs W' :=
  have h1 := h.hm
  have h2 := h.lo
  have h3 := h.ne
  have h4 := h.lt
  ⟨h.hm, hm, h.keep.trans hk, h.lo, h.ne, (hk.block b4 (by omega) (by omega)).trans h.res, (hk.block b6 (by omega) (by omega)).trans h.var⟩
theorem GS.pick (h : GS t z w0 mb xs a nd b4 b6 cs W) (hx : XsOK xs) (n : Int) (ha : a ≤ 1000000000) (hn : 0 < n) (hn2 : n ≤ 1000000000000000000) :
    Calls Tryz.prog 18 #[pt mb, I n] W fun e W' => ∃ r, e = .returned (I r) ∧ 0 ≤ r ∧ r < n ∧ MKeep mb W W' ∧ GS t z w0 mb xs (a + 1) nd b4 b6 cs W' :=
  (pick_any W mb xs a nd n h.mkr hx ha hn hn2).mono fun _ _ ⟨r, h1, h2, h3, h4, h5⟩ => ⟨r, h1, h2, h3, h5, h.step h4 h5⟩
theorem GS.store (h : GS t z w0 mb xs a nd b4 b6 cs W) (o : Nat) (v : Value) : GS t z w0 mb xs a nd b4 b6 (cs.setIfInBounds o v) (W.setCell ⟨b6, o, none⟩ v) := by
  have h1 := h.hm
  have h2 := h.lo
  have h3 := h.ne
  have hb : Below b6 W (W.setCell ⟨b6, o, none⟩ v) := (Below.refl b6 W).setCell (p := ⟨b6, o, none⟩) (Nat.le_refl _) _
  refine ⟨h.hm, h.mkr.far _ _ (by show mb < b6; omega), ?_, h.lo, h.ne, (hb.block b4 (by omega)).trans h.res, heap_setCell_same W b6 o _ _ _ h.var⟩
  exact ⟨hb.os.trans h.keep.os, hb.tape.trans h.keep.tape, hb.output.trans h.keep.output, Nat.le_trans h.keep.size hb.size, fun k hk hn => (hb.block k (by omega)).trans (h.keep.block k hk hn)⟩
theorem GS.start {w w1 : World} (hm : MkSt w1 mb xs a nd) (hml : mb < w.heap.size) (hk : MKeep mb (w.alloc (.cells z t)) w1) :
    GS t z w mb xs a nd w.heap.size w1.heap.size cs (w1.alloc (.cells cs t)) := by
  have hs := hk.size
  rw [World.size_alloc] at hs
  have hk0 : MKeep mb w w1 := (MKeep.of_below (below_var w (.cells z t))).trans hk
  refine ⟨hml, hm.grow (below_var w1 _), hk0.trans (MKeep.of_below (below_var w1 _)), Nat.le_refl _, by omega, ?_, heap_alloc_last w1 _⟩
  rw [Below.heap_alloc w1 _ _ (by omega), hk.block _ (by simp) (by omega), heap_alloc_last]
/-- Behind the store of the result. -/
theorem GS.fin (h : GS t z w0 mb xs a nd b4 b6 cs W) : MkSt (W.setRow b4 cs) mb xs a nd ∧ MKeep mb w0 (W.setRow b4 cs) := by
  have h1 := h.hm
  have h2 := h.lo
  have hb : Below b4 W (W.setRow b4 cs) := below_setRow (Below.refl b4 W) (Nat.le_refl _) _
  refine ⟨?_, ?_⟩
  · obtain ⟨A', c', g1, g2⟩ := h.mkr
    exact ⟨A', c', (setRow_other W b4 mb _ (by omega)).trans g1, g2.keep (hb.mono (by omega))⟩
  · exact ⟨hb.os.trans h.keep.os, hb.tape.trans h.keep.tape, hb.output.trans h.keep.output, Nat.le_trans h.keep.size hb.size, fun k hk hn => (setRow_other W b4 k _ (by omega)).trans (h.keep.block k hk hn)⟩
end
def MoveOK (day : Int) (m : Mv) : Prop := m.day = day ∧ ((m.drop = true ∧ m.toDay = 0 ∧ m.minute = 0 ∧ m.length = 0) ∨ (m.drop = false ∧ 0 ≤ m.toDay ∧ m.toDay < 60 ∧ 0 ≤ m.minute ∧ m.minute < 1440 ∧ 1 ≤ m.length ∧ m.length ≤ 300))
def Moved1 (w : World) (mb : Nat) (xs : List Int) (at_ nodes : Nat) (day : Int) (e : Ending) (w' : World) : Prop :=
  ∃ m a', e = .returned (.agg (mvCells m)) ∧ MoveOK day m ∧ MkSt w' mb xs a' nodes ∧ a' ≤ at_ + 4 ∧ MKeep mb w w'
def zMove : Array Value := #[I 0, .bool false, I 0, I 0, I 0]
theorem mv_size (m : Mv) : (Tryz.prog.info? 25).map (·.size) = some (mvCells m).size := by kernel_rfl
theorem mv_one (m : Mv) : (mvCells m).all (·.oneCell') = true := by kernel_rfl
set_option maxRecDepth 10000 in
set_option maxHeartbeats 1000000 in
theorem madeMove_any (w : World) (mb : Nat) (xs : List Int) (at_ nodes : Nat) (day : Int) (h : MkSt w mb xs at_ nodes) (hx : XsOK xs) (hat : at_ ≤ 10000000) :
    Calls Tryz.prog 54 #[pt mb, I day] w (Moved1 w mb xs at_ nodes day) := by
  have HM0 := Lib.hid (h.grow (below_var w (.cells zMove 25)))
  have hml := h.lt
  clear h
  go_enter Tryz.func54, Tryz.ntmps54
  go_wp2_with fail
  refine (pick_any _ mb xs at_ nodes 3 HM0.out hx (by omega) (by omega) (by omega)).mono ?_
  rintro e w1 ⟨r, rfl, hr1, hr2, hm1, hk1⟩
  have HM1 := Lib.hid hm1
  have HK1 := Lib.hid hk1
  clear hm1 hk1 HM0
  by_cases hr : r = 1
  · subst hr
    clear hr1 hr2
    have hres : w1.heap[w.heap.size]? = some (.cells zMove 25 (0, 0)) := (HK1.out.block _ (by simp) (by omega)).trans (heap_alloc_last w _)
    have HRES := Lib.hid hres
    clear hres
    go_wp2_with (with_reducible refine g_store 25 ?_; refine wpList_store_row rfl _ _ _ rfl w.heap.size (mvCells ⟨day, true, 0, 0, 0⟩) rfl rfl 25 zMove HRES.out (mv_size _) rfl (mv_one _) ?_)
    have hb : Below w.heap.size w1 (w1.setRow w.heap.size (mvCells ⟨day, true, 0, 0, 0⟩)) := below_setRow (Below.refl _ w1) (Nat.le_refl _) _
    have hk0 : MKeep mb w w1 := (MKeep.of_below (below_var w (.cells zMove 25))).trans HK1.out
    refine bodyPost_ret (v := .agg (mvCells ⟨day, true, 0, 0, 0⟩)) (results_cell_row rfl _ _ w.heap.size _ (mvCells ⟨day, true, 0, 0, 0⟩) (0, 0) _ rfl (setRow_heap _ _ _ _ _ _ HRES.out) Tryz.underlying25 rfl (mv_size _)) rfl ⟨⟨day, true, 0, 0, 0⟩, at_ + 1, rfl, ⟨rfl, .inl ⟨rfl, rfl, rfl, rfl⟩⟩, ?_, by omega, ?_⟩
    · obtain ⟨A', c', g1, g2⟩ := HM1.out
      exact ⟨A', c', (setRow_other w1 w.heap.size mb _ (by omega)).trans g1, g2.keep (hb.mono (by omega))⟩
    · exact ⟨hb.os.trans hk0.os, hb.tape.trans hk0.tape, hb.output.trans hk0.output, Nat.le_trans hk0.size hb.size, fun k hk hn => (setRow_other w1 w.heap.size k _ (by omega)).trans (hk0.block k hk hn)⟩
  · go_wp2_with fail
    refine (pick_any _ mb xs (at_ + 1) nodes 60 HM1.out hx (by omega) (by omega) (by omega)).mono ?_
    rintro e w2 ⟨d, rfl, hd1, hd2, hm2, hk2⟩
    have HM2 := Lib.hid hm2
    have HK2 := Lib.hid (HK1.out.trans hk2)
    clear hm2 hk2 HM1 HK1 hr hr1 hr2
    have G0 : Hid (GS 25 zMove w mb xs (at_ + 1 + 1) nodes w.heap.size w2.heap.size #[I day, .bool false, I d, I 0, I 0] (w2.alloc (.cells #[I day, .bool false, I d, I 0, I 0] 25))) := Lib.hid (GS.start HM2.out hml HK2.out)
    go_wp2_with fail
    refine (G0.out.pick hx 1440 (by omega) (by omega) (by omega)).mono ?_
    rintro e w3 ⟨m, rfl, m1, m2, _, g1⟩
    have g1c := g1.cell
    have g1f := g1.froz
    have G1 := Lib.hid (g1.store 3 (I m))
    clear g1
    go_wp2_with fail
    clear g1c g1f
    refine (G1.out.pick hx 300 (by omega) (by omega) (by omega)).mono ?_
    rintro e w4 ⟨n, rfl, n1, n2, _, g2⟩
    have g2c := g2.cell
    have g2f := g2.froz
    have G2 : Hid (GS 25 zMove w mb xs _ nodes w.heap.size w2.heap.size (mvCells ⟨day, false, d, m, 1 + n⟩) _) := Lib.hid (g2.store 4 (I (1 + n)))
    clear g2
    have HRW := Lib.hid G2.out.row
    go_wp2_with (first
      | (with_reducible refine g_load 25 ?_; refine wpList_load_Row rfl _ _ rfl w2.heap.size rfl (mvCells ⟨day, false, d, m, 1 + n⟩) HRW.out _ Tryz.underlying25 rfl (mv_size _) ?_)
      | (with_reducible refine g_store 25 ?_; refine wpList_store_row rfl _ _ _ rfl w.heap.size (mvCells ⟨day, false, d, m, 1 + n⟩) rfl rfl 25 zMove G2.out.res (mv_size _) rfl (mv_one _) ?_))
    exact bodyPost_ret (v := .agg (mvCells ⟨day, false, d, m, 1 + n⟩)) (results_cell_row rfl _ _ w.heap.size _ (mvCells ⟨day, false, d, m, 1 + n⟩) (0, 0) _ rfl (setRow_heap _ _ _ _ _ _ G2.out.res) Tryz.underlying25 rfl (mv_size _)) rfl ⟨⟨day, false, d, m, 1 + n⟩, _, rfl, ⟨rfl, .inr ⟨rfl, hd1, hd2, m1, m2, by show 1 ≤ 1 + n; omega, by show 1 + n ≤ 300; omega⟩⟩, G2.out.fin.1, by omega, G2.out.fin.2⟩
end Go.Proofs.YtpgagfmpikhpkaaGreatDoor

/- kalendsref20.fields, Uses, numeric. -/
namespace Go.Proofs.YtpgagfmpikhpkaaGreatDoor
open Go Go.RowKit

def fieldsT : List (List Int) := [[], [0, 1, 4, 10], [0, 1, 4], [0, 1, 4], [0, 1, 4, 9], [0, 1, 4, 5], [0, 1, 7, 8, 9, 10], [0, 1], [0, 4, 5, 6, 10, 11, 12, 15], [0, 6, 11, 15, 16], [0, 6, 12, 15, 16], [0, 12, 15, 16], [0, 12, 15, 16], [0, 15], [0, 12, 15, 16], [4, 5, 13, 14], [4, 5, 13, 14, 15, 16], [2, 3, 15, 16], [0, 16]]
def fieldsL (k : Nat) : List Int := (fieldsT[k]?).getD []
theorem fields_uses : ∀ k : Nat, k < 19 → ∀ f : Nat, f < 17 → (fieldsL k).contains (f : Int) = usesB (k : Int) (f : Int) := by decide +kernel
theorem fields_len : ∀ k : Nat, k < 19 → (fieldsL k).length ≤ 8 := by decide +kernel
set_option maxRecDepth 10000 in
set_option maxHeartbeats 4000000 in
theorem fields_any (k : Nat) (h1 : 1 ≤ k) (h2 : k ≤ 18) (w : World) : Calls Tryz.prog 21 #[I k] w fun e w' => e = .returned (.slice (some ⟨w.heap.size, 0, none⟩) (fieldsL k).length (fieldsL k).length) ∧ w' = w.alloc (.cells ((fieldsL k).map I).toArray 3) := by
  have hk : k = 1 ∨ k = 2 ∨ k = 3 ∨ k = 4 ∨ k = 5 ∨ k = 6 ∨ k = 7 ∨ k = 8 ∨ k = 9 ∨ k = 10 ∨ k = 11 ∨ k = 12 ∨ k = 13 ∨ k = 14 ∨ k = 15 ∨ k = 16 ∨ k = 17 ∨ k = 18 := by omega
  rcases hk with rfl | rfl | rfl | rfl | rfl | rfl | rfl | rfl | rfl | rfl | rfl | rfl | rfl | rfl | rfl | rfl | rfl | rfl
  all_goals
    go_enter Tryz.func21, Tryz.ntmps21
    go_wp2
    go_ret
    exact ⟨rfl, rfl⟩
set_option maxRecDepth 10000 in
set_option maxHeartbeats 1000000 in
theorem refUses_any (k : Nat) (h1 : 1 ≤ k) (h2 : k ≤ 18) (f : Int) (w : World) : Calls Tryz.prog 8 #[I k, I f] w (Gives (.bool ((fieldsL k).contains f)) w) := by
  have hlen := fields_len k (by omega)
  have HF := Lib.hid (fields_any k h1 h2 w)
  have HC : Hid (∀ j, j < (fieldsL k).length → (w.alloc (.cells ((fieldsL k).map I).toArray 3)).cell? ⟨w.heap.size, j, none⟩ = some (I ((fieldsL k)[j]?.getD 0))) := Lib.hid (fun j hj => by rw [(Row.new w _ _).2 j]; simp [hj])
  obtain ⟨zs, hz⟩ : ∃ zs, fieldsL k = zs := ⟨_, rfl⟩
  rw [hz] at hlen HF HC ⊢
  clear hz
  go_enter Tryz.func8, Tryz.ntmps8
  go_wp2_with fail
  refine HF.out.mono ?_
  rintro e w1 ⟨rfl, rfl⟩
  have HB := Lib.hid (below_var w (.cells (zs.map I).toArray 3))
  obtain ⟨W, hW⟩ : ∃ W, w.alloc (.cells (zs.map I).toArray 3) = W := ⟨_, rfl⟩
  rw [hW] at HB HC ⊢
  clear hW
  go_wp2_with fail
  go_loopw [6] (fun i wr => ∃ j : Nat, j ≤ zs.length ∧ i = I j ∧ wr = W ∧ (zs.take j).contains f = false) (fun i _ => zs.length - (intOf i).toNat)
  case atStart => exact ⟨0, by omega, rfl, rfl, rfl⟩
  case round =>
    obtain ⟨j, hj, rfl, rfl, hno⟩ := hrel
    have HNO := Lib.hid hno
    clear hno
    by_cases hlt : j < zs.length
    · have hltI : (j : Int) < (zs.length : Int) := by omega
      have hc := HC.out j hlt
      obtain ⟨x, hx⟩ : ∃ x, zs[j]?.getD 0 = x := ⟨_, rfl⟩
      rw [hx] at hc
      have hxe : zs[j]? = some x := by rw [List.getElem?_eq_getElem hlt] at hx ⊢; rw [← hx]; rfl
      have HX := Lib.hid hxe
      clear hx hxe
      cases hq : (x == f)
      · have HQ := Lib.hid hq
        go_wp2_with fail
        go_roundw
        case rel => exact ⟨j + 1, by omega, by go_num, by first | rfl | trivial, by rw [List.take_add_one, HX.out, List.contains_eq_any_beq, List.any_append, ← List.contains_eq_any_beq, HNO.out]; simp; have := HQ.out; rw [beq_dec] at this; have := of_decide_eq_false this; omega⟩
        case measure => simp [intOf]; omega
      · have hxf : x = f := by rw [beq_dec] at hq; exact of_decide_eq_true hq
        go_wp2_with fail
        go_ret
        refine ⟨?_, HB.out⟩
        have : zs.contains f = true := by rw [List.contains_iff_mem]; exact List.mem_of_getElem? (by rw [← hxf]; exact HX.out)
        rw [this]; rfl
    · have hje : j = zs.length := by omega
      have HJ := Lib.hid hje
      clear hje
      go_wp2_with fail
      go_ret
      refine ⟨?_, HB.out⟩
      have := HNO.out
      rw [HJ.out, List.take_length] at this
      rw [this]; rfl
def numB (f : Int) : Bool := decide (f ≤ 8) || (f == 11) || (f == 12) || (f == 13)
set_option maxRecDepth 10000 in
set_option maxHeartbeats 400000 in
theorem numeric_any (f : Int) (w : World) : Calls Tryz.prog 22 #[I f] w fun e w' => e = .returned (.bool (numB f)) ∧ w' = w := by
  unfold numB
  cases h0 : decide (f ≤ 8)
  · have h0' : ¬ f ≤ 8 := of_decide_eq_false h0
    cases h1 : (f == 11)
    · cases h2 : (f == 12)
      · cases h3 : (f == 13)
        all_goals
          go_enter Tryz.func22, Tryz.ntmps22
          go_wp2
          go_ret
          exact ⟨rfl, rfl⟩
      · go_enter Tryz.func22, Tryz.ntmps22
        go_wp2
        go_ret
        exact ⟨rfl, rfl⟩
    · go_enter Tryz.func22, Tryz.ntmps22
      go_wp2
      go_ret
      exact ⟨rfl, rfl⟩
  · have h0' : f ≤ 8 := of_decide_eq_true h0
    go_enter Tryz.func22, Tryz.ntmps22
    go_wp2
    go_ret
    exact ⟨rfl, rfl⟩
end Go.Proofs.YtpgagfmpikhpkaaGreatDoor

/- letter.validOthers. -/
namespace Go.Proofs.YtpgagfmpikhpkaaGreatDoor
open Go Go.RowKit

def zero32 : List UInt8 := List.replicate 32 0
theorem zero32_cells : (refCells zero32).toArray = #[Value.int .u8 0, Value.int .u8 0, Value.int .u8 0, Value.int .u8 0, Value.int .u8 0, Value.int .u8 0, Value.int .u8 0, Value.int .u8 0, Value.int .u8 0, Value.int .u8 0, Value.int .u8 0, Value.int .u8 0, Value.int .u8 0, Value.int .u8 0, Value.int .u8 0, Value.int .u8 0, Value.int .u8 0, Value.int .u8 0, Value.int .u8 0, Value.int .u8 0, Value.int .u8 0, Value.int .u8 0, Value.int .u8 0, Value.int .u8 0, Value.int .u8 0, Value.int .u8 0, Value.int .u8 0, Value.int .u8 0, Value.int .u8 0, Value.int .u8 0, Value.int .u8 0, Value.int .u8 0] := rfl
theorem size_u8 (w : World) : (sizeOf 5).run Tryz.prog w = .ok 1 w := by kernel_rfl
theorem eql_digest (r : List UInt8) (h : r.length = 32) (w : World) :
    (binOp .eql 34 (.agg (refCells r).toArray) (.agg #[Value.int .u8 0, Value.int .u8 0, Value.int .u8 0, Value.int .u8 0, Value.int .u8 0, Value.int .u8 0, Value.int .u8 0, Value.int .u8 0, Value.int .u8 0, Value.int .u8 0, Value.int .u8 0, Value.int .u8 0, Value.int .u8 0, Value.int .u8 0, Value.int .u8 0, Value.int .u8 0, Value.int .u8 0, Value.int .u8 0, Value.int .u8 0, Value.int .u8 0, Value.int .u8 0, Value.int .u8 0, Value.int .u8 0, Value.int .u8 0, Value.int .u8 0, Value.int .u8 0, Value.int .u8 0, Value.int .u8 0, Value.int .u8 0, Value.int .u8 0, Value.int .u8 0, Value.int .u8 0])).run Tryz.prog w = .ok (.bool (r == zero32)) w := by
  have := run_eql_bytes (P := Tryz.prog) w 34 5 32 Tryz.underlying34 Tryz.underlying5 (fun w => size_u8 w) r zero32 h rfl
  rw [← zero32_cells]
  exact this

attribute [local go_sem] lt_get0 lt_get12 lt_get13 lt_get14 lt_get15 lt_get16 lt_get17 lt_get18 lt_get19 lt_get20 lt_get21 lt_get22 lt_get23 lt_get27 lt_get28 lt_get29
attribute [local go_sem ↓] Go.wp_at_zero Go.wp_at_succ

theorem ref_one (r : List UInt8) : ∀ v ∈ refCells r, v.oneCell' = true := by
  intro v hv; simp only [refCells, List.mem_map] at hv; obtain ⟨x, _, rfl⟩ := hv; rfl

/-- The letter's block, as the region's loads ask for it. -/
abbrev OthS (w : World) (cs : Array Value) (r : List UInt8) (w' : World) : Prop :=
  (∀ i, w'.cell? ⟨w.heap.size, i, none⟩ = cs[i]?) ∧ w'.rangeAt w.heap.size 30 (refCells r) ∧ w.heap.size < w'.heap.size ∧ Below w.heap.size w w'
theorem OthS.draw {w W : World} {cs : Array Value} {r : List UInt8} (h : OthS w cs r W) : OthS w cs r W.drew :=
  ⟨h.1, h.2.1, h.2.2.1, h.2.2.2.drew⟩
theorem OthS.below {w W wn : World} {cs : Array Value} {r : List UInt8} (h : OthS w cs r W) (hb : Below W.heap.size W wn) : OthS w cs r wn :=
  ⟨fun i => (hb.cell (p := ⟨_, i, none⟩) h.2.2.1).trans (h.1 i), fun j v hv => (hb.cell (p := ⟨_, 30 + j, none⟩) h.2.2.1).trans (h.2.1 j v hv), Nat.lt_of_lt_of_le h.2.2.1 hb.size, below_trans h.2.2.2 hb⟩

theorem there_new (W : World) (mz nz wz cz rz : Bool) : (W.alloc (.cells #[Value.bool false, Value.bool false, Value.bool false, Value.bool false, Value.bool false, Value.bool false, Value.bool false, Value.bool false, Value.bool false, Value.bool false, Value.bool false, Value.bool false, Value.bool false, Value.bool false, Value.bool false, Value.bool false, Value.bool false] 101)).there W.heap.size 0 [Value.bool false, Value.bool false, Value.bool false, Value.bool false, Value.bool false, Value.bool false, Value.bool false, Value.bool false, Value.bool false, Value.bool mz, Value.bool nz, Value.bool false, Value.bool false, Value.bool false, Value.bool wz, Value.bool cz, Value.bool rz].length := fun j hj => by
  have hj' : j < 17 := hj
  rw [World.cell?_alloc_at _ _ _ _ rfl, World.frozen?_alloc_at _ _ _ _ rfl]
  exact ⟨by simp; omega, rfl⟩
theorem there_below {W wn : World} {g : Nat} (hg : W.heap.size = g) (mz nz wz cz rz : Bool) (hb : Below (W.alloc (.cells #[Value.bool false, Value.bool false, Value.bool false, Value.bool false, Value.bool false, Value.bool false, Value.bool false, Value.bool false, Value.bool false, Value.bool false, Value.bool false, Value.bool false, Value.bool false, Value.bool false, Value.bool false, Value.bool false, Value.bool false] 101)).drew.heap.size (W.alloc (.cells #[Value.bool false, Value.bool false, Value.bool false, Value.bool false, Value.bool false, Value.bool false, Value.bool false, Value.bool false, Value.bool false, Value.bool false, Value.bool false, Value.bool false, Value.bool false, Value.bool false, Value.bool false, Value.bool false, Value.bool false] 101)).drew wn) : wn.there g 0 [Value.bool false, Value.bool false, Value.bool false, Value.bool false, Value.bool false, Value.bool false, Value.bool false, Value.bool false, Value.bool false, Value.bool mz, Value.bool nz, Value.bool false, Value.bool false, Value.bool false, Value.bool wz, Value.bool cz, Value.bool rz].length := fun j hj => by
  subst hg
  have hlt : W.heap.size < (W.alloc (.cells #[Value.bool false, Value.bool false, Value.bool false, Value.bool false, Value.bool false, Value.bool false, Value.bool false, Value.bool false, Value.bool false, Value.bool false, Value.bool false, Value.bool false, Value.bool false, Value.bool false, Value.bool false, Value.bool false, Value.bool false] 101)).drew.heap.size := by show _ < (W.heap.push _).size; simp
  rw [hb.cell (p := ⟨W.heap.size, 0 + j, none⟩) hlt, hb.frozen (p := ⟨W.heap.size, 0 + j, none⟩) hlt]
  exact there_new W mz nz wz cz rz j hj
theorem OthS.alloc {w W : World} {cs : Array Value} {r : List UInt8} (h : OthS w cs r W) (o : Obj) : OthS w cs r (W.alloc o) :=
  h.below (below_var W o)
theorem below_setCells {B : Nat} {w W : World} (h : Below B w W) (b : Nat) (hb : B ≤ b) : ∀ (vs : List Value) (o : Nat), Below B w (W.setCells b o vs) := by
  intro vs
  induction vs generalizing W with
  | nil => intro o; exact h
  | cons v vs ih => intro o; exact ih (h.setCell (p := ⟨b, o, none⟩) hb v) (o + 1)
theorem cell_setCells {W : World} (b : Nat) (p : Addr) (hp : p.block ≠ b) : ∀ (vs : List Value) (o : Nat), (W.setCells b o vs).cell? p = W.cell? p := by
  intro vs
  induction vs generalizing W with
  | nil => intro o; rfl
  | cons v vs ih => intro o; exact (ih (o + 1)).trans (World.cell?_setCell_other _ _ _ _ (fun e => hp (by rw [← e])))
theorem size_setCells {W : World} (b : Nat) : ∀ (vs : List Value) (o : Nat), (W.setCells b o vs).heap.size = W.heap.size := by
  intro vs
  induction vs generalizing W with
  | nil => intro o; rfl
  | cons v vs ih => intro o; exact (ih (o + 1)).trans (by simp [World.setCell])
theorem OthS.setCells {w W : World} {cs : Array Value} {r : List UInt8} (h : OthS w cs r W) (b : Nat) (hb : w.heap.size < b) (vs : List Value) : OthS w cs r (W.setCells b 0 vs) := by
  have hne : w.heap.size ≠ b := by omega
  exact ⟨fun i => (cell_setCells b ⟨_, i, none⟩ hne vs 0).trans (h.1 i), fun j v hv => (cell_setCells b ⟨_, 30 + j, none⟩ hne vs 0).trans (h.2.1 j v hv), by rw [size_setCells]; exact h.2.2.1, below_setCells h.2.2.2 b (by omega) vs 0⟩
theorem OthS.new (w : World) (l : Lt) (vr vm vc : Value) (t : TypeId) : OthS w (ltCells l vr vm vc) l.ref (w.alloc (.cells (ltCells l vr vm vc) t)) :=
  ⟨(Row.new w _ t).2, fun j v hv => by exact ((Row.new w (ltCells l vr vm vc) t).2 (30 + j)).trans ((lt_getRef l vr vm vc j).trans hv), by simp, below_var _ _⟩

/-- Behind the table of what is zero. -/
def OthCut (w : World) (cs : Array Value) (zs : List Value) (p : Value) (wx : World) : Prop :=
  ∃ g, p = .pointer (some ⟨g, 0, none⟩) ∧ w.heap.size < g ∧ g < wx.heap.size ∧ Row wx w.heap.size cs ∧ wx.rangeAt g 0 zs ∧ Below w.heap.size w wx

theorem othCut_of {w W : World} {cs : Array Value} {r : List UInt8} {zs : List Value} {b : Nat} (h : OthS w cs r (W.setCells b 0 zs)) (hb : w.heap.size < b) (hlt : b < W.heap.size) (hth : W.there b 0 zs.length) : OthCut w cs zs (.pointer (some ⟨b, 0, none⟩)) (W.setCells b 0 zs) :=
  ⟨b, rfl, hb, by rw [size_setCells]; exact hlt, ⟨h.2.2.1, h.1⟩, World.rangeAt_setCells_same _ _ _ _ hth, h.2.2.2⟩
/-- The five fields that are no numbers: used, or zero. -/
def fieldAt (k : Nat) : Int := ([9, 10, 14, 15, 16][k]?).getD 0
def zeroAt (mz nz wz cz rz : Bool) (k : Nat) : Bool := ([mz, nz, wz, cz, rz][k]?).getD true
def zerosOK (kind : Int) (mz nz wz cz rz : Bool) : Bool := (List.range 5).all fun k => usesB kind (fieldAt k) || zeroAt mz nz wz cz rz k
theorem zerosOK_no {kind : Int} {mz nz wz cz rz : Bool} {k : Nat} (hk : k < 5) (h : (usesB kind (fieldAt k) || zeroAt mz nz wz cz rz k) = false) : zerosOK kind mz nz wz cz rz = false := by
  unfold zerosOK
  rw [Bool.eq_false_iff]; intro h'; rw [List.all_eq_true] at h'
  have := h' k (List.mem_range.2 hk); rw [h] at this; cases this
theorem zerosOK_yes {kind : Int} {mz nz wz cz rz : Bool} (h : ∀ k, k < 5 → (usesB kind (fieldAt k) || zeroAt mz nz wz cz rz k) = true) : zerosOK kind mz nz wz cz rz = true := by
  unfold zerosOK
  rw [List.all_eq_true]; intro k hk; exact h k (List.mem_range.1 hk)
def spanB (a b : Int) : Bool := decide (-2251799813685248 ≤ a ∧ a ≤ b ∧ b ≤ 2251799813685248)
def vOthers (l : Lt) (mz nz wz cz rz : Bool) : Bool :=
  zerosOK l.kind mz nz wz cz rz && (decide (l.kind ≠ 4) || vMove l.move) && (decide (l.kind ≠ 6) || vChange l nz) && spanB l.wfrom l.wto && vCells l.kind l.cells
theorem range_keep {w w' : World} {g : Nat} {zs : List Value} (h : w.rangeAt g 0 zs) (hg : g < w.heap.size) (hb : Below w.heap.size w w') : w'.rangeAt g 0 zs := fun j v hv => (hb.cell (p := ⟨g, 0 + j, none⟩) hg).trans (h j v hv)
def OthRel (w : World) (cs : Array Value) (zs : List Value) (kind : Int) (mz nz wz cz rz : Bool) (g sl : Nat) (i : Value) (wr : World) : Prop :=
  ∃ k : Nat, k ≤ 5 ∧ i = .int .i64 k ∧ Row wr w.heap.size cs ∧ (g < wr.heap.size ∧ wr.rangeAt g 0 zs) ∧ Row wr sl #[I 9, I 10, I 14, I 15, I 16] ∧ Below w.heap.size w wr ∧ ∀ j, j < k → (usesB kind (fieldAt j) || zeroAt mz nz wz cz rz j) = true
/-- Behind the loop. -/
def OthDone (w : World) (cs : Array Value) (ok : Bool) (p : Value) (wx : World) : Prop := p = .pointer (some ⟨w.heap.size, 0, none⟩) ∧ ok = true ∧ Row wx w.heap.size cs ∧ Below w.heap.size w wx
def midOK (l : Lt) (nz : Bool) : Bool := (decide (l.kind ≠ 4) || vMove l.move) && (decide (l.kind ≠ 6) || vChange l nz)
/-- Behind the switch: the window's own variable at block q. -/
def OthMid (w : World) (cs : Array Value) (a b : Int) (ok : Bool) (q : Nat) (p r : Value) (wx : World) : Prop :=
  p = .pointer (some ⟨w.heap.size, 0, none⟩) ∧ r = .pointer (some ⟨q, 0, none⟩) ∧ ok = true ∧ Row wx w.heap.size cs ∧ Row wx q #[I a, I b] ∧ Below w.heap.size w wx
theorem vOthers_mid {l : Lt} {mz nz wz cz rz : Bool} (h : zerosOK l.kind mz nz wz cz rz = true) : vOthers l mz nz wz cz rz = (midOK l nz && spanB l.wfrom l.wto && vCells l.kind l.cells) := by unfold vOthers midOK; rw [h]; rfl
theorem vOthers_zero {l : Lt} {mz nz wz cz rz : Bool} (h : zerosOK l.kind mz nz wz cz rz = false) : vOthers l mz nz wz cz rz = false := by unfold vOthers; rw [h]; rfl
theorem vOthers_rest {l : Lt} {mz nz wz cz rz : Bool} (h : zerosOK l.kind mz nz wz cz rz = true) : vOthers l mz nz wz cz rz = ((decide (l.kind ≠ 4) || vMove l.move) && (decide (l.kind ≠ 6) || vChange l nz) && spanB l.wfrom l.wto && vCells l.kind l.cells) := by unfold vOthers; rw [h]; rfl

set_option maxRecDepth 10000 in
set_option maxHeartbeats 16000000 in
theorem validOthers_cut (l : Lt) (A B C : Option Addr) (n m c d c3 : Nat) (w : World) (hn : n ≤ 140737488355328) (hm : m ≤ 140737488355328) (hz : l.series.zone.size ≤ 140737488355328) (hr : l.ref.length = 32) (hcl : l.cells.length ≤ 140737488355328) (hci : IntsAt w w.heap.size C l.cells)
    (mz nz wz cz rz : Bool) (emz : (decide (l.move.day = 0) && (l.move.drop == false) && decide (l.move.toDay = 0) && decide (l.move.minute = 0) && decide (l.move.length = 0)) = mz) (enz : noSer n m l.series = nz)
    (ewz : (decide (l.wfrom = 0) && decide (l.wto = 0)) = wz) (ecz : ((l.cells.length : Int) == 0) = cz) (erz : (l.ref == zero32) = rz) :
    Calls Tryz.prog 41 #[.agg (ltCells l (.slice A n c) (.slice B m d) (.slice C l.cells.length c3))] w (Gives (.bool (vOthers l mz nz wz cz rz)) w) := by
  have heq := fun W => eql_digest l.ref hr W
  have heqm := fun W => eql_move l.move.day l.move.toDay l.move.minute l.move.length 0 0 0 0 l.move.drop false W
  have heqw := fun W => eql_span l.wfrom l.wto 0 0 W
  rw [emz] at heqm
  rw [ewz] at heqw
  rw [erz] at heq
  have HN := Lib.hid enz
  clear emz ewz erz enz
  have hu := Tryz.underlying34
  have hi : (Tryz.prog.info? 34).map (·.size) = some (refCells l.ref).length := by rw [show (refCells l.ref).length = 32 by simp [refCells, hr]]; kernel_rfl
  have h32 : (refCells l.ref).length = 32 := by simp [refCells, hr]
  have hi2 : (Tryz.prog.info? 101).map (·.size) = some [Value.bool false, Value.bool false, Value.bool false, Value.bool false, Value.bool false, Value.bool false, Value.bool false, Value.bool false, Value.bool false, Value.bool mz, Value.bool nz, Value.bool false, Value.bool false, Value.bool false, Value.bool wz, Value.bool cz, Value.bool rz].length := by kernel_rfl
  have hone2 : ∀ v ∈ [Value.bool false, Value.bool false, Value.bool false, Value.bool false, Value.bool false, Value.bool false, Value.bool false, Value.bool false, Value.bool false, Value.bool mz, Value.bool nz, Value.bool false, Value.bool false, Value.bool false, Value.bool wz, Value.bool cz, Value.bool rz], v.oneCell' = true := by simp [Value.oneCell']
  have HI2 := Lib.hid hi2
  have HONE2 := Lib.hid hone2
  clear hi2 hone2
  have hk0 := Lib.hid (OthS.new w l (.slice A n c) (.slice B m d) (.slice C l.cells.length c3) 36)
  go_enter Tryz.func41, Tryz.ntmps41
  go_upto_region 1 with fail
  go_cut [3] (fun p wx => OthCut w (ltCells l (.slice A n c) (.slice B m d) (.slice C l.cells.length c3)) [Value.bool false, Value.bool false, Value.bool false, Value.bool false, Value.bool false, Value.bool false, Value.bool false, Value.bool false, Value.bool false, Value.bool mz, Value.bool nz, Value.bool false, Value.bool false, Value.bool false, Value.bool wz, Value.bool cz, Value.bool rz] p wx)
  case first =>
    go_region_held3 (fun w' => (∀ i, w'.cell? ⟨w.heap.size, i, none⟩ = (ltCells l (.slice A n c) (.slice B m d) (.slice C l.cells.length c3))[i]?) ∧ w'.rangeAt w.heap.size 30 (refCells l.ref) ∧ w.heap.size < w'.heap.size ∧ Below w.heap.size w w')
      (first | with_reducible exact hk0.out.draw | with_reducible exact (hk0.out.alloc _).draw | with_reducible exact HSn.out | with_reducible exact HSn.out.alloc _ | with_reducible exact HSn.out.setCells _ hlt1 _ | with_reducible exact (HSn.out.alloc _).setCells _ hltn _)
      (first | (go_at_call 42; refine (noSeries_ex _ _ _ _ _ _ _ _ hn hm hz).mono ?_; rintro e wn ⟨rfl, hbn⟩; rw [HN.out]; (first | have HSn := Lib.hid (OthS.below (cs := ltCells l (.slice A n c) (.slice B m d) (.slice C l.cells.length c3)) hk0.out.draw hbn) | have HSn := Lib.hid (OthS.below (cs := ltCells l (.slice A n c) (.slice B m d) (.slice C l.cells.length c3)) (hk0.out.alloc _).draw hbn)); have hltn := HSn.out.2.2.1; have hlt1 : w.heap.size < w.heap.size + 1 := Nat.lt_succ_self _; (first | have hth6 := there_below (g := w.heap.size + 1) (by simp) mz nz wz cz rz hbn | have hthn := there_new wn mz nz wz cz rz); have hi2' := HI2.out; have hone2' := HONE2.out))
    · go_wp2_with fail
      go_meet
      exact othCut_of ((HSn.out.alloc _).setCells _ hltn _) hltn (by simp) hthn
    · go_wp2_with fail
      go_meet
      exact othCut_of (HSn.out.setCells _ hlt1 _) hlt1 (by have := hbn.size; simp at this; omega) hth6
  case rest =>
    obtain ⟨g, rfl, hg1, hg2, hrow, hrng, hbel⟩ := hcut
    have HR := Lib.hid hrow
    have HG := Lib.hid hrng
    have HB := Lib.hid hbel
    clear hrow hrng hbel
    have hr0 := HR.out.2
    have HS0 := Lib.hid (Row.new wc #[I 9, I 10, I 14, I 15, I 16] 69)
    have HR0 := Lib.hid (HR.out.keep (below_var wc (.cells #[I 9, I 10, I 14, I 15, I 16] 69)))
    have HZ0 := Lib.hid (range_keep HG.out hg2 (below_var wc (.cells #[I 9, I 10, I 14, I 15, I 16] 69)))
    have HB0 := Lib.hid (below_trans HB.out (below_var wc (.cells #[I 9, I 10, I 14, I 15, I 16] 69)))
    clear hk0 HI2 HONE2 hu hi h32 heq heqm heqw
    go_upto_block 0 with fail
    go_cut [1] (fun p wx => OthDone w (ltCells l (.slice A n c) (.slice B m d) (.slice C l.cells.length c3)) (zerosOK l.kind mz nz wz cz rz) p wx)
    case first =>
      go_wp2_with fail
      go_loopw [29] (fun i wr => OthRel w (ltCells l (.slice A n c) (.slice B m d) (.slice C l.cells.length c3)) [Value.bool false, Value.bool false, Value.bool false, Value.bool false, Value.bool false, Value.bool false, Value.bool false, Value.bool false, Value.bool false, Value.bool mz, Value.bool nz, Value.bool false, Value.bool false, Value.bool false, Value.bool wz, Value.bool cz, Value.bool rz] l.kind mz nz wz cz rz g wc.heap.size i wr) (fun i _ => 5 - (intOf i).toNat)
      case atStart => exact ⟨0, by omega, rfl, HR0.out, ⟨by simp; omega, HZ0.out⟩, HS0.out, HB0.out, fun j hj => absurd hj (by omega)⟩
      case round =>
        obtain ⟨k, hk, rfl, hrow1, hz1, hs1, hb1, hall⟩ := hrel
        have HR1 := Lib.hid hrow1
        have HZ := Lib.hid hz1
        have HS := Lib.hid hs1
        have HB1 := Lib.hid hb1
        have HA := Lib.hid hall
        have hr1 := hrow1.2
        clear hrow1 hz1 hs1 hb1 hall hr0 HS0 HR0 HZ0 HB0 HR HG HB
        have hk5 : k = 0 ∨ k = 1 ∨ k = 2 ∨ k = 3 ∨ k = 4 ∨ k = 5 := by omega
        rcases hk5 with rfl | rfl | rfl | rfl | rfl | rfl
        · have hsl : wr.cell? ⟨wc.heap.size, 0, none⟩ = some (I 9) := HS.out.2 0
          obtain ⟨u, hu1⟩ : ∃ u, usesB l.kind 9 = u := ⟨_, rfl⟩
          have HU := Lib.hid hu1
          clear hu1
          have hzf : wr.cell? ⟨g, 9, none⟩ = some (.bool mz) := HZ.out.2 9 _ rfl
          have HZF := Lib.hid hzf
          clear hzf
          cases u
          · cases mz
            · go_wp2_with (go_at_call 37; refine (uses_any _ _ _ (by omega) (by omega)).mono ?_; rintro e w2 ⟨rfl, hb2⟩; have HR2 := Lib.hid (HR1.out.keep hb2); have HZ2 := Lib.hid (range_keep HZ.out.2 HZ.out.1 hb2); have HZL := Lib.hid (Nat.lt_of_lt_of_le HZ.out.1 hb2.size); have HS2 := Lib.hid (HS.out.keep hb2); have HB2 := Lib.hid (below_trans HB1.out hb2); have hzf2 := (hb2.cell (p := ⟨g, 9, none⟩) HZ.out.1).trans HZF.out; rw [HU.out]; clear hb2)
              go_ret
              exact ⟨ret_bool (vOthers_zero (zerosOK_no (k := 0) (by omega) (by show (usesB l.kind 9 || _) = false; rw [HU.out]; rfl))).symm, HB2.out⟩
            · go_wp2_with (go_at_call 37; refine (uses_any _ _ _ (by omega) (by omega)).mono ?_; rintro e w2 ⟨rfl, hb2⟩; have HR2 := Lib.hid (HR1.out.keep hb2); have HZ2 := Lib.hid (range_keep HZ.out.2 HZ.out.1 hb2); have HZL := Lib.hid (Nat.lt_of_lt_of_le HZ.out.1 hb2.size); have HS2 := Lib.hid (HS.out.keep hb2); have HB2 := Lib.hid (below_trans HB1.out hb2); have hzf2 := (hb2.cell (p := ⟨g, 9, none⟩) HZ.out.1).trans HZF.out; rw [HU.out]; clear hb2)
              go_roundw
              case rel => exact ⟨1, by omega, by first | rfl | go_num, HR2.out, ⟨HZL.out, HZ2.out⟩, HS2.out, HB2.out, fun j hj => by
                rcases Nat.lt_succ_iff_lt_or_eq.1 hj with h | h
                · exact HA.out j h
                · subst h; show (usesB l.kind 9 || _) = true; rw [HU.out]; rfl⟩
              case measure => simp [intOf]
          · go_wp2_with (go_at_call 37; refine (uses_any _ _ _ (by omega) (by omega)).mono ?_; rintro e w2 ⟨rfl, hb2⟩; have HR2 := Lib.hid (HR1.out.keep hb2); have HZ2 := Lib.hid (range_keep HZ.out.2 HZ.out.1 hb2); have HZL := Lib.hid (Nat.lt_of_lt_of_le HZ.out.1 hb2.size); have HS2 := Lib.hid (HS.out.keep hb2); have HB2 := Lib.hid (below_trans HB1.out hb2); have hzf2 := (hb2.cell (p := ⟨g, 9, none⟩) HZ.out.1).trans HZF.out; rw [HU.out]; clear hb2)
            go_roundw
            case rel => exact ⟨1, by omega, by first | rfl | go_num, HR2.out, ⟨HZL.out, HZ2.out⟩, HS2.out, HB2.out, fun j hj => by
              rcases Nat.lt_succ_iff_lt_or_eq.1 hj with h | h
              · exact HA.out j h
              · subst h; show (usesB l.kind 9 || _) = true; rw [HU.out]; rfl⟩
            case measure => simp [intOf]
        · have hsl : wr.cell? ⟨wc.heap.size, 1, none⟩ = some (I 10) := HS.out.2 1
          obtain ⟨u, hu1⟩ : ∃ u, usesB l.kind 10 = u := ⟨_, rfl⟩
          have HU := Lib.hid hu1
          clear hu1
          have hzf : wr.cell? ⟨g, 10, none⟩ = some (.bool nz) := HZ.out.2 10 _ rfl
          have HZF := Lib.hid hzf
          clear hzf
          cases u
          · cases nz
            · go_wp2_with (go_at_call 37; refine (uses_any _ _ _ (by omega) (by omega)).mono ?_; rintro e w2 ⟨rfl, hb2⟩; have HR2 := Lib.hid (HR1.out.keep hb2); have HZ2 := Lib.hid (range_keep HZ.out.2 HZ.out.1 hb2); have HZL := Lib.hid (Nat.lt_of_lt_of_le HZ.out.1 hb2.size); have HS2 := Lib.hid (HS.out.keep hb2); have HB2 := Lib.hid (below_trans HB1.out hb2); have hzf2 := (hb2.cell (p := ⟨g, 10, none⟩) HZ.out.1).trans HZF.out; rw [HU.out]; clear hb2)
              go_ret
              exact ⟨ret_bool (vOthers_zero (zerosOK_no (k := 1) (by omega) (by show (usesB l.kind 10 || _) = false; rw [HU.out]; rfl))).symm, HB2.out⟩
            · go_wp2_with (go_at_call 37; refine (uses_any _ _ _ (by omega) (by omega)).mono ?_; rintro e w2 ⟨rfl, hb2⟩; have HR2 := Lib.hid (HR1.out.keep hb2); have HZ2 := Lib.hid (range_keep HZ.out.2 HZ.out.1 hb2); have HZL := Lib.hid (Nat.lt_of_lt_of_le HZ.out.1 hb2.size); have HS2 := Lib.hid (HS.out.keep hb2); have HB2 := Lib.hid (below_trans HB1.out hb2); have hzf2 := (hb2.cell (p := ⟨g, 10, none⟩) HZ.out.1).trans HZF.out; rw [HU.out]; clear hb2)
              go_roundw
              case rel => exact ⟨2, by omega, by first | rfl | go_num, HR2.out, ⟨HZL.out, HZ2.out⟩, HS2.out, HB2.out, fun j hj => by
                rcases Nat.lt_succ_iff_lt_or_eq.1 hj with h | h
                · exact HA.out j h
                · subst h; show (usesB l.kind 10 || _) = true; rw [HU.out]; rfl⟩
              case measure => simp [intOf]
          · go_wp2_with (go_at_call 37; refine (uses_any _ _ _ (by omega) (by omega)).mono ?_; rintro e w2 ⟨rfl, hb2⟩; have HR2 := Lib.hid (HR1.out.keep hb2); have HZ2 := Lib.hid (range_keep HZ.out.2 HZ.out.1 hb2); have HZL := Lib.hid (Nat.lt_of_lt_of_le HZ.out.1 hb2.size); have HS2 := Lib.hid (HS.out.keep hb2); have HB2 := Lib.hid (below_trans HB1.out hb2); have hzf2 := (hb2.cell (p := ⟨g, 10, none⟩) HZ.out.1).trans HZF.out; rw [HU.out]; clear hb2)
            go_roundw
            case rel => exact ⟨2, by omega, by first | rfl | go_num, HR2.out, ⟨HZL.out, HZ2.out⟩, HS2.out, HB2.out, fun j hj => by
              rcases Nat.lt_succ_iff_lt_or_eq.1 hj with h | h
              · exact HA.out j h
              · subst h; show (usesB l.kind 10 || _) = true; rw [HU.out]; rfl⟩
            case measure => simp [intOf]
        · have hsl : wr.cell? ⟨wc.heap.size, 2, none⟩ = some (I 14) := HS.out.2 2
          obtain ⟨u, hu1⟩ : ∃ u, usesB l.kind 14 = u := ⟨_, rfl⟩
          have HU := Lib.hid hu1
          clear hu1
          have hzf : wr.cell? ⟨g, 14, none⟩ = some (.bool wz) := HZ.out.2 14 _ rfl
          have HZF := Lib.hid hzf
          clear hzf
          cases u
          · cases wz
            · go_wp2_with (go_at_call 37; refine (uses_any _ _ _ (by omega) (by omega)).mono ?_; rintro e w2 ⟨rfl, hb2⟩; have HR2 := Lib.hid (HR1.out.keep hb2); have HZ2 := Lib.hid (range_keep HZ.out.2 HZ.out.1 hb2); have HZL := Lib.hid (Nat.lt_of_lt_of_le HZ.out.1 hb2.size); have HS2 := Lib.hid (HS.out.keep hb2); have HB2 := Lib.hid (below_trans HB1.out hb2); have hzf2 := (hb2.cell (p := ⟨g, 14, none⟩) HZ.out.1).trans HZF.out; rw [HU.out]; clear hb2)
              go_ret
              exact ⟨ret_bool (vOthers_zero (zerosOK_no (k := 2) (by omega) (by show (usesB l.kind 14 || _) = false; rw [HU.out]; rfl))).symm, HB2.out⟩
            · go_wp2_with (go_at_call 37; refine (uses_any _ _ _ (by omega) (by omega)).mono ?_; rintro e w2 ⟨rfl, hb2⟩; have HR2 := Lib.hid (HR1.out.keep hb2); have HZ2 := Lib.hid (range_keep HZ.out.2 HZ.out.1 hb2); have HZL := Lib.hid (Nat.lt_of_lt_of_le HZ.out.1 hb2.size); have HS2 := Lib.hid (HS.out.keep hb2); have HB2 := Lib.hid (below_trans HB1.out hb2); have hzf2 := (hb2.cell (p := ⟨g, 14, none⟩) HZ.out.1).trans HZF.out; rw [HU.out]; clear hb2)
              go_roundw
              case rel => exact ⟨3, by omega, by first | rfl | go_num, HR2.out, ⟨HZL.out, HZ2.out⟩, HS2.out, HB2.out, fun j hj => by
                rcases Nat.lt_succ_iff_lt_or_eq.1 hj with h | h
                · exact HA.out j h
                · subst h; show (usesB l.kind 14 || _) = true; rw [HU.out]; rfl⟩
              case measure => simp [intOf]
          · go_wp2_with (go_at_call 37; refine (uses_any _ _ _ (by omega) (by omega)).mono ?_; rintro e w2 ⟨rfl, hb2⟩; have HR2 := Lib.hid (HR1.out.keep hb2); have HZ2 := Lib.hid (range_keep HZ.out.2 HZ.out.1 hb2); have HZL := Lib.hid (Nat.lt_of_lt_of_le HZ.out.1 hb2.size); have HS2 := Lib.hid (HS.out.keep hb2); have HB2 := Lib.hid (below_trans HB1.out hb2); have hzf2 := (hb2.cell (p := ⟨g, 14, none⟩) HZ.out.1).trans HZF.out; rw [HU.out]; clear hb2)
            go_roundw
            case rel => exact ⟨3, by omega, by first | rfl | go_num, HR2.out, ⟨HZL.out, HZ2.out⟩, HS2.out, HB2.out, fun j hj => by
              rcases Nat.lt_succ_iff_lt_or_eq.1 hj with h | h
              · exact HA.out j h
              · subst h; show (usesB l.kind 14 || _) = true; rw [HU.out]; rfl⟩
            case measure => simp [intOf]
        · have hsl : wr.cell? ⟨wc.heap.size, 3, none⟩ = some (I 15) := HS.out.2 3
          obtain ⟨u, hu1⟩ : ∃ u, usesB l.kind 15 = u := ⟨_, rfl⟩
          have HU := Lib.hid hu1
          clear hu1
          have hzf : wr.cell? ⟨g, 15, none⟩ = some (.bool cz) := HZ.out.2 15 _ rfl
          have HZF := Lib.hid hzf
          clear hzf
          cases u
          · cases cz
            · go_wp2_with (go_at_call 37; refine (uses_any _ _ _ (by omega) (by omega)).mono ?_; rintro e w2 ⟨rfl, hb2⟩; have HR2 := Lib.hid (HR1.out.keep hb2); have HZ2 := Lib.hid (range_keep HZ.out.2 HZ.out.1 hb2); have HZL := Lib.hid (Nat.lt_of_lt_of_le HZ.out.1 hb2.size); have HS2 := Lib.hid (HS.out.keep hb2); have HB2 := Lib.hid (below_trans HB1.out hb2); have hzf2 := (hb2.cell (p := ⟨g, 15, none⟩) HZ.out.1).trans HZF.out; rw [HU.out]; clear hb2)
              go_ret
              exact ⟨ret_bool (vOthers_zero (zerosOK_no (k := 3) (by omega) (by show (usesB l.kind 15 || _) = false; rw [HU.out]; rfl))).symm, HB2.out⟩
            · go_wp2_with (go_at_call 37; refine (uses_any _ _ _ (by omega) (by omega)).mono ?_; rintro e w2 ⟨rfl, hb2⟩; have HR2 := Lib.hid (HR1.out.keep hb2); have HZ2 := Lib.hid (range_keep HZ.out.2 HZ.out.1 hb2); have HZL := Lib.hid (Nat.lt_of_lt_of_le HZ.out.1 hb2.size); have HS2 := Lib.hid (HS.out.keep hb2); have HB2 := Lib.hid (below_trans HB1.out hb2); have hzf2 := (hb2.cell (p := ⟨g, 15, none⟩) HZ.out.1).trans HZF.out; rw [HU.out]; clear hb2)
              go_roundw
              case rel => exact ⟨4, by omega, by first | rfl | go_num, HR2.out, ⟨HZL.out, HZ2.out⟩, HS2.out, HB2.out, fun j hj => by
                rcases Nat.lt_succ_iff_lt_or_eq.1 hj with h | h
                · exact HA.out j h
                · subst h; show (usesB l.kind 15 || _) = true; rw [HU.out]; rfl⟩
              case measure => simp [intOf]
          · go_wp2_with (go_at_call 37; refine (uses_any _ _ _ (by omega) (by omega)).mono ?_; rintro e w2 ⟨rfl, hb2⟩; have HR2 := Lib.hid (HR1.out.keep hb2); have HZ2 := Lib.hid (range_keep HZ.out.2 HZ.out.1 hb2); have HZL := Lib.hid (Nat.lt_of_lt_of_le HZ.out.1 hb2.size); have HS2 := Lib.hid (HS.out.keep hb2); have HB2 := Lib.hid (below_trans HB1.out hb2); have hzf2 := (hb2.cell (p := ⟨g, 15, none⟩) HZ.out.1).trans HZF.out; rw [HU.out]; clear hb2)
            go_roundw
            case rel => exact ⟨4, by omega, by first | rfl | go_num, HR2.out, ⟨HZL.out, HZ2.out⟩, HS2.out, HB2.out, fun j hj => by
              rcases Nat.lt_succ_iff_lt_or_eq.1 hj with h | h
              · exact HA.out j h
              · subst h; show (usesB l.kind 15 || _) = true; rw [HU.out]; rfl⟩
            case measure => simp [intOf]
        · have hsl : wr.cell? ⟨wc.heap.size, 4, none⟩ = some (I 16) := HS.out.2 4
          obtain ⟨u, hu1⟩ : ∃ u, usesB l.kind 16 = u := ⟨_, rfl⟩
          have HU := Lib.hid hu1
          clear hu1
          have hzf : wr.cell? ⟨g, 16, none⟩ = some (.bool rz) := HZ.out.2 16 _ rfl
          have HZF := Lib.hid hzf
          clear hzf
          cases u
          · cases rz
            · go_wp2_with (go_at_call 37; refine (uses_any _ _ _ (by omega) (by omega)).mono ?_; rintro e w2 ⟨rfl, hb2⟩; have HR2 := Lib.hid (HR1.out.keep hb2); have HZ2 := Lib.hid (range_keep HZ.out.2 HZ.out.1 hb2); have HZL := Lib.hid (Nat.lt_of_lt_of_le HZ.out.1 hb2.size); have HS2 := Lib.hid (HS.out.keep hb2); have HB2 := Lib.hid (below_trans HB1.out hb2); have hzf2 := (hb2.cell (p := ⟨g, 16, none⟩) HZ.out.1).trans HZF.out; rw [HU.out]; clear hb2)
              go_ret
              exact ⟨ret_bool (vOthers_zero (zerosOK_no (k := 4) (by omega) (by show (usesB l.kind 16 || _) = false; rw [HU.out]; rfl))).symm, HB2.out⟩
            · go_wp2_with (go_at_call 37; refine (uses_any _ _ _ (by omega) (by omega)).mono ?_; rintro e w2 ⟨rfl, hb2⟩; have HR2 := Lib.hid (HR1.out.keep hb2); have HZ2 := Lib.hid (range_keep HZ.out.2 HZ.out.1 hb2); have HZL := Lib.hid (Nat.lt_of_lt_of_le HZ.out.1 hb2.size); have HS2 := Lib.hid (HS.out.keep hb2); have HB2 := Lib.hid (below_trans HB1.out hb2); have hzf2 := (hb2.cell (p := ⟨g, 16, none⟩) HZ.out.1).trans HZF.out; rw [HU.out]; clear hb2)
              go_roundw
              case rel => exact ⟨5, by omega, by first | rfl | go_num, HR2.out, ⟨HZL.out, HZ2.out⟩, HS2.out, HB2.out, fun j hj => by
                rcases Nat.lt_succ_iff_lt_or_eq.1 hj with h | h
                · exact HA.out j h
                · subst h; show (usesB l.kind 16 || _) = true; rw [HU.out]; rfl⟩
              case measure => simp [intOf]
          · go_wp2_with (go_at_call 37; refine (uses_any _ _ _ (by omega) (by omega)).mono ?_; rintro e w2 ⟨rfl, hb2⟩; have HR2 := Lib.hid (HR1.out.keep hb2); have HZ2 := Lib.hid (range_keep HZ.out.2 HZ.out.1 hb2); have HZL := Lib.hid (Nat.lt_of_lt_of_le HZ.out.1 hb2.size); have HS2 := Lib.hid (HS.out.keep hb2); have HB2 := Lib.hid (below_trans HB1.out hb2); have hzf2 := (hb2.cell (p := ⟨g, 16, none⟩) HZ.out.1).trans HZF.out; rw [HU.out]; clear hb2)
            go_roundw
            case rel => exact ⟨5, by omega, by first | rfl | go_num, HR2.out, ⟨HZL.out, HZ2.out⟩, HS2.out, HB2.out, fun j hj => by
              rcases Nat.lt_succ_iff_lt_or_eq.1 hj with h | h
              · exact HA.out j h
              · subst h; show (usesB l.kind 16 || _) = true; rw [HU.out]; rfl⟩
            case measure => simp [intOf]
        · have HZ5 := Lib.hid (zerosOK_yes (kind := l.kind) (mz := mz) (nz := nz) (wz := wz) (cz := cz) (rz := rz) (fun j hj => HA.out j hj))
          go_wp2_with fail
          go_meet
          exact ⟨rfl, HZ5.out, HR1.out, HB1.out⟩
    case rest =>
      obtain ⟨rfl, hz5, hrow1, hbel1⟩ := hcut
      have HV := Lib.hid (vOthers_mid (l := l) hz5)
      have HR1 := Lib.hid hrow1
      have hr1 := hrow1.2
      have hlw : w.heap.size < wc.heap.size := hrow1.1
      have HRa := Lib.hid (hrow1.keep (below_var wc (.cells #[I l.wfrom, I l.wto] 32)))
      have HBa := Lib.hid (below_trans hbel1 (below_var wc (.cells #[I l.wfrom, I l.wto] 32)))
      have HQa := Lib.hid (Row.new wc #[I l.wfrom, I l.wto] 32)
      have HSZ : Hid ((Tryz.prog.info? 36).map (·.size) = some (ltCells l (.slice A n c) (.slice B m d) (.slice C l.cells.length c3)).size) := Lib.hid (by rw [lt_size _ _ _ _ hr]; kernel_rfl)
      have HCI := Lib.hid hci
      clear hz5 hrow1 hbel1 hci HR0 HZ0 HS0 HB0 HR HG HB hr0 hg1
      go_upto_block 2 with fail
      go_cut [1, 6] (fun p r wx => OthMid w (ltCells l (.slice A n c) (.slice B m d) (.slice C l.cells.length c3)) l.wfrom l.wto (midOK l nz) wc.heap.size p r wx)
      case first =>
        by_cases k4 : l.kind = 4
        · have b4 : (l.kind == 4) = true := by rw [beq_dec]; exact decide_eq_true k4
          have b6 : (l.kind == 6) = false := by rw [beq_dec]; exact decide_eq_false (by omega)
          obtain ⟨vm, hvm⟩ : ∃ x, vMove l.move = x := ⟨_, rfl⟩
          have HVM := Lib.hid hvm
          have HE : Hid (midOK l nz = vm) := Lib.hid (by unfold midOK; rw [hvm, show decide (l.kind ≠ 4) = false from decide_eq_false (by omega), show decide (l.kind ≠ 6) = true from decide_eq_true (by omega)]; simp)
          clear k4 hvm
          cases vm
          · go_wp2_with (go_at_call 60; refine (validMove_ex _ _).mono ?_; rintro e w3 ⟨rfl, hb3⟩; have HRb := Lib.hid (HRa.out.keep hb3); have HQb := Lib.hid (HQa.out.keep hb3); have HBb := Lib.hid (below_trans HBa.out hb3); have hrb := HRb.out.2; rw [HVM.out]; clear hb3)
            go_ret
            exact ⟨ret_bool (by rw [HV.out, HE.out]; rfl), HBb.out⟩
          · go_wp2_with (go_at_call 60; refine (validMove_ex _ _).mono ?_; rintro e w3 ⟨rfl, hb3⟩; have HRb := Lib.hid (HRa.out.keep hb3); have HQb := Lib.hid (HQa.out.keep hb3); have HBb := Lib.hid (below_trans HBa.out hb3); have hrb := HRb.out.2; rw [HVM.out]; clear hb3)
            go_meet
            exact ⟨rfl, rfl, HE.out, HRb.out, HQb.out, HBb.out⟩
        by_cases k6 : l.kind = 6
        · have b4 : (l.kind == 4) = false := by rw [beq_dec]; exact decide_eq_false (by omega)
          have b6 : (l.kind == 6) = true := by rw [beq_dec]; exact decide_eq_true k6
          obtain ⟨vm, hvm⟩ : ∃ x, vChange l nz = x := ⟨_, rfl⟩
          have HVM := Lib.hid hvm
          have HE : Hid (midOK l nz = vm) := Lib.hid (by unfold midOK; rw [hvm, show decide (l.kind ≠ 4) = true from decide_eq_true (by omega), show decide (l.kind ≠ 6) = false from decide_eq_false (by omega)]; simp)
          clear k4 k6 hvm
          cases vm
          · go_wp2_with (first | (refine wpList_load_Row rfl _ _ rfl w.heap.size rfl (ltCells l (.slice A n c) (.slice B m d) (.slice C l.cells.length c3)) HRa.out _ Tryz.underlying36 rfl HSZ.out ?_) | (go_at_call 61; refine (validChange_any _ _ _ _ _ _ _ _ _ hn hm hz).mono ?_; rintro e w3 ⟨rfl, hb3⟩; have HRb := Lib.hid (HRa.out.keep hb3); have HQb := Lib.hid (HQa.out.keep hb3); have HBb := Lib.hid (below_trans HBa.out hb3); have hrb := HRb.out.2; rw [HN.out, HVM.out]; clear hb3))
            go_ret
            exact ⟨ret_bool (by rw [HV.out, HE.out]; rfl), HBb.out⟩
          · go_wp2_with (first | (refine wpList_load_Row rfl _ _ rfl w.heap.size rfl (ltCells l (.slice A n c) (.slice B m d) (.slice C l.cells.length c3)) HRa.out _ Tryz.underlying36 rfl HSZ.out ?_) | (go_at_call 61; refine (validChange_any _ _ _ _ _ _ _ _ _ hn hm hz).mono ?_; rintro e w3 ⟨rfl, hb3⟩; have HRb := Lib.hid (HRa.out.keep hb3); have HQb := Lib.hid (HQa.out.keep hb3); have HBb := Lib.hid (below_trans HBa.out hb3); have hrb := HRb.out.2; rw [HN.out, HVM.out]; clear hb3))
            go_meet
            exact ⟨rfl, rfl, HE.out, HRb.out, HQb.out, HBb.out⟩
        have b4 : (l.kind == 4) = false := by rw [beq_dec]; exact decide_eq_false (by omega)
        have b6 : (l.kind == 6) = false := by rw [beq_dec]; exact decide_eq_false (by omega)
        have HE : Hid (midOK l nz = true) := Lib.hid (by unfold midOK; rw [show decide (l.kind ≠ 4) = true from decide_eq_true (by omega), show decide (l.kind ≠ 6) = true from decide_eq_true (by omega)]; simp)
        clear k4 k6
        go_wp2
        go_meet
        exact ⟨rfl, rfl, HE.out, HRa.out, HQa.out, HBa.out⟩
      case rest =>
        obtain ⟨rfl, rfl, hmid, hrow2, hq2, hbel2⟩ := hcut
        rw [hmid, Bool.true_and] at HV
        have HR2 := Lib.hid hrow2
        have HB2 := Lib.hid hbel2
        have hq := hq2.2
        have HC2 := Lib.hid ((HCI.out.keep hbel2).more hbel2.size)
        clear hmid hrow2 hq2 hbel2 hr1 HR1 HRa HBa HQa
        by_cases hsp : -2251799813685248 ≤ l.wfrom ∧ l.wfrom ≤ l.wto ∧ l.wto ≤ 2251799813685248
        · have hspb : spanB l.wfrom l.wto = true := decide_eq_true hsp
          rw [hspb, Bool.true_and] at HV
          obtain ⟨hs1, hs2, hs3⟩ := hsp
          clear hspb
          go_wp2_with (first | (refine wpList_load_Row rfl _ _ rfl w.heap.size rfl (ltCells l (.slice A n c) (.slice B m d) (.slice C l.cells.length c3)) HR2.out _ Tryz.underlying36 rfl HSZ.out ?_) | (go_at_call 62; refine (validCells_any _ _ _ _ _ _ hcl HC2.out).mono ?_; rintro e w9 ⟨rfl, hb9⟩; have HB9 := Lib.hid (below_trans HB2.out hb9); clear hb9))
          go_ret
          exact ⟨ret_bool HV.out.symm, HB9.out⟩
        · have hspb : spanB l.wfrom l.wto = false := decide_eq_false hsp
          rw [hspb, Bool.false_and] at HV
          have hs4 : l.wfrom < -2251799813685248 ∨ (-2251799813685248 ≤ l.wfrom ∧ l.wto < l.wfrom) ∨ (-2251799813685248 ≤ l.wfrom ∧ l.wfrom ≤ l.wto ∧ 2251799813685248 < l.wto) := by omega
          clear hsp hspb
          rcases hs4 with hs1 | ⟨hs1, hs2⟩ | ⟨hs1, hs2, hs3⟩
          all_goals
            go_wp2
            go_ret
            exact ⟨ret_bool HV.out.symm, HB2.out⟩
end Go.Proofs.YtpgagfmpikhpkaaGreatDoor

/- letter.Valid, walked, for letters that do not come to series.Valid. -/
namespace Go.Proofs.YtpgagfmpikhpkaaGreatDoor
open Go Go.RowKit

abbrev nzOf (l : Lt) : Bool := noSer l.series.rule.length l.series.moves.length l.series
def oth (l : Lt) : Bool := vOthers l (mvZ l.move) (nzOf l) (decide (l.wfrom = 0) && decide (l.wto = 0)) ((l.cells.length : Int) == 0) (l.ref == zero32)
/-- The letter's slices: their addresses and capacities. -/
structure Sl where
  A : Option Addr
  B : Option Addr
  C : Option Addr
  c : Nat
  d : Nat
  e : Nat
def ltVal (l : Lt) (s : Sl) : Array Value := ltCells l (.slice s.A l.series.rule.length s.c) (.slice s.B l.series.moves.length s.d) (.slice s.C l.cells.length s.e)
/-- Sizes that a walk asks for. -/
structure LtOK (l : Lt) : Prop where
  rule : l.series.rule.length ≤ 140737488355328
  moves : l.series.moves.length ≤ 140737488355328
  zone : l.series.zone.size ≤ 140737488355328
  ref : l.ref.length = 32
  cells : l.cells.length ≤ 140737488355328
theorem validNumbers_lt (l : Lt) (s : Sl) (w : World) (h : LtOK l) : Calls Tryz.prog 40 #[.agg (ltVal l s)] w (Gives (.bool (vNums l (bareB l.kind l.series.rule.length l.series.moves.length l.series))) w) :=
  validNumbers_any l s.A s.B _ _ s.c s.d _ w h.rule h.moves h.zone
theorem validOthers_lt (l : Lt) (s : Sl) (w : World) (h : LtOK l) (hi : IntsAt w w.heap.size s.C l.cells) : Calls Tryz.prog 41 #[.agg (ltVal l s)] w (Gives (.bool (oth l)) w) :=
  validOthers_cut l s.A s.B s.C _ _ s.c s.d s.e w h.rule h.moves h.zone h.ref h.cells hi _ _ _ _ _ rfl rfl rfl rfl rfl

def headOK (l : Lt) : Bool := decide (1 ≤ l.kind ∧ l.kind ≤ 18) && srvIn l.src && srvIn l.dst && decide (l.src ≠ l.dst)
def bodyOK (l : Lt) : Bool := vNums l (bareB l.kind l.series.rule.length l.series.moves.length l.series) && oth l
def noSerB (l : Lt) : Bool := !(usesB l.kind 10) || (nzOf l && (decide (l.kind = 8) || decide (l.scope = 1)))
def vCode (l : Lt) (sc : Int) : Int := if headOK l = false then 1 else if bodyOK l = false then 1 else if 65536 < l.cells.length then 2 else if noSerB l = true then 0 else sc

theorem ltVal_get (l : Lt) (s : Sl) (i : Nat) : (ltVal l s)[i]? = (ltCells l (.slice s.A l.series.rule.length s.c) (.slice s.B l.series.moves.length s.d) (.slice s.C l.cells.length s.e))[i]? := rfl
theorem ret_int {a b : Int} (h : a = b) : Ending.returned (I a) = .returned (I b) := by rw [h]
attribute [local go_sem] ltVal_get lt_get0 lt_get1 lt_get2 lt_get10 lt_get17 lt_get18 lt_get19 lt_get20 lt_get21 lt_get22 lt_get23 lt_get29

set_option maxRecDepth 10000 in
set_option maxHeartbeats 2000000 in
theorem valid_head (l : Lt) (s : Sl) (w : World) (h : headOK l = false) : Calls Tryz.prog 13 #[.agg (ltVal l s)] w (Gives (I 1) w) := by
  have HB0 := Lib.hid (below_var w (.cells (ltVal l s) 36))
  obtain ⟨s1, h1⟩ : ∃ x, srvIn l.src = x := ⟨_, rfl⟩
  obtain ⟨s2, h2⟩ : ∃ x, srvIn l.dst = x := ⟨_, rfl⟩
  have he : (l.src == l.dst) = decide (l.src = l.dst) := beq_dec _ _
  unfold headOK at h
  rw [h1, h2] at h
  have H1 := Lib.hid h1
  have H2 := Lib.hid h2
  clear h1 h2
  have hc : l.kind < 1 ∨ 18 < l.kind ∨ (1 ≤ l.kind ∧ l.kind ≤ 18) := by omega
  rcases hc with hk | hk | ⟨hk1, hk2⟩
  · clear h
    go_enter Tryz.func13, Tryz.ntmps13
    go_wp2_with (go_at_call 39; refine (server_any _ _).mono ?_; rintro e w' ⟨rfl, rfl⟩)
    go_ret
    exact ⟨rfl, HB0.out⟩
  · clear h
    go_enter Tryz.func13, Tryz.ntmps13
    go_wp2_with (go_at_call 39; refine (server_any _ _).mono ?_; rintro e w' ⟨rfl, rfl⟩)
    go_ret
    exact ⟨rfl, HB0.out⟩
  · rw [show decide (1 ≤ l.kind ∧ l.kind ≤ 18) = true from decide_eq_true ⟨hk1, hk2⟩] at h
    cases hd : decide (l.src = l.dst) with
    | true =>
      rw [hd] at he
      clear h hd
      cases s1 <;> cases s2
      all_goals
        go_enter Tryz.func13, Tryz.ntmps13
        go_wp2_with (go_at_call 39; refine (server_any _ _).mono ?_; rintro e w' ⟨rfl, rfl⟩; first | rw [H1.out] | rw [H2.out])
        go_ret
        exact ⟨rfl, HB0.out⟩
    | false =>
      rw [hd] at he
      have hne : decide (l.src ≠ l.dst) = true := decide_eq_true (fun e => by rw [decide_eq_true e] at hd; cases hd)
      rw [hne] at h
      clear hd hne
      cases s1 <;> cases s2
      all_goals first
        | (cases h; done)
        | (clear h
           go_enter Tryz.func13, Tryz.ntmps13
           go_wp2_with (go_at_call 39; refine (server_any _ _).mono ?_; rintro e w' ⟨rfl, rfl⟩; first | rw [H1.out] | rw [H2.out])
           go_ret
           exact ⟨rfl, HB0.out⟩)
end Go.Proofs.YtpgagfmpikhpkaaGreatDoor
