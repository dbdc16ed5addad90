/- The texts SvH, SvI, SvJ, SvK, SvL, SvM, SvP, in this order. -/
import Derived.Test.YthhbbebabmemfaaGreatG02
import Derived.Test.YthhbbebabmemfaaGreatG03
import Derived.BigQuiet
import Derived.Deep.AppendLies
import Derived.Deep.CutBlock
import Derived.Deep.DeepCutAuto
import Derived.Deep.DrawnRows
import Derived.Deep.MidRow
import Derived.Deep.QuietTactic
import Derived.Deep.RegionHeld3
import Derived.Deep.RegionLaw
import Derived.Deep.WholeRow
import Derived.Great.BuildSlice
import Derived.Laws.BytesString
import Derived.Laws.CopyOwn
import Derived.Laws.EntriesVeiled
import Derived.Laws.MakeOwn
import Derived.Laws.ResultCell
import Derived.Laws.Rows
import Derived.Laws.Tables
import Derived.Lib.Hide
import Derived.LoopIn
import Derived.LoopNIn
import Derived.Maps.AppendAt
import Derived.Outline
import Derived.OwnWalkIn
import Derived.RangeFuncBound
import Derived.RangeFuncBox
import Derived.RangeFuncCalls
import Derived.RangeFuncLeaves
import Derived.RangeFuncNested
import Derived.Shelf.Abstract
import Derived.Shelf.Bytes.SlSmallAll
import Derived.Shelf.RegionOpen
import Derived.StillTailTactics
import Derived.Stop.BytesEq
import Derived.TacticsInMore
import Derived.WalkKit
import Derived.WalkLawsBesides
import Derived.WalkSpells
import Derived.Test.YthhbbebabmemfaaGreatRise
import Derived.Laws.Cover3
import Derived.MapKept
import Derived.Test.YthhbbebabmemfaaGreatG01
/- civil.Known for the third calendar. -/
namespace Go.Proofs.YthhbbebabmemfaaGreat
open Go Go.RowKit

theorem grown_old {W w' : World} {o : Obj} {base e size n : Nat} {v : Value} {ys : List Value} (hown : W.ownsRow base e size v n ys) (hg : (W.alloc o).grownBy w' v.ownBlock) (k : Nat) (hk : k < W.heap.size) (hkb : k < base) : w'.heap[k]? = W.heap[k]? := by
  rw [hg.block k (by simp; omega) (own_ge hown k hkb), Below.heap_alloc W o k hk]
theorem info_lr : (Tryz.prog.info? 147).map (fun i => (i.zero, i.size, i.bytes)) = some (some (.agg #[.int .i64 0, .int .i64 0, .bool false]), 3, 24) := by kernel_rfl
theorem lr_new {w : World} {t : TypeId} (x : Lr) : ∀ j u, x.cells[j]? = some u → (w.alloc (.cells x.cells.toArray t)).cell? ((⟨w.heap.size, 0, none⟩ : Addr).add j) = some u := by
  intro j u hu
  rw [addr_add, (Row.new w _ t).2 j]
  simpa using hu
theorem lr_ok (x : Lr) : ∀ u ∈ x.cells, u.oneCell' = true := by
  intro u hu
  simp [Lr.cells] at hu
  rcases hu with rfl | rfl | rfl <;> rfl
/-- append of one rule to a row of the call's own. -/
theorem wpList_app_lr {ops : Array Oper} {rest : List Oper} {o : Oper} {a : Act} {Q : Exit → Act → World → Prop} {w : World} (hgd : o.guard = none) (s x : Operand)
    (ho : o.op = .call { callee := .builtin .append, args := #[s, x], argTypes := #[107, 107] }) (base : Nat) (v : Value) (n : Nat) (xs : List Value) (hs : a.eval s = v) (hown : w.ownsRow base 147 3 v n xs) (z : Lr)
    (hx : a.eval x = .slice (some ⟨w.heap.size, 0, none⟩) 1 1) (hn : n ≤ 1000000) (hb : base ≤ w.heap.size)
    (h : ∀ v' w', w'.ownsRow base 147 3 v' (n + 1) (xs ++ z.cells) → (w.alloc (.cells z.cells.toArray 147)).grownBy w' v.ownBlock → wpList Tryz.prog ops Q rest (a.put o.dst v') w') :
    wpList Tryz.prog ops Q (o :: rest) a (w.alloc (.cells z.cells.toArray 147)) := by
  obtain ⟨i0, hi, hz0, hz1, hz2⟩ := info_parts info_lr
  refine wpList_append_own_at _ hgd s x 107 ho base 147 i0 _ 3 24 Tryz.underlying107 hi hz0 hz1 hz2 rfl (by decide) v n xs hs (hown.alloc _) ⟨w.heap.size, 0, none⟩ 1 1 z.cells hx rfl (lr_new z) (lr_ok z) (by unfold maxLen; omega) (by omega) (by simp; omega) (fun v' w' h1 h2 _ _ => h v' w' h1 h2)
def zCal : Array Value := #[I 0, .slice none 0 0, I 0, .slice none 0 0]
def vCal (A : Option Addr) (n ca : Nat) (B : Option Addr) (m cb : Nat) : Array Value := #[I 227021, .slice A n ca, I 11, .slice B m cb]
structure KS1 (w : World) (A : Option Addr) (n ca : Nat) (zs : List Int) (W : World) : Prop where
  res : W.heap[w.heap.size]? = some (.cells zCal 109 (0, 0))
  var : W.heap[w.heap.size + 3]? = some (.cells (vCal A n ca none 0 0) 109 (0, 0))
  own : W.ownsRow (w.heap.size + 4) 3 1 (.slice A n ca) n (zs.map I)
  lo : Below w.heap.size w W
  sz : w.heap.size + 4 ≤ W.heap.size
theorem KS1.grown {w W w' : World} {A : Option Addr} {n ca g cap : Nat} {zs : List Int} {z : Int} {o : Obj} (h : KS1 w A n ca zs W) (hown : w'.ownsRow (w.heap.size + 4) 3 1 (.slice (some ⟨g, 0, none⟩) (n + 1) cap) (n + 1) (zs.map I ++ [I z])) (hg : (W.alloc o).grownBy w' (Value.slice A n ca).ownBlock) :
    KS1 w (some ⟨g, 0, none⟩) (n + 1) cap (zs ++ [z]) (w'.setCell ⟨w.heap.size + 3, 1, none⟩ (.slice (some ⟨g, 0, none⟩) (n + 1) cap)) ∧ w'.heap[w.heap.size + 3]? = some (.cells (vCal A n ca none 0 0) 109 (0, 0)) := by
  have hs := h.sz
  have hB : ∀ k, k < w.heap.size + 4 → w'.heap[k]? = W.heap[k]? := fun k hk => grown_old h.own hg k (by omega) hk
  have hv := (hB (w.heap.size + 3) (by omega)).trans h.var
  have hlo : Below w.heap.size w w' := ⟨hg.os.trans h.lo.os, hg.tape.trans h.lo.tape, hg.output.trans h.lo.output, by have := hg.size; simp at this; omega, fun k hk => (hB k (by omega)).trans (h.lo.block k hk)⟩
  refine ⟨⟨?_, ?_, ?_, hlo.setCell (p := ⟨w.heap.size + 3, 1, none⟩) (by show w.heap.size ≤ w.heap.size + 3; omega) _, ?_⟩, hv⟩
  · exact (heap_setCell_other w' _ _ _ (by show w.heap.size ≠ w.heap.size + 3; omega)).trans ((hB _ (by omega)).trans h.res)
  · exact heap_setCell_same w' _ 1 _ _ _ hv
  · rw [List.map_append]
    exact ownsRow_setCell_below (a := ⟨w.heap.size + 3, 1, none⟩) hown (by show w.heap.size + 3 < _; omega) _
  · have := hg.size; simp [World.setCell] at this ⊢; omega
structure KS2 (w : World) (base mb : Nat) (X : Obj) (ca : Nat) (B : Option Addr) (m cb rb : Nat) (rs : List Lr) (W : World) : Prop where
  res : W.heap[w.heap.size]? = some (.cells zCal 109 (0, 0))
  var : W.heap[w.heap.size + 3]? = some (.cells (vCal (some ⟨mb, 0, none⟩) 12 ca B m cb) 109 (0, 0))
  mon : W.heap[mb]? = some X
  m1 : w.heap.size + 4 ≤ mb
  m2 : mb < base
  lit : W.heap[rb]? = some (.cells (rests.map I).toArray 3 (0, 0))
  r1 : w.heap.size + 4 ≤ rb
  r2 : rb < base
  own : W.ownsRow base 147 3 (.slice B m cb) m (rs.flatMap Lr.cells)
  lo : Below w.heap.size w W
  sz : base ≤ W.heap.size
theorem KS2.grown {w W w' : World} {base mb ca m cb rb g cap : Nat} {X : Obj} {B : Option Addr} {rs : List Lr} {z : Lr} {o : Obj} (h : KS2 w base mb X ca B m cb rb rs W) (hown : w'.ownsRow base 147 3 (.slice (some ⟨g, 0, none⟩) (m + 1) cap) (m + 1) (rs.flatMap Lr.cells ++ z.cells)) (hg : (W.alloc o).grownBy w' (Value.slice B m cb).ownBlock) :
    KS2 w base mb X ca (some ⟨g, 0, none⟩) (m + 1) cap rb (rs ++ [z]) (w'.setCell ⟨w.heap.size + 3, 3, none⟩ (.slice (some ⟨g, 0, none⟩) (m + 1) cap)) ∧ w'.heap[w.heap.size + 3]? = some (.cells (vCal (some ⟨mb, 0, none⟩) 12 ca B m cb) 109 (0, 0)) := by
  have hs := h.sz
  have h1 := h.m1
  have h2 := h.m2
  have h3 := h.r1
  have h4 := h.r2
  have hB : ∀ k, k < base → w'.heap[k]? = W.heap[k]? := fun k hk => grown_old h.own hg k (by omega) hk
  have hv := (hB (w.heap.size + 3) (by omega)).trans h.var
  have hlo : Below w.heap.size w w' := ⟨hg.os.trans h.lo.os, hg.tape.trans h.lo.tape, hg.output.trans h.lo.output, by have := hg.size; simp at this; omega, fun k hk => (hB k (by omega)).trans (h.lo.block k hk)⟩
  have hne : ∀ k, k ≠ w.heap.size + 3 → k < base → (w'.setCell ⟨w.heap.size + 3, 3, none⟩ (.slice (some ⟨g, 0, none⟩) (m + 1) cap)).heap[k]? = W.heap[k]? := fun k hk hb => (heap_setCell_other w' _ _ _ hk).trans (hB k hb)
  refine ⟨⟨(hne _ (by omega) (by omega)).trans h.res, heap_setCell_same w' _ 3 _ _ _ hv, (hne _ (by omega) (by omega)).trans h.mon, h.m1, h.m2, (hne _ (by omega) (by omega)).trans h.lit, h.r1, h.r2, ?_, hlo.setCell (p := ⟨w.heap.size + 3, 3, none⟩) (by show w.heap.size ≤ w.heap.size + 3; omega) _, ?_⟩, hv⟩
  · rw [List.flatMap_append, List.flatMap_cons, List.flatMap_nil, List.append_nil]
    exact ownsRow_setCell_below (a := ⟨w.heap.size + 3, 3, none⟩) hown (by show w.heap.size + 3 < _; omega) _
  · have := hg.size; simp [World.setCell] at this ⊢; omega
theorem vCal_size (A B : Option Addr) (n ca m cb : Nat) : (Tryz.prog.info? 109).map (·.size) = some (vCal A n ca B m cb).size := by kernel_rfl
theorem vCal_one (A B : Option Addr) (n ca m cb : Nat) : (vCal A n ca B m cb).all (·.oneCell') = true := by simp [vCal, Value.oneCell']
theorem zvCal (A B : Option Addr) (n ca m cb : Nat) : zCal.size = (vCal A n ca B m cb).size := rfl
theorem take_succ_get (zs : List Int) (n : Nat) (h : n < zs.length) : zs.take (n + 1) = zs.take n ++ [zs[n]?.getD 0] := by
  rw [List.take_add_one, List.getElem?_eq_getElem h]; rfl
theorem lunar_at : ∀ n : Nat, n < 12 → lunar[n]?.getD 0 = 30 - ((n : Int) % 2) := by decide
theorem known2_done {w wr : World} {base mb ca cb rb : Nat} {X : Array Value} {B : Option Addr} (HK : KS2 w base mb (.cells X 3 (0, 0)) ca B 11 cb rb cal2.rules wr) (HX : X.toList.take 12 = lunar.map I) :
    LI w.heap.size (wr.setRow w.heap.size (vCal (some ⟨mb, 0, none⟩) 12 ca B 11 cb)) (some ⟨mb, 0, none⟩) cal2.months ∧
    LL w.heap.size (wr.setRow w.heap.size (vCal (some ⟨mb, 0, none⟩) 12 ca B 11 cb)) B cal2.rules ∧
    Below w.heap.size w (wr.setRow w.heap.size (vCal (some ⟨mb, 0, none⟩) 12 ca B 11 cb)) := by
  have hm1' := HK.m1
  have hm2' := HK.m2
  have hs' := HK.sz
  have hmb := (setRow_other wr w.heap.size mb (vCal (some ⟨mb, 0, none⟩) 12 ca B 11 cb) (by omega)).trans HK.mon
  have hsz' : (wr.setRow w.heap.size (vCal (some ⟨mb, 0, none⟩) 12 ca B 11 cb)).heap.size = wr.heap.size := by simp [World.setRow]
  refine ⟨.inr ⟨mb, 0, rfl, by omega, by omega, fun j hj => ?_⟩, ?_, below_setRow HK.lo (Nat.le_refl _) _⟩
  · rw [cell_of_row _ mb _ _ _ _ hmb, Nat.zero_add]
    have h1 : (X.toList.take 12)[j]? = (lunar.map I)[j]? := by rw [HX]
    have hj' : j < 12 := hj
    rw [List.getElem?_take_of_lt hj', List.getElem?_map] at h1
    rw [← Array.getElem?_toList, h1]
    show Option.map I (lunar[j]?) = some (I (lunar[j]?.getD 0))
    rw [List.getElem?_eq_getElem (show j < lunar.length from hj)]
    rfl
  · obtain ⟨_, ⟨_, h⟩ | ⟨g, cap, cur, hv, hg, hb, _, _, _, h4⟩⟩ := HK.own
    · cases h
    · injection hv with hv _ _
      have hg' := (setRow_other wr w.heap.size g (vCal (some ⟨mb, 0, none⟩) 12 ca B 11 cb) (by omega)).trans hb
      refine .inr ⟨g, hv, by omega, by rw [hsz']; exact (Array.getElem?_eq_some_iff.1 hb).1, fun k x hx j v hj => ?_⟩
      have h5 : j < 3 := (List.getElem?_eq_some_iff.1 hj).1
      rw [cell_of_row _ g _ _ _ _ hg']
      have h6 : (cal2.rules.flatMap Lr.cells)[k * 3 + j]? = some v := by rw [lrs_get _ k j h5, hx]; exact hj
      rw [← h4, List.getElem?_take] at h6
      split at h6
      · simpa using h6
      · cases h6
attribute [local go_sem] vCal zCal
set_option maxRecDepth 10000 in
set_option maxHeartbeats 4000000 in
theorem known2 (w : World) : Calls Tryz.prog 61 #[I 2] w (KnownP cal2 w) := by
  go_enter Tryz.func61, Tryz.ntmps61
  go_wp2_with fail
  have HF := Lib.hid (four w zCal (solar.map I).toArray #[I 4, I 0, .bool true] (vCal none 0 0 none 0 0) 109 3 147 109)
  have hsz := HF.out.2.2.2.1.1
  go_loopw [32] (fun i wr => ∃ (n : Nat) (A : Option Addr) (ca : Nat), n ≤ 12 ∧ i = I n ∧ KS1 w A n ca (lunar.take n) wr) (fun i _ => 12 - (intOf i).toNat)
  case atStart => exact ⟨0, none, 0, by omega, rfl, ⟨HF.out.1, HF.out.2.2.1, World.ownsRow_nil _ _ _ _, HF.out.2.2.2.2, hsz⟩⟩
  case round =>
    obtain ⟨n, A, ca, hn, rfl, hks⟩ := hrel
    have HK := Lib.hid hks
    have c1 : wr.cell? ⟨w.heap.size + 1 + 1 + 1, 1, none⟩ = some (.slice A n ca) := cell_of_row wr _ 1 _ _ _ hks.var
    clear hks HF hsz
    by_cases hlt : (n : Int) < 12
    · have hsz := HK.out.sz
      have hm : Int.tmod (n : Int) 2 = (n : Int) % 2 := by rw [Int.tmod_eq_emod_of_nonneg (by omega)]
      obtain ⟨z, hz⟩ : ∃ z, (30 : Int) - (n : Int) % 2 = z := ⟨_, rfl⟩
      have HZ := Lib.hid hz
      have hw1 : IntKind.i64.wrap ((n : Int) % 2) = (n : Int) % 2 := by rw [IntKind.wrap_i64]; omega
      have hw2 : IntKind.i64.wrap (30 - (n : Int) % 2) = 30 - (n : Int) % 2 := by rw [IntKind.wrap_i64]; omega
      clear hz
      go_wp2_with (at_builtin; refine wpList_app_int rfl _ _ rfl (w.heap.size + 4) _ n ((lunar.take n).map I) rfl HK.out.own (30 - (n : Int) % 2) rfl (by omega) (by omega) ?_)
      intro v' w4 hown' hgrow
      rw [← List.map_take] at hown'
      obtain ⟨gg, cap, rfl⟩ := ownsRow_succ hown'
      obtain ⟨hk4, hv4⟩ := HK.out.grown hown' hgrow
      have HK4 := Lib.hid hk4
      have c4 : ∀ i, w4.cell? ⟨w.heap.size + 1 + 1 + 1, i, none⟩ = (vCal A n ca none 0 0)[i]? := fun i => cell_of_row w4 _ i _ _ _ hv4
      have f4 : ∀ i, w4.frozen? ⟨w.heap.size + 1 + 1 + 1, i, none⟩ = false := fun i => frozen_of_row w4 _ i _ _ hv4
      clear hown' hgrow hk4 hv4 c1
      go_wp2_with fail
      go_roundw
      case rel => exact ⟨n + 1, some ⟨gg, 0, none⟩, cap, by omega, by go_num, by rw [take_succ_get lunar n (by show n < 12; omega), lunar_at n (by omega)]; exact HK4.out⟩
      case measure => simp [intOf]; omega
    · have HK : Hid (KS1 w A 12 ca lunar wr) := Lib.hid (by
        have hn12 : n = 12 := by omega
        have := HK.out
        rw [hn12] at this
        exact this)
      obtain ⟨mb, rfl, hm1, X, hmX, hXc⟩ : ∃ mb, A = some ⟨mb, 0, none⟩ ∧ w.heap.size + 4 ≤ mb ∧ ∃ cur, wr.heap[mb]? = some (.cells cur 3 (0, 0)) ∧ cur.toList.take 12 = lunar.map I := by
        obtain ⟨_, ⟨_, h⟩ | ⟨g, cap, cur, hv, hg, hb, _, _, _, h4⟩⟩ := HK.out.own
        · cases h
        · injection hv with hv _ _
          exact ⟨g, hv, hg, cur, hb, h4⟩
      have HX := Lib.hid hXc
      have HS2 : Hid (KS2 w (wr.heap.size + 1) mb (.cells X 3 (0, 0)) ca none 0 0 wr.heap.size [] (wr.alloc (.cells (rests.map I).toArray 3))) := Lib.hid (by
        have hb := below_var wr (.cells (rests.map I).toArray 3)
        have hs := HK.out.sz
        have hml : mb < wr.heap.size := (Array.getElem?_eq_some_iff.1 hmX).1
        exact ⟨(hb.block _ (by omega)).trans HK.out.res, (hb.block _ (by omega)).trans HK.out.var, (hb.block _ hml).trans hmX, hm1, by omega, heap_alloc_last wr _, by omega, by omega, World.ownsRow_nil _ _ _ _, below_trans HK.out.lo hb, by simp⟩)
      clear hXc hmX c1
      go_wp2_with fail
      obtain ⟨rb, hrb⟩ : ∃ rb, wr.heap.size = rb := ⟨_, rfl⟩
      rw [hrb] at HS2 ⊢
      clear HK hrb
      go_loopw [46] (fun i wr => ∃ (m : Nat) (B : Option Addr) (cb : Nat), m ≤ 11 ∧ i = I m ∧ KS2 w (rb + 1) mb (.cells X 3 (0, 0)) ca B m cb rb ((rests.take m).map fun r => ⟨30, r, true⟩) wr) (fun i _ => 11 - (intOf i).toNat)
      case atStart => exact ⟨0, none, 0, by omega, rfl, HS2.out⟩
      case round =>
        obtain ⟨m, B, cb, hm, rfl, hks⟩ := hrel
        have HK := Lib.hid hks
        have c1 : ∀ i, wr.cell? ⟨w.heap.size + 1 + 1 + 1, i, none⟩ = (vCal (some ⟨mb, 0, none⟩) 12 ca B m cb)[i]? := fun i => cell_of_row wr _ i _ _ _ hks.var
        clear hks HS2
        by_cases hlt : (m : Int) < 11
        · have hsz := HK.out.sz
          have i0 : (0 : Int) ≤ (m : Int) := by omega
          obtain ⟨r, hr⟩ : ∃ r, rests[m]?.getD 0 = r := ⟨_, rfl⟩
          have c2 : wr.cell? ⟨rb, m, none⟩ = some (I r) := by
            rw [cell_of_row wr _ m _ _ _ HK.out.lit, ← hr]
            have : m < rests.length := by show m < 11; omega
            simp [this]
          have HRR := Lib.hid hr
          clear hr
          go_wp2_with (at_builtin; refine wpList_app_lr rfl _ _ rfl (rb + 1) _ m _ rfl HK.out.own ⟨30, r, true⟩ rfl (by omega) (by omega) ?_)
          intro v' w4 hown' hgrow
          rw [← List.map_take] at hown'
          obtain ⟨gg, cap, rfl⟩ := ownsRow_succ hown'
          obtain ⟨hk4, hv4⟩ := HK.out.grown hown' hgrow
          have HK4 := Lib.hid hk4
          have c4 : ∀ i, w4.cell? ⟨w.heap.size + 1 + 1 + 1, i, none⟩ = (vCal (some ⟨mb, 0, none⟩) 12 ca B m cb)[i]? := fun i => cell_of_row w4 _ i _ _ _ hv4
          have f4 : ∀ i, w4.frozen? ⟨w.heap.size + 1 + 1 + 1, i, none⟩ = false := fun i => frozen_of_row w4 _ i _ _ hv4
          clear hown' hgrow hk4 hv4 c1
          go_wp2_with fail
          go_roundw
          case rel => exact ⟨m + 1, some ⟨gg, 0, none⟩, cap, by omega, by go_num, by rw [take_succ_get rests m (by show m < 11; omega), HRR.out, List.map_append]; exact HK4.out⟩
          case measure => simp [intOf]; omega
        · have hm11 : m = 11 := by omega
          subst hm11
          go_wp2_with (with_reducible refine g_store 109 ?_; refine wpList_store_row rfl _ _ _ rfl w.heap.size (vCal (some ⟨mb, 0, none⟩) 12 ca B 11 cb) rfl rfl 109 zCal HK.out.res (vCal_size _ _ _ _ _ _) (zvCal _ _ _ _ _ _) (vCal_one _ _ _ _ _ _) ?_)
          refine bodyPost_ret (v := .tuple #[.agg (calCells cal2 (some ⟨mb, 0, none⟩) ca B cb), I 0]) (results_row_tmp rfl _ _ w.heap.size _ (vCal (some ⟨mb, 0, none⟩) 12 ca B 11 cb) (0, 0) _ rfl (setRow_heap _ _ _ _ _ _ HK.out.res) Tryz.underlying109 rfl (vCal_size _ _ _ _ _ _) _ rfl) rfl ?_
          obtain ⟨e1, e2, e3⟩ := known2_done HK.out HX.out
          exact ⟨_, _, _, _, rfl, e1, e2, e3⟩
end Go.Proofs.YthhbbebabmemfaaGreat

/- letter.calendars. -/
namespace Go.Proofs.YthhbbebabmemfaaGreat
open Go Go.RowKit

structure CalV where
  c : Cal
  A : Option Addr
  ca : Nat
  B : Option Addr
  cb : Nat
def CalV.cells (x : CalV) : List Value := (calCells x.c x.A x.ca x.B x.cb).toList
def zCal3 : Array Value := #[I 0, .slice none 0 0, I 0, .slice none 0 0, I 0, .slice none 0 0, I 0, .slice none 0 0, I 0, .slice none 0 0, I 0, .slice none 0 0]
theorem make_cals (W : World) : (Instr.makeSlice 81 (.int .i64 3) (.int .i64 3)).run Tryz.prog W = .ok (.slice (some ⟨W.heap.size, 0, none⟩) 3 3) (W.alloc (.cells zCal3 109)) := by
  have h0 : (Tryz.prog.info? 109).map (fun i => (i.zero, i.size, i.bytes)) = some (some (.agg zCal), 4, 64) := by kernel_rfl
  obtain ⟨i, hi, he⟩ := Option.map_eq_some_iff.1 h0
  simp only [Prod.mk.injEq] at he
  obtain ⟨hz, hs, hb⟩ := he
  have h := run_make (P := Tryz.prog) W 81 109 i (.agg zCal) Tryz.underlying81 hi hz .i64 .i64 3 3 (by omega) (by omega) (by rw [hb]; omega) (by omega)
  have e : madeCells (Value.agg zCal).cells (Int.toNat 3 * 4) = zCal3 := by kernel_rfl
  rw [h, hs, e]
  rfl
/-- The calendars' row: those that are laid, and zeros. -/
structure CS (w : World) (k : Nat) (xs : List CalV) (W : World) : Prop where
  row : W.heap[w.heap.size]? = some (.cells (xs.flatMap CalV.cells ++ (List.replicate (3 - k) zCal.toList).flatten).toArray 109 (0, 0))
  len : xs.length = k
  mem : ∀ x ∈ xs, LI (w.heap.size + 1) W x.A x.c.months ∧ LL (w.heap.size + 1) W x.B x.c.rules ∧ CalOK x.c
  lo : Below w.heap.size w W
  sz : w.heap.size + 1 ≤ W.heap.size
def CalsP (w : World) (e : Ending) (w' : World) : Prop := ∃ xs, e = .returned (.slice (some ⟨w.heap.size, 0, none⟩) 3 3) ∧ CS w 3 xs w'
theorem known_any (k : Nat) (hk : k < 3) (w : World) : ∃ c, CalOK c ∧ Calls Tryz.prog 61 #[I k] w (KnownP c w) := by
  have h : k = 0 ∨ k = 1 ∨ k = 2 := by omega
  rcases h with rfl | rfl | rfl
  · exact ⟨cal0, cal0_ok, known0 w⟩
  · exact ⟨cal1, cal1_ok, known1 w⟩
  · exact ⟨cal2, cal2_ok, known2 w⟩
theorem CS.grow {w W W' : World} {k : Nat} {xs : List CalV} (h : CS w k xs W) (hb : Below W.heap.size W W') : CS w k xs W' :=
  ⟨(hb.block _ (by have := h.sz; omega)).trans h.row, h.len, fun x hx => ⟨(h.mem x hx).1.of_blocks hb.size fun k _ h2 => hb.block k h2, (h.mem x hx).2.1.of_blocks hb.size fun k _ h2 => hb.block k h2, (h.mem x hx).2.2⟩, below_trans h.lo hb, by have := h.sz; have := hb.size; omega⟩
theorem flat_len (xs : List CalV) : (xs.flatMap CalV.cells).length = xs.length * 4 := by
  induction xs with
  | nil => rfl
  | cons x r ih => rw [List.flatMap_cons, List.length_append, ih]; show 4 + _ = _; simp; omega
theorem CS.at {w W : World} {k : Nat} {xs : List CalV} (h : CS w k xs W) (hk : k < 3) (j : Nat) (hj : j < 4) : ∃ v, W.cell? ⟨w.heap.size, k * 4 + j, none⟩ = some v := by
  rw [cell_of_row W _ _ _ _ _ h.row]
  have hl : (xs.flatMap CalV.cells).length = k * 4 := by rw [flat_len, h.len]
  have hz : ((List.replicate (3 - k) zCal.toList).flatten).length = (3 - k) * 4 := by simp [zCal]
  exact ⟨_, Array.getElem?_eq_getElem (by simp only [List.size_toArray, List.length_append, hl, hz]; omega)⟩
theorem CS.froz {w W : World} {k : Nat} {xs : List CalV} (h : CS w k xs W) (j : Nat) : W.frozen? ⟨w.heap.size, j, none⟩ = false := frozen_of_row W _ j _ _ h.row
theorem set4 (pre rest : List Value) (n : Nat) (hn : pre.length = n) (z0 z1 z2 z3 a b c d : Value) :
    (((((pre ++ ([z0, z1, z2, z3] ++ rest)).toArray.setIfInBounds n a).setIfInBounds (n + 1) b).setIfInBounds (n + 2) c).setIfInBounds (n + 3) d) = (pre ++ [a, b, c, d] ++ rest).toArray := by
  subst hn
  apply Array.ext'
  simp
theorem CS.put {w W : World} {k : Nat} {xs : List CalV} (h : CS w k xs W) (hk : k < 3) (x : CalV) (hm : LI (w.heap.size + 1) W x.A x.c.months ∧ LL (w.heap.size + 1) W x.B x.c.rules ∧ CalOK x.c) :
    CS w (k + 1) (xs ++ [x]) ((((W.setCell ⟨w.heap.size, k * 4, none⟩ (I x.c.epoch)).setCell ⟨w.heap.size, k * 4 + 1, none⟩ (.slice x.A x.c.months.length x.ca)).setCell ⟨w.heap.size, k * 4 + 2, none⟩ (I x.c.leap)).setCell ⟨w.heap.size, k * 4 + 3, none⟩ (.slice x.B x.c.rules.length x.cb)) := by
  have hl : (xs.flatMap CalV.cells).length = k * 4 := by rw [flat_len, h.len]
  have hrep : (List.replicate (3 - k) zCal.toList).flatten = [I 0, .slice none 0 0, I 0, .slice none 0 0] ++ (List.replicate (3 - (k + 1)) zCal.toList).flatten := by
    rw [show 3 - k = (3 - (k + 1)) + 1 by omega, List.replicate_succ, List.flatten_cons]; rfl
  have h1 := heap_setCell_same W _ (k * 4) _ _ (I x.c.epoch) h.row
  have h2 := heap_setCell_same _ _ (k * 4 + 1) _ _ (.slice x.A x.c.months.length x.ca) h1
  have h3 := heap_setCell_same _ _ (k * 4 + 2) _ _ (I x.c.leap) h2
  have h4 := heap_setCell_same _ _ (k * 4 + 3) _ _ (.slice x.B x.c.rules.length x.cb) h3
  have hother : ∀ b, b ≠ w.heap.size → ((((W.setCell ⟨w.heap.size, k * 4, none⟩ (I x.c.epoch)).setCell ⟨w.heap.size, k * 4 + 1, none⟩ (.slice x.A x.c.months.length x.ca)).setCell ⟨w.heap.size, k * 4 + 2, none⟩ (I x.c.leap)).setCell ⟨w.heap.size, k * 4 + 3, none⟩ (.slice x.B x.c.rules.length x.cb)).heap[b]? = W.heap[b]? := fun b hb => by
    rw [heap_setCell_other _ _ _ _ hb, heap_setCell_other _ _ _ _ hb, heap_setCell_other _ _ _ _ hb, heap_setCell_other _ _ _ _ hb]
  have hsz : ((((W.setCell ⟨w.heap.size, k * 4, none⟩ (I x.c.epoch)).setCell ⟨w.heap.size, k * 4 + 1, none⟩ (.slice x.A x.c.months.length x.ca)).setCell ⟨w.heap.size, k * 4 + 2, none⟩ (I x.c.leap)).setCell ⟨w.heap.size, k * 4 + 3, none⟩ (.slice x.B x.c.rules.length x.cb)).heap.size = W.heap.size := by simp [World.setCell]
  have hlo := (((h.lo.setCell (p := ⟨w.heap.size, k * 4, none⟩) (Nat.le_refl _) (I x.c.epoch)).setCell (p := ⟨w.heap.size, k * 4 + 1, none⟩) (Nat.le_refl _) (.slice x.A x.c.months.length x.ca)).setCell (p := ⟨w.heap.size, k * 4 + 2, none⟩) (Nat.le_refl _) (I x.c.leap)).setCell (p := ⟨w.heap.size, k * 4 + 3, none⟩) (Nat.le_refl _) (.slice x.B x.c.rules.length x.cb)
  have hmem : ∀ y : CalV, LI (w.heap.size + 1) W y.A y.c.months ∧ LL (w.heap.size + 1) W y.B y.c.rules ∧ CalOK y.c → LI (w.heap.size + 1) _ y.A y.c.months ∧ LL (w.heap.size + 1) _ y.B y.c.rules ∧ CalOK y.c := fun y hy =>
    ⟨hy.1.of_blocks (by rw [hsz]; exact Nat.le_refl _) fun b hb _ => hother b (by omega), hy.2.1.of_blocks (by rw [hsz]; exact Nat.le_refl _) fun b hb _ => hother b (by omega), hy.2.2⟩
  refine ⟨?_, by rw [List.length_append, h.len]; rfl, fun y hy => ?_, hlo, by rw [hsz]; exact h.sz⟩
  · rw [h4, hrep, set4 _ _ _ hl]
    rw [List.flatMap_append, List.flatMap_cons, List.flatMap_nil, List.append_nil]
    rfl
  · rcases List.mem_append.1 hy with hy | hy
    · exact hmem y (h.mem y hy)
    · rw [List.mem_singleton.1 hy]; exact hmem x hm
set_option maxRecDepth 10000 in
set_option maxHeartbeats 2000000 in
theorem calendars_any (w : World) : Calls Tryz.prog 43 #[] w (CalsP w) := by
  have hmk := make_cals w
  have HC0 : Hid (CS w 0 [] (w.alloc (.cells zCal3 109))) := Lib.hid ⟨heap_alloc_last w _, rfl, (fun x hx => nomatch hx), below_var w _, by simp⟩
  go_enter Tryz.func43, Tryz.ntmps43
  go_wp2_with fail
  go_loopw [6] (fun i wr => ∃ (k : Nat) (xs : List CalV), k ≤ 3 ∧ i = I k ∧ CS w k xs wr) (fun i _ => 3 - (intOf i).toNat)
  case atStart => exact ⟨0, [], by omega, rfl, HC0.out⟩
  case round =>
    obtain ⟨k, xs, hk, rfl, hcs⟩ := hrel
    have HC := Lib.hid hcs
    clear hcs HC0 hmk
    by_cases hlt : (k : Int) < 3
    · have i0 : (0 : Int) ≤ (k : Int) := by omega
      obtain ⟨c, hok, hkn⟩ := known_any k (by omega) wr
      have HOK := Lib.hid hok
      have HKN := Lib.hid hkn
      clear hok hkn
      go_wp2_with fail
      refine HKN.out.mono ?_
      rintro e w2 ⟨A, ca, B, cb, rfl, hA, hB, hb2⟩
      have hsz := HC.out.sz
      have HC2 := Lib.hid (HC.out.grow hb2)
      have HC3 := Lib.hid (HC2.out.put (by omega) ⟨c, A, ca, B, cb⟩ ⟨hA.lower hsz, hB.lower hsz, HOK.out⟩)
      obtain ⟨v0, c0⟩ := HC2.out.at (by omega) 0 (by omega)
      obtain ⟨v1, c1⟩ := HC2.out.at (by omega) 1 (by omega)
      obtain ⟨v2, c2⟩ := HC2.out.at (by omega) 2 (by omega)
      obtain ⟨v3, c3⟩ := HC2.out.at (by omega) 3 (by omega)
      have hf := HC2.out.froz
      have c0' : w2.cell? ⟨w.heap.size, k * 4, none⟩ = some v0 := c0
      have e0 : calCells c A ca B cb = #[I c.epoch, .slice A c.months.length ca, I c.leap, .slice B c.rules.length cb] := rfl
      rw [e0]
      clear hA hB hb2 c0 e0
      go_wp2_with fail
      go_roundw
      case rel => exact ⟨k + 1, _, by omega, by go_num, HC3.out⟩
      case measure => simp [intOf]; omega
    · have HC' : Hid (CS w 3 xs wr) := Lib.hid (by
        have hk3 : k = 3 := by omega
        have := HC.out
        rw [hk3] at this
        exact this)
      go_wp2_with fail
      go_ret
      exact ⟨xs, rfl, HC'.out⟩
end Go.Proofs.YthhbbebabmemfaaGreat

/- rule.Valid, where the rule is valid. -/
namespace Go.Proofs.YthhbbebabmemfaaGreat
open Go Go.RowKit

def CalsAt (w : World) (B cb : Nat) (xs : List CalV) : Prop :=
  xs.length = 3 ∧ cb < B ∧ ∀ k x, xs[k]? = some x → w.rangeAt cb (k * 4) x.cells ∧ IntsAt w B x.A x.c.months ∧ LrsAt w B x.B x.c.rules ∧ CalOK x.c
theorem CalsAt.keep {w w' : World} {B cb : Nat} {xs : List CalV} (h : CalsAt w B cb xs) (hb : Below B w w') : CalsAt w' B cb xs :=
  ⟨h.1, h.2.1, fun k x hx => ⟨rangeAt_keep (h.2.2 k x hx).1 hb h.2.1, (h.2.2 k x hx).2.1.keep hb, (h.2.2 k x hx).2.2.1.keep hb, (h.2.2 k x hx).2.2.2⟩⟩
theorem CalsAt.more {w : World} {B B' cb : Nat} {xs : List CalV} (h : CalsAt w B cb xs) (hB : B ≤ B') : CalsAt w B' cb xs :=
  ⟨h.1, by have := h.2.1; omega, fun k x hx => ⟨(h.2.2 k x hx).1, (h.2.2 k x hx).2.1.more hB, (h.2.2 k x hx).2.2.1.more hB, (h.2.2 k x hx).2.2.2⟩⟩
theorem flat_get (xs : List CalV) (k i : Nat) (hi : i < 4) : (xs.flatMap CalV.cells)[k * 4 + i]? = (xs[k]?).bind fun x => x.cells[i]? := by
  induction xs generalizing k with
  | nil => simp
  | cons x r ih =>
    have hl : x.cells.length = 4 := rfl
    rw [List.flatMap_cons]
    cases k with
    | zero => rw [List.getElem?_append_left (by rw [hl]; omega)]; simp
    | succ k => rw [List.getElem?_append_right (by rw [hl]; omega), hl, show (k + 1) * 4 + i - 4 = k * 4 + i by omega, ih k]; simp
theorem CS.cals {w W : World} {xs : List CalV} (h : CS w 3 xs W) : CalsAt W W.heap.size w.heap.size xs := by
  refine ⟨h.len, by have := h.sz; omega, fun k x hx => ⟨fun j v hv => ?_, (h.mem x (List.mem_of_getElem? hx)).1.ints, (h.mem x (List.mem_of_getElem? hx)).2.1.lrs, (h.mem x (List.mem_of_getElem? hx)).2.2⟩⟩
  have hj : j < 4 := (List.getElem?_eq_some_iff.1 hv).1
  rw [cell_of_row W _ _ _ _ _ h.row, List.getElem?_toArray]
  have h1 : (xs.flatMap CalV.cells)[k * 4 + j]? = some v := by rw [flat_get xs k j hj, hx]; exact hv
  rw [List.getElem?_append_left (List.getElem?_eq_some_iff.1 h1).1]
  exact h1
/-- A rule that is valid. -/
structure RuleOK (ns : List NdV) : Prop where
  n1 : 1 ≤ ns.length
  n64 : ns.length ≤ 64
  nodes : ∀ i x, ns[i]? = some x → NodeOK i x.d.kind.toNat x.d
  uses : ∀ j, j + 1 < ns.length → (usesTo (ns.map (·.d)) ns.length ns.length)[j]? = some 1
theorem NodeOK.small {i k : Nat} {d : Nd} (h : NodeOK i k d) : d.list.length ≤ 64 ∧ d.name.size ≤ 32 := by
  refine ⟨h.len, ?_⟩
  rcases h.name with ⟨_, hn⟩ | ⟨_, hn⟩
  · exact hn.2.1
  · rw [hn]; decide
set_option maxRecDepth 10000 in
set_option maxHeartbeats 2000000 in
theorem ruleValid_yes (A : Option Addr) (n c cb cc : Nat) (ns : List NdV) (xs : List CalV) (w : World) (hA : RulesAt w w.heap.size A ns) (hl : ns.length = n) (hok : RuleOK ns) (hc : CalsAt w w.heap.size cb xs) :
    Calls Tryz.prog 59 #[.slice A n c, .slice (some ⟨cb, 0, none⟩) 3 cc] w (Gives (I 0) w) := by
  have HA := Lib.hid hA
  have HL := Lib.hid hl
  have HOK := Lib.hid hok
  have HCA := Lib.hid hc
  have h64 : n ≤ 64 := by rw [← hl]; exact hok.n64
  have h65 : ¬ (64 : Int) < (n : Int) := by omega
  have HBIG := Lib.hid (hasBig A n c ns w hA hl (by omega) (fun x hx => by
    obtain ⟨i, hi⟩ := List.getElem?_of_mem hx
    exact (hok.nodes i x hi).small))
  have HWF := Lib.hid (fun w' (hb : Below w.heap.size w w') => wellFormed_yes A n c ns w' ((hA.keep hb).more hb.size) hl (by rw [← hl]; exact hok.n1) h64 hok.nodes _ rfl (fun j hj => by have := hok.uses j (by rw [hl]; exact hj); rw [hl] at this; exact this))
  clear hA hl hok hc
  go_enter Tryz.func59, Tryz.ntmps59
  go_wp2_with fail
  refine HBIG.out.mono ?_
  rintro e w1 ⟨rfl, hb1⟩
  have HB1 := Lib.hid hb1
  clear hb1 HBIG
  go_wp2_with fail
  refine (HWF.out _ HB1.out).mono ?_
  rintro e w2 ⟨rfl, hb2⟩
  have HB2 := Lib.hid (below_trans HB1.out hb2)
  clear hb2 HWF HB1
  go_wp2_with fail
  go_loopw [29] (fun i wr => ∃ k : Nat, k ≤ 3 ∧ i = I k ∧ Below w.heap.size w wr) (fun i _ => 3 - (intOf i).toNat)
  case atStart => exact ⟨0, by omega, rfl, HB2.out⟩
  case round =>
    obtain ⟨k, hk, rfl, hbe⟩ := hrel
    have HBE := Lib.hid hbe
    clear hbe HB2
    by_cases hlt : (k : Int) < 3
    · have i0 : (0 : Int) ≤ (k : Int) := by omega
      have hc := HCA.out.keep HBE.out
      obtain ⟨x, hx⟩ : ∃ x, xs[k]? = some x := ⟨_, List.getElem?_eq_getElem (by rw [hc.1]; omega)⟩
      obtain ⟨hr, hi, hlr, hco⟩ := hc.2.2 k x hx
      have hbl : cb < wr.heap.size := Nat.lt_of_lt_of_le hc.2.1 HBE.out.size
      have f0 : wr.cell? ⟨cb, k * 4, none⟩ = some (I x.c.epoch) := hr 0 _ rfl
      have f1 : wr.cell? ⟨cb, k * 4 + 1, none⟩ = some (.slice x.A x.c.months.length x.ca) := hr 1 _ rfl
      have f2 : wr.cell? ⟨cb, k * 4 + 2, none⟩ = some (I x.c.leap) := hr 2 _ rfl
      have f3 : wr.cell? ⟨cb, k * 4 + 3, none⟩ = some (.slice x.B x.c.rules.length x.cb) := hr 3 _ rfl
      have hne : ¬ cb = wr.heap.size := by omega
      have HBV := Lib.hid (below_var wr (.cells (calCells x.c x.A x.ca x.B x.cb) 109))
      have hbs := HBE.out.size
      have HCV := Lib.hid (civilValid_yes x.c x.A x.ca x.B x.cb _ (((hi.more hbs).keep HBV.out).more HBV.out.size) (((hlr.more hbs).keep HBV.out).more HBV.out.size) hco)
      clear hr hi hlr hco hc hx
      go_wp2_with fail
      refine HCV.out.mono ?_
      rintro e w5 ⟨rfl, hb5⟩
      have HB5 := Lib.hid (below_trans HBV.out hb5)
      clear hb5
      go_wp2_with fail
      go_roundw
      case rel => exact ⟨k + 1, by omega, by go_num, below_trans HBE.out HB5.out⟩
      case measure => simp [intOf]; omega
    · go_wp2_with fail
      refine (shapes_any _).mono ?_
      rintro e w3 ⟨rfl, hb3⟩
      have HB3 := Lib.hid (below_trans (below_trans HBE.out hb3) (below_var w3 (.cells shC 142)))
      have HT3 := Lib.hid (Row.new w3 shC 142)
      have hsb : w.heap.size ≤ w3.heap.size := Nat.le_trans HBE.out.size hb3.size
      clear hb3
      go_wp2_with (refine wpList_var_row rfl rfl _ _ _ rfl rfl rfl rfl _ shC sh_info' rfl rfl rfl sh_one ?_)
      obtain ⟨tb, htb⟩ : ∃ tb, w3.heap.size = tb := ⟨_, rfl⟩
      rw [htb] at HT3 hsb ⊢
      clear htb
      go_loopw [40] (fun i wr => ∃ j : Nat, j ≤ n ∧ i = I j ∧ Below w.heap.size w wr ∧ Row wr tb shC) (fun i _ => n - (intOf i).toNat)
      case atStart => exact ⟨0, by omega, rfl, HB3.out, HT3.out⟩
      case round =>
        obtain ⟨j, hj, rfl, hbj, hrj⟩ := hrel
        have HBJ := Lib.hid hbj
        have HRJ := Lib.hid hrj
        clear hbj hrj HB3 HT3
        by_cases hlt2 : (j : Int) < (n : Int)
        · have i0 : (0 : Int) ≤ (j : Int) := by omega
          obtain ⟨b, ⟨⟨kind, cal, l, r, nn, m, list, name⟩, A', c'⟩, rfl, hx, hm, ho⟩ := one_nd (k := j) HA.out HL.out HBJ.out (by omega)
          have hN := HOK.out.nodes j _ hx
          obtain ⟨f0, f1, f2, f3, f4, f5, f6, f7⟩ := ho.cells
          simp only at hN f0 f1 f2 f3 f4 f5 f6 f7
          obtain ⟨kd, hkd⟩ : ∃ kd, kind.toNat = kd := ⟨_, rfl⟩
          rw [hkd] at hN
          have hkk : kind = (kd : Int) := hN.kind
          subst hkk
          have hk1 := hN.k1
          have hk2 := hN.k2
          have hbl := ho.la
          obtain ⟨_, t1, _, _⟩ := shC_at kd (by omega)
          rw [← HRJ.out.2] at t1
          have htl := HRJ.out.1
          have hne1 : ¬ b = wr.heap.size := by omega
          have hne2 : ¬ tb = wr.heap.size := by omega
          have HBV := Lib.hid (below_var wr (.cells #[I kd, I cal, I l, I r, I nn, I m, .slice A' list.length c', .string name] 75))
          have hcal := hN.cal
          simp only at hcal
          clear hN ho hx hm hkd
          rcases hcal with ⟨hcb, hc1, hc2⟩ | ⟨hcb, hc0⟩
          · rw [hcb] at t1
            have hc3 : ¬ (3 : Int) ≤ cal := by omega
            go_wp2_with fail
            go_roundw
            case rel => exact ⟨j + 1, by omega, by go_num, below_trans HBJ.out HBV.out, HRJ.out.keep HBV.out⟩
            case measure => simp [intOf]; omega
          · rw [hcb] at t1
            clear hc0 hcb
            go_wp2_with fail
            go_roundw
            case rel => exact ⟨j + 1, by omega, by go_num, below_trans HBJ.out HBV.out, HRJ.out.keep HBV.out⟩
            case measure => simp [intOf]; omega
        · go_wp2_with fail
          go_ret
          exact ⟨rfl, HBJ.out⟩
end Go.Proofs.YthhbbebabmemfaaGreat

/- slices.Clone of numbers, rule.add of a leaf; the map of rule.Part. -/
namespace Go.Proofs.YthhbbebabmemfaaGreat
open Go Go.RowKit Go.WideShapes

theorem own_none (w : World) : (w.alloc (.cells #[] 3)).ownsRow w.heap.size 3 1 (.slice (some ⟨w.heap.size, 0, none⟩) 0 0) 0 [] :=
  ⟨rfl, .inr ⟨w.heap.size, 0, #[], rfl, Nat.le_refl _, heap_alloc_last w _, Nat.le_refl _, Nat.zero_le _, rfl, rfl⟩⟩
/-- Some slice of n elements, in memory of the call's own. -/
def SomeSl (n : Nat) (w : World) (e : Ending) (w' : World) : Prop := ∃ A c, e = .returned (.slice A n c) ∧ Below w.heap.size w w'
theorem below_grown {w W w' : World} {base e size n : Nat} {v : Value} {ys : List Value} (hb : Below base w W) (hown : W.ownsRow base e size v n ys) (hle : base ≤ W.heap.size) (hg : W.grownBy w' v.ownBlock) : Below base w w' :=
  ⟨hg.os.trans hb.os, hg.tape.trans hb.tape, hg.output.trans hb.output, Nat.le_trans hb.size hg.size, fun k hk => (hg.block k (by omega) (own_ge hown k hk)).trans (hb.block k hk)⟩
set_option maxRecDepth 10000 in
set_option maxHeartbeats 2000000 in
theorem clone_any (A : Option Addr) (n c : Nat) (zs : List Int) (w : World) (hA : IntsAt w w.heap.size A zs) (hl : zs.length = n) (hn : n ≤ 1000) : Calls Tryz.prog 104 #[.slice A n c] w (SomeSl n w) := by
  cases A with
  | none =>
    have h0 : n = 0 := by
      rcases hA with h | ⟨b, off, h, _⟩
      · omega
      · cases h
    subst h0
    have heq : ∀ W, (binOp .eql 23 (.slice none 0 c) (.slice none 0 0)).run Tryz.prog W = .ok (.bool true) W := fun W => by simp [binOp, run_equal_slice_nil W 23 3 none 0 c Tryz.underlying23]
    go_enter Tryz.func104, Tryz.ntmps104
    go_wp2
    go_ret
    exact ⟨_, _, rfl, Below.refl _ _⟩
  | some a =>
    have HN : Hid (∀ j u, (zs.map I)[j]? = some u → (w.alloc (.cells #[] 3)).cell? (a.add j) = some u) := Lib.hid fun j u hu => by
      rcases hA with h | ⟨b, off, h, hb, hc⟩
      · rw [List.eq_nil_of_length_eq_zero h] at hu; cases hu
      · injection h with h
        subst h
        rw [List.getElem?_map] at hu
        obtain ⟨z, hz, rfl⟩ := Option.map_eq_some_iff.1 hu
        have hj : j < zs.length := (List.getElem?_eq_some_iff.1 hz).1
        rw [add_plain, World.cell?_of_block (Below.heap_alloc w _ b hb), hc j hj, hz]; rfl
    have HO := Lib.hid (own_none w)
    have HL := Lib.hid hl
    have HB := Lib.hid (below_var w (.cells #[] 3))
    obtain ⟨i0, hi, hz0, hz1, hz2⟩ := info_parts info_int
    have HI := Lib.hid hi
    have HZ0 := Lib.hid hz0
    have HZ1 := Lib.hid hz1
    have HZ2 := Lib.hid hz2
    have heq : ∀ W, (binOp .eql 23 (.slice (some a) n c) (.slice none 0 0)).run Tryz.prog W = .ok (.bool false) W := fun W => by simp [binOp, run_equal_slice_nil W 23 3 (some a) n c Tryz.underlying23]
    clear hA hl hi hz0 hz1 hz2
    go_enter Tryz.func104, Tryz.ntmps104
    go_wp2_with (at_builtin; refine wpList_append_own_at _ rfl _ _ 23 rfl w.heap.size 3 i0 (.int .i64 0) 1 8 Tryz.underlying23 HI.out HZ0.out HZ1.out HZ2.out rfl (by decide) _ 0 [] rfl HO.out a n c (zs.map I) rfl (by rw [List.length_map, HL.out]; omega) HN.out (by intro u hu; obtain ⟨z, _, rfl⟩ := List.mem_map.1 hu; rfl) (by unfold maxLen; omega) (by omega) (by simp) ?_)
    intro v' w' hown hg _ _
    have HB2 := Lib.hid (below_grown HB.out HO.out (by simp) hg)
    have hv : ∃ A' c', v' = .slice A' n c' := by
      rcases hown.2 with ⟨rfl, h⟩ | ⟨g, cap, cur, rfl, _⟩
      · exact ⟨none, 0, by rw [show n = 0 by omega]⟩
      · exact ⟨some ⟨g, 0, none⟩, cap, rfl⟩
    obtain ⟨A', c', rfl⟩ := hv
    clear hown hg
    go_wp2_with fail
    go_ret
    exact ⟨_, _, rfl, HB2.out⟩
theorem run_upd0 (W : World) (mb : Nat) (h : W.heap[mb]? = some (.map #[] 0)) :
    (Instr.mapUpdate 161 (.map (some mb)) (.int .i64 0) (.bool true)).run Tryz.prog W = .ok () { W with heap := W.heap.setIfInBounds mb (.map #[{ key := .int .i64 0, val := .bool true, born := 0 }] 1) } := by
  have h1 : Instr.findNow (.int .i64) (.int .i64 0) (#[] : Array MapEntry).toList 0 = some none := rfl
  simp only [Instr.mapUpdate, Sem.run_bind, run_underlying Tryz.underlying161, Result.andThen, MapKept.run_getObj_map h, MapKept.run_checkKey (k := .int .i64 0) Tryz.underlying3 (by trivial) false 9999, MapKept.run_findKey Tryz.underlying3 h1, MapKept.run_setObj_map _ h]
  rfl
def oneMap : Array MapEntry := #[{ key := .int .i64 0, val := .bool true, born := 0 }]
set_option maxRecDepth 20000 in
theorem run_look (W : World) (mb k : Nat) (h : W.heap[mb]? = some (.map oneMap 1)) :
    (Instr.lookup 161 (.map (some mb)) (.int .i64 k) false).run Tryz.prog W = .ok (.bool (k == 0)) W := by
  have hz : (zeroValue 4).run Tryz.prog W = .ok (.bool false) W := by kernel_rfl
  have hck : ∀ e, (Instr.checkKey e 10000 3 (.int .i64 (k : Int))).run Tryz.prog W = .ok () W := fun e => MapKept.run_checkKey Tryz.underlying3 (by trivial) e 9999
  by_cases hk : k = 0
  · subst hk
    have hf : (Instr.findKey 3 (.int .i64 ((0 : Nat) : Int)) oneMap.toList).run Tryz.prog W = .ok (some (0, .bool true)) W := MapKept.run_findKey Tryz.underlying3 rfl
    simp only [Instr.lookup, Sem.run_bind, run_underlying Tryz.underlying161, Result.andThen, MapKept.run_getObj_map h, hck, hf, Sem.run_pure]
    rfl
  · have hf : (Instr.findKey 3 (.int .i64 (k : Int)) oneMap.toList).run Tryz.prog W = .ok none W := MapKept.run_findKey Tryz.underlying3 (by
      have hne : ((k : Int) == 0) = false := by simp [hk]
      simp [oneMap, Instr.findNow, Instr.sameNow, hne])
    have hk2 : (k == 0) = false := by simp [hk]
    simp only [Instr.lookup, Sem.run_bind, run_underlying Tryz.underlying161, Result.andThen, MapKept.run_getObj_map h, hck, hf, hz, Sem.run_pure, hk2]
    rfl
end Go.Proofs.YthhbbebabmemfaaGreat

/- rule.add of a node without operands; the walker of rule.Part at a node without operands. -/
namespace Go.Proofs.YthhbbebabmemfaaGreat
open Go Go.RowKit

theorem index_sh (k : Nat) (hk : k < 19) (w : World) : (Instr.index 142 (.agg shC) (.int .i64 (k : Int))).run Tryz.prog w = .ok (.agg #[I (opn k), .bool (calB k), I (shLo k), I (shHi k)]) w := by
  have h : k = 0 ∨ k = 1 ∨ k = 2 ∨ k = 3 ∨ k = 4 ∨ k = 5 ∨ k = 6 ∨ k = 7 ∨ k = 8 ∨ k = 9 ∨ k = 10 ∨ k = 11 ∨ k = 12 ∨ k = 13 ∨ k = 14 ∨ k = 15 ∨ k = 16 ∨ k = 17 ∨ k = 18 := by omega
  rcases h with rfl | rfl | rfl | rfl | rfl | rfl | rfl | rfl | rfl | rfl | rfl | rfl | rfl | rfl | rfl | rfl | rfl | rfl | rfl <;> (show _ = _; kernel_rfl)
theorem field_sh (a b c : Int) (u : Bool) (w : World) : (Instr.field 141 (.agg #[I a, .bool u, I b, I c]) 0).run Tryz.prog w = .ok (I a) w := by kernel_rfl
/-- The node's variable, as it lies. -/
structure NVar (w : World) (cs : Array Value) (W : World) : Prop where
  var : W.heap[w.heap.size]? = some (.cells cs 75 (0, 0))
  lo : Below w.heap.size w W
theorem NVar.below {w W W' : World} {cs : Array Value} (h : NVar w cs W) (hb : Below W.heap.size W W') : NVar w cs W' := ⟨(hb.block _ (Array.getElem?_eq_some_iff.1 h.var).1).trans h.var, below_trans h.lo hb⟩
theorem NVar.put {w W : World} {cs : Array Value} (h : NVar w cs W) (o : Nat) (v : Value) : NVar w (cs.setIfInBounds o v) (W.setCell ⟨w.heap.size, o, none⟩ v) := ⟨heap_setCell_same W _ o _ _ v h.var, h.lo.setCell (p := ⟨w.heap.size, o, none⟩) (Nat.le_refl _) _⟩
theorem NVar.cell {w W : World} {cs : Array Value} (h : NVar w cs W) : ∀ i, W.cell? ⟨w.heap.size, i, none⟩ = cs[i]? := fun i => cell_of_row W _ i _ _ _ h.var
theorem NVar.froz {w W : World} {cs : Array Value} (h : NVar w cs W) : ∀ i, W.frozen? ⟨w.heap.size, i, none⟩ = false := fun i => frozen_of_row W _ i _ _ h.var
set_option maxRecDepth 10000 in
set_option maxHeartbeats 2000000 in
theorem add_leaf (kd : Nat) (cal l r nn m : Int) (list : List Int) (name : ByteArray) (A : Option Addr) (c : Nat) (P : Option Addr) (np cp : Nat) (w : World) (hA : IntsAt w w.heap.size A list) (hl : list.length ≤ 64) (hk : kd < 19) (ho : opn kd = 0) :
    Calls Tryz.prog 99 #[.slice none 0 0, .agg #[I kd, I cal, I l, I r, I nn, I m, .slice A list.length c, .string name], .slice P np cp] w (SomeSl 1 w) := by
  have HN0 : Hid (NVar w #[I kd, I cal, I l, I r, I nn, I m, .slice A list.length c, .string name] (w.alloc (.cells #[I kd, I cal, I l, I r, I nn, I m, .slice A list.length c, .string name] 75))) := Lib.hid ⟨heap_alloc_last w _, below_var w _⟩
  have hix := index_sh kd hk
  rw [ho] at hix
  have hfd := field_sh 0 (shLo kd) (shHi kd) (calB kd)
  have HCL : Hid (∀ W, Below w.heap.size w W → Calls Tryz.prog 104 #[.slice A list.length c] W (SomeSl list.length W)) := Lib.hid fun W hb => clone_any A list.length c list W ((hA.keep hb).more hb.size) rfl (by omega)
  clear hA hl hk ho
  go_enter Tryz.func99, Tryz.ntmps99
  go_wp2_with fail
  refine (HCL.out _ HN0.out.lo).mono ?_
  rintro e w1 ⟨A1, c1, rfl, hb1⟩
  have HN1 := Lib.hid (HN0.out.below hb1)
  have hc1 := HN1.out.cell
  have hf1 := HN1.out.froz
  have HN2 : Hid (NVar w #[I kd, I cal, I l, I r, I nn, I m, .slice A1 list.length c1, .string name] (w1.setCell ⟨w.heap.size, 6, none⟩ (.slice A1 list.length c1))) := Lib.hid (HN1.out.put 6 (.slice A1 list.length c1))
  clear hb1 HN0 HCL
  go_wp2_with fail
  clear hc1 hf1
  have hc2 := HN2.out.cell
  obtain ⟨W2, hW2⟩ : ∃ W, w1.setCell ⟨w.heap.size, 6, none⟩ (.slice A1 list.length c1) = W := ⟨_, rfl⟩
  rw [hW2] at HN2 hc2 ⊢
  clear hW2
  go_region_law (go_simp; go_at_call 79; refine (shapes_any _).mono ?_; rintro v w5 ⟨rfl, hb5⟩; have HN5 := Lib.hid (HN2.out.below (below_drew' hb5)); have hc5 := HN5.out.cell; clear hb5)
  all_goals
    have HB5 := Lib.hid (below_trans HN5.out.lo (below_var w5 (.cells (ndCells ⟨kd, cal, l, r, nn, m, list, name⟩ A1 c1) 75)))
    have hs5 := HN5.out.lo.size
    clear hc2
    go_wp2_with (at_builtin; refine wpList_app_nodes rfl _ _ rfl w.heap.size _ [] rfl (World.ownsRow_nil _ _ _ _) ⟨w5.heap.size, 0, none⟩ 1 [⟨⟨kd, cal, l, r, nn, m, list, name⟩, A1, c1⟩] rfl cells_new (by simp) (by simp; omega) ?_)
    intro v' w6 hown hg
    have HB6 := Lib.hid (below_grown HB5.out (World.ownsRow_nil _ _ 75 8) (by simp; omega) hg)
    have hv : ∃ A' c', v' = .slice A' 1 c' := by
      rcases hown.2 with ⟨_, h⟩ | ⟨g, cap, cur, rfl, _⟩
      · cases h
      · exact ⟨some ⟨g, 0, none⟩, cap, rfl⟩
    obtain ⟨A', c', rfl⟩ := hv
    clear hown hg
    go_wp2_with fail
    go_ret
    exact ⟨_, _, rfl, HB6.out⟩
end Go.Proofs.YthhbbebabmemfaaGreat

/- rule.Part at the first node. -/
namespace Go.Proofs.YthhbbebabmemfaaGreat
open Go Go.RowKit

/-- The map's block is set to one entry; all others stand. -/
def mapSet (W : World) (mb : Nat) : World := { W with heap := W.heap.setIfInBounds mb (.map oneMap 1) }
theorem mapSet_other (W : World) (mb k : Nat) (h : k ≠ mb) : (mapSet W mb).heap[k]? = W.heap[k]? := by
  simp only [mapSet, Array.getElem?_setIfInBounds]
  rw [if_neg (fun e => h e.symm)]
theorem mapSet_same (W : World) (mb : Nat) {o : Obj} (h : W.heap[mb]? = some o) : (mapSet W mb).heap[mb]? = some (.map oneMap 1) := by
  have : mb < W.heap.size := (Array.getElem?_eq_some_iff.1 h).1
  simp [mapSet, this]
structure Wk (W : World) (mb : Nat) (w' : World) : Prop where
  map : w'.heap[mb]? = some (.map oneMap 1)
  os : w'.os = W.os
  tape : w'.tape = W.tape
  output : w'.output = W.output
  size : W.heap.size ≤ w'.heap.size
  block : ∀ k, k < W.heap.size → k ≠ mb → w'.heap[k]? = W.heap[k]?
theorem Wk.start (W : World) (mb : Nat) {o : Obj} (h : W.heap[mb]? = some o) : Wk W mb (mapSet W mb) := ⟨mapSet_same W mb h, rfl, rfl, rfl, by simp [mapSet], fun k _ hk => mapSet_other W mb k hk⟩
theorem Wk.below {W w' w'' : World} {mb : Nat} (h : Wk W mb w') (hb : Below w'.heap.size w' w'') : Wk W mb w'' :=
  ⟨(hb.block _ (Array.getElem?_eq_some_iff.1 h.map).1).trans h.map, hb.os.trans h.os, hb.tape.trans h.tape, hb.output.trans h.output, Nat.le_trans h.size hb.size, fun k hk hm => (hb.block k (Nat.lt_of_lt_of_le hk h.size)).trans (h.block k hk hm)⟩
theorem Wk.cell {W w' : World} {mb b o : Nat} {v : Value} (h : Wk W mb w') (hc : W.cell? ⟨b, o, none⟩ = some v) (hm : b ≠ mb) : w'.cell? ⟨b, o, none⟩ = some v := by
  have hb : b < W.heap.size := by
    apply Classical.byContradiction
    intro hn
    have h2 : W.heap[b]? = none := Array.getElem?_eq_none (by omega)
    simp [World.cell?, h2] at hc
  exact (World.cell?_of_block (a := ⟨b, o, none⟩) (h.block b hb hm)).trans hc
set_option maxRecDepth 10000 in
set_option maxHeartbeats 2000000 in
theorem walk0 (kp rp wp mb b n c kd : Nat) (W : World) (h1 : W.cell? ⟨kp, 0, none⟩ = some (.map (some mb))) (h2 : W.heap[mb]? = some (.map #[] 0)) (h3 : W.cell? ⟨rp, 0, none⟩ = some (.slice (some ⟨b, 0, none⟩) n c)) (hn : 1 ≤ n) (h4 : W.cell? ⟨b, 0, none⟩ = some (I kd)) (hk : kd < 19) (ho : opn kd = 0) (hr : rp ≠ mb) (hb : b ≠ mb) :
    Calls Tryz.prog 98 #[I 0, pt kp, pt rp, pt wp] W fun e w' => (∃ v, e = .returned v) ∧ Wk W mb w' := by
  have hup : (Instr.mapUpdate 161 (.map (some mb)) (.int .i64 0) (.bool true)).run Tryz.prog W = .ok () (mapSet W mb) := run_upd0 W mb h2
  have HS := Lib.hid (Wk.start W mb h2)
  have c3 : (mapSet W mb).cell? ⟨rp, 0, none⟩ = some (.slice (some ⟨b, 0, none⟩) n c) := HS.out.cell h3 hr
  have c4 : (mapSet W mb).cell? ⟨b, 0, none⟩ = some (I kd) := HS.out.cell h4 hb
  have hix := index_sh kd hk
  rw [ho] at hix
  have hfd := field_sh 0 (shLo kd) (shHi kd) (calB kd)
  have i1 : (0 : Int) < (n : Int) := by omega
  have i2 : 0 < n := by omega
  have H3 := Lib.hid h3
  have H4 := Lib.hid h4
  have HR := Lib.hid hr
  have HB := Lib.hid hb
  obtain ⟨WM, hWM⟩ : ∃ WM, mapSet W mb = WM := ⟨_, rfl⟩
  rw [hWM] at hup HS c3 c4
  clear h2 h3 h4 hr hb ho hWM
  go_enter Tryz.func98, Tryz.ntmps98
  go_wp2_with fail
  go_region_law (go_simp; go_at_call 79; refine (shapes_any _).mono ?_; rintro v w5 ⟨rfl, hb5⟩; have HS5 := Lib.hid (HS.out.below (below_drew' hb5)); have d3 := HS5.out.cell H3.out HR.out; have d4 := HS5.out.cell H4.out HB.out; clear hb5)
  all_goals
    go_wp2_with fail
    go_end0
    exact ⟨⟨_, rfl⟩, HS5.out⟩
/-- The blocks of rule.Part behind its set-up: the rule's box, the places, the map and its variable. -/
structure PS (w w1 : World) (b n c : Nat) (mo : Obj) (W : World) : Prop where
  rp : W.heap[w.heap.size]? = some (.cells #[.slice (some ⟨b, 0, none⟩) n c] 28 (0, 0))
  kp : W.heap[w1.heap.size + 1 + 1 + 1]? = some (.cells #[.map (some (w1.heap.size + 1 + 1))] 161 (0, 0))
  mp : W.heap[w1.heap.size + 1 + 1]? = some mo
  pl : ∃ cs, cs.size = n ∧ W.heap[w1.heap.size]? = some (.cells cs 3 (0, 0))
  lo : Below w.heap.size w W
  s1 : w.heap.size < w1.heap.size
  sz : w1.heap.size + 4 ≤ W.heap.size
theorem PS.start {w w1 : World} {b n c : Nat} {o2 : Obj} (hb : Below w.heap.size w w1) (hs : w.heap.size < w1.heap.size) (hr : w1.heap[w.heap.size]? = some (.cells #[.slice (some ⟨b, 0, none⟩) n c] 28 (0, 0))) :
    PS w w1 b n c (.map #[] 0) ((((w1.alloc (.cells (Array.replicate n (I 0)) 3)).alloc o2).alloc (.map #[] 0)).alloc (.cells #[.map (some (w1.heap.size + 1 + 1))] 161)) := by
  have b1 := below_var w1 (.cells (Array.replicate n (I 0)) 3)
  have b2 := below_var (w1.alloc (.cells (Array.replicate n (I 0)) 3)) o2
  have b3 := below_var ((w1.alloc (.cells (Array.replicate n (I 0)) 3)).alloc o2) (.map #[] 0)
  have b4 := below_var (((w1.alloc (.cells (Array.replicate n (I 0)) 3)).alloc o2).alloc (.map #[] 0)) (.cells #[.map (some (w1.heap.size + 1 + 1))] 161)
  have h1 := heap_alloc_last w1 (.cells (Array.replicate n (I 0)) 3)
  have h3 := heap_alloc_last ((w1.alloc (.cells (Array.replicate n (I 0)) 3)).alloc o2) (.map #[] 0)
  have h4 := heap_alloc_last (((w1.alloc (.cells (Array.replicate n (I 0)) 3)).alloc o2).alloc (.map #[] 0)) (.cells #[.map (some (w1.heap.size + 1 + 1))] 161)
  have hall := below_trans (below_trans (below_trans b1 b2) b3) b4
  simp only [World.size_alloc] at h3 h4
  refine ⟨(hall.block _ hs).trans hr, h4, ?_, ⟨Array.replicate n (I 0), by simp, ?_⟩, below_trans hb hall, hs, by simp⟩
  · rw [b4.block _ (by simp)]; exact h3
  · rw [b4.block _ (by simp; omega), b3.block _ (by simp; omega), b2.block _ (by simp)]; exact h1
theorem PS.walked {w w1 W w2 : World} {b n c : Nat} {mo : Obj} (h : PS w w1 b n c mo W) (hw : Wk W (w1.heap.size + 1 + 1) w2) : PS w w1 b n c (.map oneMap 1) w2 := by
  have hs := h.s1
  have hz := h.sz
  obtain ⟨cs, h1, h2⟩ := h.pl
  refine ⟨(hw.block _ (by omega) (by omega)).trans h.rp, (hw.block _ (by omega) (by omega)).trans h.kp, hw.map, ⟨cs, h1, (hw.block _ (by omega) (by omega)).trans h2⟩, ⟨hw.os.trans h.lo.os, hw.tape.trans h.lo.tape, hw.output.trans h.lo.output, Nat.le_trans h.lo.size hw.size, fun k hk => (hw.block k (by omega) (by omega)).trans (h.lo.block k hk)⟩, hs, Nat.le_trans hz hw.size⟩
theorem PS.below {w w1 W W' : World} {b n c : Nat} {mo : Obj} (h : PS w w1 b n c mo W) (hb : Below W.heap.size W W') : PS w w1 b n c mo W' := by
  have hs := h.s1
  have hz := h.sz
  obtain ⟨cs, h1, h2⟩ := h.pl
  exact ⟨(hb.block _ (by omega)).trans h.rp, (hb.block _ (by omega)).trans h.kp, (hb.block _ (by omega)).trans h.mp, ⟨cs, h1, (hb.block _ (by omega)).trans h2⟩, below_trans h.lo hb, hs, Nat.le_trans hz hb.size⟩
theorem PS.put {w w1 W : World} {b n c : Nat} {mo : Obj} (h : PS w w1 b n c mo W) (j : Nat) (v : Value) : PS w w1 b n c mo (W.setCell ⟨w1.heap.size, j, none⟩ v) := by
  have hs := h.s1
  have hz := h.sz
  obtain ⟨cs, h1, h2⟩ := h.pl
  have ho : ∀ k, k ≠ w1.heap.size → (W.setCell ⟨w1.heap.size, j, none⟩ v).heap[k]? = W.heap[k]? := fun k hk => heap_setCell_other W _ _ v hk
  exact ⟨(ho _ (by omega)).trans h.rp, (ho _ (by omega)).trans h.kp, (ho _ (by omega)).trans h.mp, ⟨cs.setIfInBounds j v, by simp [h1], heap_setCell_same W _ j _ _ v h2⟩, h.lo.setCell (p := ⟨w1.heap.size, j, none⟩) (by show w.heap.size ≤ w1.heap.size; omega) _, hs, by simpa [World.setCell] using hz⟩
theorem PS.place {w w1 W : World} {b n c : Nat} {mo : Obj} (h : PS w w1 b n c mo W) (j : Nat) (hj : j < n) : (∃ v, W.cell? ⟨w1.heap.size, j, none⟩ = some v) ∧ W.frozen? ⟨w1.heap.size, j, none⟩ = false := by
  obtain ⟨cs, h1, h2⟩ := h.pl
  exact ⟨⟨_, (cell_of_row W _ j _ _ _ h2).trans (Array.getElem?_eq_getElem (by omega))⟩, frozen_of_row W _ j _ _ h2⟩
set_option maxRecDepth 10000 in
set_option maxHeartbeats 2000000 in
theorem part_yes (A : Option Addr) (n c : Nat) (ns : List NdV) (w : World) (hA : RulesAt w w.heap.size A ns) (hl : ns.length = n) (hok : RuleOK ns) :
    Calls Tryz.prog 80 #[.slice A n c, I 0] w fun e w' => (∃ v, e = .returned (.tuple #[v, I 0])) ∧ Below w.heap.size w w' := by
  have HA := Lib.hid hA
  have HL := Lib.hid hl
  have HOK := Lib.hid hok
  have h64 : n ≤ 64 := by rw [← hl]; exact hok.n64
  have h1 : 1 ≤ n := by rw [← hl]; exact hok.n1
  have HWF := Lib.hid (fun w' (hb : Below w.heap.size w w') => wellFormed_yes A n c ns w' ((hA.keep hb).more hb.size) hl (by rw [← hl]; exact hok.n1) h64 hok.nodes _ rfl (fun j hj => by have := hok.uses j (by rw [hl]; exact hj); rw [hl] at this; exact this))
  have hmk := make_ints n (by omega)
  have hmm := @run_makeMap Tryz.prog
  have HB0 := Lib.hid (below_var w (.cells #[.slice A n c] 28))
  have HR0 := Lib.hid (Row.new w #[.slice A n c] 28)
  have HH0 := Lib.hid (heap_alloc_last w (.cells #[.slice A n c] 28))
  have hq1 : ¬ (n : Int) ≤ 0 := by omega
  clear hA hl hok
  go_enter Tryz.func80, Tryz.ntmps80
  go_wp2_with fail
  refine (HWF.out _ HB0.out).mono ?_
  rintro e w1 ⟨rfl, hb1⟩
  have HB1 := Lib.hid (below_trans HB0.out hb1)
  have HR1 := Lib.hid (HR0.out.keep hb1)
  have HH1 := Lib.hid ((hb1.block _ (by simp)).trans HH0.out)
  have hr1 : w1.cell? ⟨w.heap.size, 0, none⟩ = some (.slice A n c) := HR1.out.2 0
  have hsz := HR1.out.1
  have hne : ¬ w.heap.size = w1.heap.size := by omega
  have hne1 : ¬ w.heap.size = w1.heap.size + 1 := by omega
  have hne2 : ¬ w.heap.size = w1.heap.size + 1 + 1 := by omega
  have hne3 : ¬ w.heap.size = w1.heap.size + 1 + 1 + 1 := by omega
  clear hb1 HWF HB0 HR0
  go_wp2_with fail
  obtain ⟨b, rfl, hbl⟩ : ∃ b, A = some ⟨b, 0, none⟩ ∧ b < w.heap.size := by
    rcases HA.out with h | ⟨b', h1, h2, _⟩
    · have := HL.out; omega
    · exact ⟨b', h1, h2⟩
  have HP0 := Lib.hid (PS.start (o2 := .cells #[.func (.func 98) #[] #[pt (w1.heap.size + 1 + 1 + 1), pt w.heap.size, pt (w1.heap.size + 1)]] 160) HB1.out hsz HH1.out)
  obtain ⟨b', x, he, hx, hm, hnd⟩ := one_nd (k := 0) HA.out HL.out HP0.out.lo (by omega)
  injection he with he
  injection he with he _ _
  subst he
  have hN := HOK.out.nodes 0 x hx
  have hk2 := hN.k2
  have hop : opn x.d.kind.toNat = 0 := by
    rcases hN.opl with ⟨_, h1, h2⟩ | ⟨h, _⟩
    · exact absurd h2 (by simp; omega)
    · exact h
  have HOP := Lib.hid hop
  refine (walk0 (w1.heap.size + 1 + 1 + 1) w.heap.size (w1.heap.size + 1) (w1.heap.size + 1 + 1) b n c x.d.kind.toNat _ (cell_of_row _ _ 0 _ _ _ HP0.out.kp) HP0.out.mp (cell_of_row _ _ 0 _ _ _ HP0.out.rp) h1 (by have := hnd.ra 0 _ rfl; rw [← hN.kind]; exact this) (by omega) hop (by omega) (by omega)).mono ?_
  rintro e w2 ⟨⟨v, rfl⟩, hwk⟩
  have HP2 := Lib.hid (HP0.out.walked hwk)
  have hr2 : w2.cell? ⟨w.heap.size, 0, none⟩ = some (.slice (some ⟨b, 0, none⟩) n c) := cell_of_row _ _ 0 _ _ _ HP2.out.rp
  have HX := Lib.hid hx
  clear hwk HP0 hmk hmm HR1 hr1 hne hne1 hne2 hne3 hN hnd hm hx hop hk2 HH1
  go_wp2_with fail
  go_loopw [7, 35] (fun o i wr => ∃ k : Nat, k ≤ n ∧ i = I k ∧ ((k = 0 ∧ o = .slice none 0 0) ∨ (1 ≤ k ∧ ∃ A c, o = .slice A 1 c)) ∧ PS w w1 b n c (.map oneMap 1) wr) (fun _ i _ => n - (intOf i).toNat)
  case atStart => exact ⟨0, by omega, rfl, .inl ⟨rfl, rfl⟩, HP2.out⟩
  case round =>
    obtain ⟨k, hk, rfl, hout, hps⟩ := hrel
    have HP := Lib.hid hps
    clear hps HP2 hr2
    by_cases hlt : (k : Int) < (n : Int)
    · have i0 : (0 : Int) ≤ (k : Int) := by omega
      have i1 : k < n := by omega
      obtain ⟨b', y, he, hy, hm, hnd⟩ := one_nd (k := k) HA.out HL.out HP.out.lo i1
      injection he with he
      injection he with he _ _
      subst he
      have hN := HOK.out.nodes k y hy
      obtain ⟨f0, f1, f2, f3, f4, f5, f6, f7⟩ := hnd.cells
      have HY := Lib.hid hy
      obtain ⟨⟨kind, cal, l, r, nn, m, list, name⟩, A', c'⟩ := y
      simp only at hN f0 f1 f2 f3 f4 f5 f6 f7
      obtain ⟨kd, hkd⟩ : ∃ kd, kind.toNat = kd := ⟨_, rfl⟩
      rw [hkd] at hN
      have hkk : kind = (kd : Int) := hN.kind
      subst hkk
      have hlen := hN.len
      have hk2 := hN.k2
      have HBV := Lib.hid (below_var wr (.cells #[I kd, I cal, I l, I r, I nn, I m, .slice A' list.length c', .string name] 75))
      have HPV := Lib.hid (HP.out.below HBV.out)
      have hbw := hnd.la
      have hs1 := HP.out.s1
      have hsz' := HP.out.sz
      have hne1 : ¬ b = wr.heap.size := by omega
      have hlk := run_look _ (w1.heap.size + 1 + 1) k HPV.out.mp
      have hkp : wr.cell? ⟨w1.heap.size + 1 + 1 + 1, 0, none⟩ = some (.map (some (w1.heap.size + 1 + 1))) := cell_of_row _ _ 0 _ _ _ HP.out.kp
      have hkv : (wr.alloc (.cells #[I kd, I cal, I l, I r, I nn, I m, .slice A' list.length c', .string name] 75)).cell? ⟨w1.heap.size + 1 + 1 + 1, 0, none⟩ = some (.map (some (w1.heap.size + 1 + 1))) := cell_of_row _ _ 0 _ _ _ HPV.out.kp
      have hne2 : ¬ w1.heap.size + 1 + 1 + 1 = wr.heap.size := by omega
      have hne3 : ¬ wr.heap.size = w1.heap.size + 1 + 1 + 1 := by omega
      have hne4 : ¬ w1.heap.size + 3 = wr.heap.size := by omega
      have HIA : Hid (IntsAt w w.heap.size A' list) := Lib.hid (rule_ints HA.out hy)
      clear hnd hm hy hkd hbw
      rcases hout with ⟨hk0, rfl⟩ | ⟨hk1, A2, c2, rfl⟩
      · have hkz : (k == 0) = true := by simp [hk0]
        rw [hkz] at hlk
        have HOP2 : Hid (opn kd = 0) := Lib.hid (by
          rcases hN.opl with ⟨_, h1, h2⟩ | ⟨h, _⟩
          · exact absurd h2 (by simp only; omega)
          · exact h)
        have hlen' : list.length ≤ 64 := hlen
        clear hN hlen hk0 hkz
        go_wp2_with fail
        refine (add_leaf kd cal l r nn m list name A' c' _ _ _ _ ((HIA.out.keep HPV.out.lo).more HPV.out.lo.size) hlen' (by omega) HOP2.out).mono ?_
        rintro e w5 ⟨A5, c5, rfl, hb5⟩
        have HP5 := Lib.hid (HPV.out.below hb5)
        obtain ⟨⟨v5, hv5⟩, hf5⟩ := HP5.out.place k i1
        have HP6 := Lib.hid (HP5.out.put k (I 0))
        clear hb5 hlk
        go_wp2_with fail
        go_roundw
        case rel => exact ⟨k + 1, by omega, by go_num, .inr ⟨by omega, _, _, rfl⟩, HP6.out⟩
        case measure => simp [intOf]; omega
      · have hkz : (k == 0) = false := by simp; omega
        rw [hkz] at hlk
        clear hN hlen hkz
        go_wp2_with fail
        go_roundw
        case rel => exact ⟨k + 1, by omega, by go_num, .inr ⟨by omega, _, _, rfl⟩, HPV.out⟩
        case measure => simp [intOf]; omega
    · go_wp2_with fail
      go_ret2
      exact ⟨⟨_, rfl⟩, HP.out.lo⟩
end Go.Proofs.YthhbbebabmemfaaGreat

/- A rule that was made is as rule.Valid asks for (plain). -/
namespace Go.Proofs.YthhbbebabmemfaaGreat
open Go Go.RowKit

def MvGood (m : Mv) : Prop := 0 ≤ m.day ∧ m.day ≤ 1099511627776 ∧ ((m.drop = true ∧ m.toDay = 0 ∧ m.minute = 0 ∧ m.length = 0) ∨ (m.drop = false ∧ 0 ≤ m.toDay ∧ m.toDay ≤ 1099511627776 ∧ 0 ≤ m.minute ∧ m.minute ≤ 1439 ∧ 1 ≤ m.length ∧ m.length ≤ 10080))
/-- A series whose other parts are sound. -/
structure SerGood (s : Ser) : Prop where
  mi : 0 ≤ s.minute ∧ s.minute ≤ 1439
  le : 1 ≤ s.length ∧ s.length ≤ 10080
  ga : 0 ≤ s.gap ∧ s.gap ≤ 2
  fo : 0 ≤ s.fold ∧ s.fold ≤ 2
  zo : 1 ≤ s.zone.size ∧ s.zone.size ≤ 32
  ml : s.moves.length ≤ 64
  mv : ∀ x ∈ s.moves, MvGood x
  up : s.moves.Pairwise fun a b => a.day < b.day
theorem Rising.upIn {a b lo hi : Int} {zs : List Int} (h : Rising a b zs) (h1 : lo ≤ a) (h2 : b ≤ hi) (h3 : lo < 0 → a < 0) : UpIn lo hi zs :=
  ⟨List.length_pos_iff.2 h.1, fun z hz => by have := h.2.2.2 z hz; omega, h.2.2.1, fun hl z hz => (h.2.2.2 z hz).2.2 (h3 hl)⟩
theorem Rising.len64 {a b : Int} {zs : List Int} (h : Rising a b zs) : zs.length ≤ 64 := by have := h.2.1; omega
theorem kindTo {d : Nd} {k : Nat} (h : d.kind = k) : d.kind.toNat = k := by omega
theorem numsOther {d : Nd} (k : Int) (hk : d.kind = k) (hne : k ≠ 1 ∧ k ≠ 2 ∧ k ≠ 7 ∧ k ≠ 11 ∧ k ≠ 12 ∧ k ≠ 13 ∧ k ≠ 16 ∧ k ≠ 17) (hn : d.n = 0) (hm : d.m = 0) : NumsOK d := by
  subst hk
  exact .inr (.inr (.inr (.inr (.inr (.inr (.inr ⟨hne.1, hne.2.1, hne.2.2.1, hne.2.2.2.1, hne.2.2.2.2.1, hne.2.2.2.2.2.1, hne.2.2.2.2.2.2.1, hne.2.2.2.2.2.2.2, hn, hm⟩))))))
set_option maxHeartbeats 1000000 in
theorem leaf_node (d : Nd) (h : LeafOK 3 d) : NodeOK 0 d.kind.toNat d := by
  obtain ⟨hr, h⟩ := h
  rcases h with ⟨hk, hc, hl, n1, n2, m1, m2, hL, hN⟩ | ⟨hk, c1, c2, hl, n1, n2, m1, m2, hL, hN⟩ | ⟨hk, c1, c2, hl, n1, m1, hL, hN⟩ | ⟨hk, c1, c2, hl, n1, m1, hL, hN⟩ | ⟨hk, hc, hl, n1, m1, hL, hN⟩ | ⟨hk, c1, c2, hl, n1, m1, hL, hN⟩ | ⟨hk, c1, c2, l1, l2, n1, m1, m2, hL, hN⟩ | ⟨hk, hc, hl, n1, m1, hL, k, k1, k2, hN⟩
  · rw [kindTo (k := 1) hk]
    exact ⟨hk, by decide, by decide, by rw [hL]; decide, .inr ⟨rfl, .inl hl⟩, .inr ⟨by decide, hr⟩, .inr ⟨rfl, hc⟩, .inr ⟨by decide, hN⟩, .inl ⟨rfl, rfl, hL⟩, .inl ⟨hk, by omega, by omega, by omega, by omega⟩⟩
  · rw [kindTo (k := 2) hk]
    exact ⟨hk, by decide, by decide, by rw [hL]; decide, .inr ⟨rfl, .inl hl⟩, .inr ⟨by decide, hr⟩, .inl ⟨rfl, by omega, by omega⟩, .inr ⟨by decide, hN⟩, .inl ⟨rfl, rfl, hL⟩, .inr (.inl ⟨hk, by omega, by omega, by omega, by omega⟩)⟩
  · rw [kindTo (k := 3) hk]
    exact ⟨hk, by decide, by decide, hL.len64, .inr ⟨rfl, .inl hl⟩, .inr ⟨by decide, hr⟩, .inl ⟨rfl, by omega, by omega⟩, .inr ⟨by decide, hN⟩, .inr ⟨.inl (by decide), hL.upIn (by decide) (by decide) (by decide)⟩, numsOther 3 hk (by decide) n1 m1⟩
  · rw [kindTo (k := 4) hk]
    exact ⟨hk, by decide, by decide, hL.len64, .inr ⟨rfl, .inl hl⟩, .inr ⟨by decide, hr⟩, .inl ⟨rfl, by omega, by omega⟩, .inr ⟨by decide, hN⟩, .inr ⟨.inl (by decide), hL.upIn (by decide) (by decide) (by decide)⟩, numsOther 4 hk (by decide) n1 m1⟩
  · rw [kindTo (k := 5) hk]
    exact ⟨hk, by decide, by decide, hL.len64, .inr ⟨rfl, .inl hl⟩, .inr ⟨by decide, hr⟩, .inr ⟨rfl, hc⟩, .inr ⟨by decide, hN⟩, .inr ⟨.inr (by decide), hL.upIn (by decide) (by decide) (by decide)⟩, numsOther 5 hk (by decide) n1 m1⟩
  · rw [kindTo (k := 6) hk]
    exact ⟨hk, by decide, by decide, hL.len64, .inr ⟨rfl, .inl hl⟩, .inr ⟨by decide, hr⟩, .inl ⟨rfl, by omega, by omega⟩, .inr ⟨by decide, hN⟩, .inr ⟨.inl (by decide), hL.upIn (by decide) (by decide) (by decide)⟩, numsOther 6 hk (by decide) n1 m1⟩
  · rw [kindTo (k := 7) hk]
    exact ⟨hk, by decide, by decide, by rw [hL]; decide, .inr ⟨rfl, .inr rfl⟩, .inr ⟨by decide, hr⟩, .inl ⟨rfl, by omega, by omega⟩, .inr ⟨by decide, hN⟩, .inl ⟨rfl, rfl, hL⟩, .inr (.inr (.inl ⟨hk, by omega, by omega, by omega, by omega, by omega, by omega, by omega⟩))⟩
  · rw [kindTo (k := 18) hk]
    exact ⟨hk, by decide, by decide, by rw [hL]; decide, .inr ⟨rfl, .inl hl⟩, .inr ⟨by decide, hr⟩, .inr ⟨rfl, hc⟩, .inl ⟨rfl, by rw [hN]; exact nameG_made k (by omega)⟩, .inl ⟨rfl, rfl, hL⟩, numsOther 18 hk (by decide) n1 m1⟩
set_option maxHeartbeats 1000000 in
theorem one_node (d : Nd) (h : OneOK 3 d) (n : Nat) (hn : 1 ≤ n) : NodeOK n d.kind.toNat { d with l := (n : Int) - 1 } := by
  obtain ⟨hr, hN, h⟩ := h
  rcases h with ⟨hk, hc, n1, n2, m1, hL⟩ | ⟨hk | hk, hc, n1, n2, m1, hL⟩ | ⟨hk | hk, hc, n1, m1, hL⟩ | ⟨hk, c1, c2, n1, m1, m2, hL⟩
  · rw [kindTo (k := 11) hk]
    exact ⟨hk, by decide, by decide, by show d.list.length ≤ 64; rw [hL]; decide, .inl ⟨by decide, by show 0 ≤ (n : Int) - 1; omega, by show (n : Int) - 1 < n; omega⟩, .inr ⟨by decide, hr⟩, .inr ⟨rfl, hc⟩, .inr ⟨by decide, hN⟩, .inl ⟨rfl, rfl, hL⟩, .inr (.inr (.inr (.inl ⟨hk, by show -1099511627776 ≤ d.n; omega, by show d.n ≤ 1099511627776; omega, m1⟩)))⟩
  · rw [kindTo (k := 12) hk]
    exact ⟨hk, by decide, by decide, by show d.list.length ≤ 64; rw [hL]; decide, .inl ⟨by decide, by show 0 ≤ (n : Int) - 1; omega, by show (n : Int) - 1 < n; omega⟩, .inr ⟨by decide, hr⟩, .inr ⟨rfl, hc⟩, .inr ⟨by decide, hN⟩, .inl ⟨rfl, rfl, hL⟩, .inr (.inr (.inr (.inr (.inl ⟨.inl hk, by show 0 ≤ d.n; omega, by show d.n ≤ 1099511627776; omega, m1⟩))))⟩
  · rw [kindTo (k := 13) hk]
    exact ⟨hk, by decide, by decide, by show d.list.length ≤ 64; rw [hL]; decide, .inl ⟨by decide, by show 0 ≤ (n : Int) - 1; omega, by show (n : Int) - 1 < n; omega⟩, .inr ⟨by decide, hr⟩, .inr ⟨rfl, hc⟩, .inr ⟨by decide, hN⟩, .inl ⟨rfl, rfl, hL⟩, .inr (.inr (.inr (.inr (.inl ⟨.inr hk, by show 0 ≤ d.n; omega, by show d.n ≤ 1099511627776; omega, m1⟩))))⟩
  · rw [kindTo (k := 14) hk]
    exact ⟨hk, by decide, by decide, hL.len64, .inl ⟨by decide, by show 0 ≤ (n : Int) - 1; omega, by show (n : Int) - 1 < n; omega⟩, .inr ⟨by decide, hr⟩, .inr ⟨rfl, hc⟩, .inr ⟨by decide, hN⟩, .inr ⟨.inr (by decide), hL.upIn (by decide) (by decide) (by decide)⟩, numsOther (d := { d with l := (n : Int) - 1 }) 14 hk (by decide) n1 m1⟩
  · rw [kindTo (k := 15) hk]
    exact ⟨hk, by decide, by decide, hL.len64, .inl ⟨by decide, by show 0 ≤ (n : Int) - 1; omega, by show (n : Int) - 1 < n; omega⟩, .inr ⟨by decide, hr⟩, .inr ⟨rfl, hc⟩, .inr ⟨by decide, hN⟩, .inr ⟨.inr (by decide), hL.upIn (by decide) (by decide) (by decide)⟩, numsOther (d := { d with l := (n : Int) - 1 }) 15 hk (by decide) n1 m1⟩
  · rw [kindTo (k := 16) hk]
    exact ⟨hk, by decide, by decide, hL.len64, .inl ⟨by decide, by show 0 ≤ (n : Int) - 1; omega, by show (n : Int) - 1 < n; omega⟩, .inr ⟨by decide, hr⟩, .inl ⟨rfl, by show 0 ≤ d.cal; omega, by show d.cal ≤ 2; omega⟩, .inr ⟨by decide, hN⟩, .inr ⟨.inl (by decide), hL.upIn (by decide) (by decide) (by decide)⟩, .inr (.inr (.inr (.inr (.inr (.inl ⟨hk, n1, m1, by show d.m ≤ 1; omega⟩)))))⟩
theorem two_node (d : Nd) (h : TwoOK d) (n m : Nat) (hn : 1 ≤ n) (hm : 1 ≤ m) : NodeOK (n + m) d.kind.toNat { d with l := (n : Int) - 1, r := (n : Int) + m - 1 } := by
  obtain ⟨hc, m1, hL, hN, h⟩ := h
  have key : ∀ k : Nat, (k = 8 ∨ k = 9 ∨ k = 10 ∨ k = 17) → d.kind = k → NumsOK { d with l := (n : Int) - 1, r := (n : Int) + m - 1 } → NodeOK (n + m) d.kind.toNat { d with l := (n : Int) - 1, r := (n : Int) + m - 1 } := by
    intro k hk4 hk hnums
    rw [kindTo (k := k) hk]
    have o : 1 < opn k ∧ calB k = false ∧ shLo k = 0 ∧ shHi k = 0 := by rcases hk4 with rfl | rfl | rfl | rfl <;> exact ⟨by decide, rfl, rfl, rfl⟩
    exact ⟨hk, by omega, by omega, by show d.list.length ≤ 64; rw [hL]; decide, .inl ⟨by have := o.1; omega, by show 0 ≤ (n : Int) - 1; omega, by show (n : Int) - 1 < ((n + m : Nat) : Int); omega⟩, .inl ⟨o.1, by show 0 ≤ (n : Int) + m - 1; omega, by show (n : Int) + m - 1 < ((n + m : Nat) : Int); omega⟩, .inr ⟨o.2.1, hc⟩, .inr ⟨by omega, hN⟩, .inl ⟨o.2.2.1, o.2.2.2, hL⟩, hnums⟩
  rcases h with ⟨hk | hk | hk, n1⟩ | ⟨hk, n1, n2⟩
  · exact key 8 (by omega) hk (numsOther (d := { d with l := (n : Int) - 1, r := (n : Int) + m - 1 }) 8 hk (by decide) n1 m1)
  · exact key 9 (by omega) hk (numsOther (d := { d with l := (n : Int) - 1, r := (n : Int) + m - 1 }) 9 hk (by decide) n1 m1)
  · exact key 10 (by omega) hk (numsOther (d := { d with l := (n : Int) - 1, r := (n : Int) + m - 1 }) 10 hk (by decide) n1 m1)
  · exact key 17 (by omega) hk (.inr (.inr (.inr (.inr (.inr (.inr (.inl ⟨hk, n1, by show d.n ≤ 400; omega, m1⟩)))))))
theorem kinds18 {k : Nat} (h1 : 1 ≤ k) (h2 : k ≤ 18) : k = 1 ∨ k = 2 ∨ k = 3 ∨ k = 4 ∨ k = 5 ∨ k = 6 ∨ k = 7 ∨ k = 8 ∨ k = 9 ∨ k = 10 ∨ k = 11 ∨ k = 12 ∨ k = 13 ∨ k = 14 ∨ k = 15 ∨ k = 16 ∨ k = 17 ∨ k = 18 := by omega
theorem opB_opn {k : Nat} (h1 : 1 ≤ k) (h2 : k ≤ 18) : opB (k : Int) = decide (0 < opn k) ∧ twoB (k : Int) = decide (1 < opn k) := by
  rcases kinds18 h1 h2 with rfl | rfl | rfl | rfl | rfl | rfl | rfl | rfl | rfl | rfl | rfl | rfl | rfl | rfl | rfl | rfl | rfl | rfl <;> exact ⟨by decide, by decide⟩
/-- A node that is moved by b nodes is right b places later. -/
theorem moved_node (b i : Nat) (y : NdV) (h : NodeOK i y.d.kind.toNat y.d) : NodeOK (b + i) (mvd b y).d.kind.toNat (mvd b y).d := by
  obtain ⟨h1, h2, h3, h4, h5, h6, h7, h8, h9, h10⟩ := h
  obtain ⟨e1, e2⟩ := opB_opn h2 h3
  rw [← h1] at e1 e2
  have ek : (mvd b y).d.kind = y.d.kind := rfl
  rw [ek]
  refine ⟨h1, h2, h3, h4, ?_, ?_, h7, h8, h9, ?_⟩
  · rcases h5 with ⟨a, c, d⟩ | ⟨a, c⟩
    · left
      refine ⟨a, ?_, ?_⟩ <;> (show _; unfold mvd; dsimp only; rw [e1, decide_eq_true a, if_pos rfl]; omega)
    · right
      refine ⟨a, ?_⟩
      have hd : decide (0 < opn y.d.kind.toNat) = false := decide_eq_false (by omega)
      unfold mvd; dsimp only; rw [e1, hd]
      simpa using c
  · rcases h6 with ⟨a, c, d⟩ | ⟨a, c⟩
    · left
      refine ⟨a, ?_, ?_⟩ <;> (show _; unfold mvd; dsimp only; rw [e2, decide_eq_true a, if_pos rfl]; omega)
    · right
      refine ⟨a, ?_⟩
      have hd : decide (1 < opn y.d.kind.toNat) = false := decide_eq_false (by omega)
      unfold mvd; dsimp only; rw [e2, hd]
      simpa using c
  · unfold NumsOK mvd at *
    dsimp only at *
    rcases h10 with h | h | h | h | h | h | h | h
    · exact .inl h
    · exact .inr (.inl h)
    · refine .inr (.inr (.inl ⟨h.1, h.2.1, h.2.2.1, h.2.2.2.1, h.2.2.2.2.1, h.2.2.2.2.2.1, ?_⟩))
      have : opB y.d.kind = false := by rw [h.1]; decide
      rw [this]
      exact h.2.2.2.2.2.2
    · exact .inr (.inr (.inr (.inl h)))
    · exact .inr (.inr (.inr (.inr (.inl h))))
    · exact .inr (.inr (.inr (.inr (.inr (.inl h)))))
    · exact .inr (.inr (.inr (.inr (.inr (.inr (.inl h))))))
    · exact .inr (.inr (.inr (.inr (.inr (.inr (.inr h))))))
/-- How often a node names place j. -/
def refsTo (d : Nd) (j : Nat) : Int := (if 0 < opn d.kind.toNat ∧ d.l.toNat = j then 1 else 0) + (if 1 < opn d.kind.toNat ∧ d.r.toNat = j then 1 else 0)
def refSum (ds : List Nd) (j : Nat) : Int := (ds.map fun d => refsTo d j).sum
theorem refSum_app (xs ys : List Nd) (j : Nat) : refSum (xs ++ ys) j = refSum xs j + refSum ys j := by unfold refSum; rw [List.map_append, List.sum_append]
theorem refSum_one (d : Nd) (j : Nat) : refSum [d] j = refsTo d j := by unfold refSum; simp
theorem bump_get (us : List Int) (i j : Nat) (hj : j < us.length) : (bump us i)[j]? = some (us[j]?.getD 0 + if i = j then 1 else 0) := by
  unfold bump
  by_cases h : i = j
  · subst h
    rw [List.getElem?_set_self hj, if_pos rfl]
  · rw [List.getElem?_set_ne h, if_neg h, List.getElem?_eq_getElem hj]
    simp
theorem bump_len (us : List Int) (i : Nat) : (bump us i).length = us.length := by unfold bump; simp
theorem use0_get (d : Nd) (us : List Int) (j : Nat) (hj : j < us.length) : (use0 d us)[j]? = some (us[j]?.getD 0 + if 0 < opn d.kind.toNat ∧ d.l.toNat = j then 1 else 0) := by
  unfold use0
  split
  · rename_i h
    rw [bump_get us _ j hj]
    simp [h]
  · rename_i h
    rw [List.getElem?_eq_getElem hj]
    simp [h]
theorem use0_len (d : Nd) (us : List Int) : (use0 d us).length = us.length := by unfold use0; split; exact bump_len _ _; rfl
theorem use1_get (d : Nd) (us : List Int) (j : Nat) (hj : j < us.length) : (use1 d us)[j]? = some (us[j]?.getD 0 + if 1 < opn d.kind.toNat ∧ d.r.toNat = j then 1 else 0) := by
  unfold use1
  split
  · rename_i h
    rw [bump_get us _ j hj]
    simp [h]
  · rename_i h
    rw [List.getElem?_eq_getElem hj]
    simp [h]
theorem usesTo_sum (ds : List Nd) (n j : Nat) (hj : j < n) (i : Nat) (hi : i ≤ ds.length) : (usesTo ds n i)[j]? = some (refSum (ds.take i) j) := by
  induction i with
  | zero => unfold usesTo refSum; simp [hj]
  | succ i ih =>
    have h := ih (by omega)
    have hx : ds[i]? = some ds[i] := List.getElem?_eq_getElem (by omega)
    have hl : j < (usesTo ds n i).length := by rw [usesTo_len]; exact hj
    rw [usesTo_succ hx, use1_get _ _ _ (by rw [use0_len]; exact hl), use0_get _ _ _ hl, h, List.take_add_one, hx, refSum_app]
    simp only [Option.getD_some, Option.toList_some, refSum_one]
    unfold refsTo
    congr 1
    omega
theorem refsTo_mv (b i : Nat) (y : NdV) (h : NodeOK i y.d.kind.toNat y.d) (j : Nat) : refsTo (mvd b y).d j = if b ≤ j then refsTo y.d (j - b) else 0 := by
  obtain ⟨h1, h2, h3, _, h5, h6, _⟩ := h
  obtain ⟨e1, e2⟩ := opB_opn h2 h3
  rw [← h1] at e1 e2
  have ek : (mvd b y).d.kind = y.d.kind := rfl
  unfold refsTo
  rw [ek]
  have el : (mvd b y).d.l = if opB y.d.kind = true then y.d.l + b else y.d.l := rfl
  have er : (mvd b y).d.r = if twoB y.d.kind = true then y.d.r + b else y.d.r := rfl
  rw [el, er, e1, e2]
  by_cases a : 0 < opn y.d.kind.toNat
  · by_cases c : 1 < opn y.d.kind.toNat
    · have q1 : 0 ≤ y.d.l := by rcases h5 with h | h <;> omega
      have q2 : 0 ≤ y.d.r := by rcases h6 with h | h <;> omega
      simp only [a, c, decide_true, if_true, true_and]
      split <;> split <;> split <;> (try split) <;> (try split) <;> omega
    · have q1 : 0 ≤ y.d.l := by rcases h5 with h | h <;> omega
      simp only [a, c, decide_true, if_true, true_and, false_and, if_false]
      split <;> split <;> (try split) <;> omega
  · have c : ¬ 1 < opn y.d.kind.toNat := by omega
    simp only [a, c, false_and, if_false]
    split <;> rfl
theorem refSum_mv (b : Nat) (ms : List NdV) (h : ∀ y ∈ ms, ∃ i, NodeOK i y.d.kind.toNat y.d) (j : Nat) : refSum ((movedN b ms).map (·.d)) j = if b ≤ j then refSum (ms.map (·.d)) (j - b) else 0 := by
  induction ms with
  | nil => unfold refSum movedN; simp
  | cons y ms ih =>
    have ih := ih fun z hz => h z (List.mem_cons_of_mem _ hz)
    obtain ⟨i, hy⟩ := h y List.mem_cons_self
    have e := refsTo_mv b i y hy j
    unfold movedN at ih ⊢
    unfold refSum at ih ⊢
    simp only [List.map_cons, List.sum_cons] at ih ⊢
    rw [ih, e]
    split <;> rfl
/-- The rules that a maker makes are well-formed. -/
theorem MRule.good {ns : List NdV} (h : MRule 3 ns) : 1 ≤ ns.length ∧ (∀ i x, ns[i]? = some x → NodeOK i x.d.kind.toNat x.d) ∧ ∀ j, refSum (ns.map (·.d)) j = if j + 1 < ns.length then 1 else 0 := by
  induction h with
  | leaf x h =>
    have hn := leaf_node x.d h
    refine ⟨by simp, fun i y hy => ?_, fun j => ?_⟩
    · cases i with
      | zero => simp at hy; subst hy; exact hn
      | succ i => simp at hy
    · rw [List.map_singleton, refSum_one]
      have ho : opn x.d.kind.toNat = 0 := by
        rcases hn.opl with ⟨_, a, b⟩ | h
        · omega
        · exact h.1
      unfold refsTo
      rw [ho]
      simp
  | one ns x _ h ih =>
    obtain ⟨i1, i2, i3⟩ := ih
    have hn := one_node x.d h ns.length i1
    refine ⟨by unfold overN; simp, fun i y hy => ?_, fun j => ?_⟩
    · unfold overN at hy
      by_cases hi : i < ns.length
      · rw [List.getElem?_append_left hi] at hy
        exact i2 i y hy
      · rw [List.getElem?_append_right (by omega)] at hy
        have : i - ns.length = 0 := by
          rcases Nat.eq_zero_or_pos (i - ns.length) with h | h
          · exact h
          · rw [List.getElem?_eq_none (by simp; omega)] at hy; cases hy
        rw [this] at hy
        simp at hy
        subst hy
        have e : i = ns.length := by omega
        rw [e]
        exact hn
    · unfold overN
      rw [List.map_append, refSum_app, i3 j, List.map_singleton, refSum_one, List.length_append]
      have o : opn x.d.kind.toNat = 1 := by
        rcases h.2.2 with h | h | h | h
        · rw [kindTo (k := 11) h.1]; rfl
        · rcases h.1 with h | h
          · rw [kindTo (k := 12) h]; rfl
          · rw [kindTo (k := 13) h]; rfl
        · rcases h.1 with h | h
          · rw [kindTo (k := 14) h]; rfl
          · rw [kindTo (k := 15) h]; rfl
        · rw [kindTo (k := 16) h.1]; rfl
      unfold refsTo
      dsimp only
      rw [o]
      simp only [List.length_singleton]
      split <;> split <;> split <;> (try split) <;> omega
  | two ns ms x _ _ h ih1 ih2 =>
    obtain ⟨i1, i2, i3⟩ := ih1
    obtain ⟨m1, m2, m3⟩ := ih2
    have hn := two_node x.d h ns.length ms.length i1 m1
    have hm : ∀ y ∈ ms, ∃ i, NodeOK i y.d.kind.toNat y.d := fun y hy => by
      obtain ⟨i, hi⟩ := List.mem_iff_getElem?.1 hy
      exact ⟨i, m2 i y hi⟩
    refine ⟨by unfold bothN; simp; omega, fun i y hy => ?_, fun j => ?_⟩
    · unfold bothN at hy
      by_cases hi : i < ns.length
      · rw [List.append_assoc, List.getElem?_append_left hi] at hy
        exact i2 i y hy
      · by_cases hj : i < ns.length + ms.length
        · rw [List.append_assoc, List.getElem?_append_right (by omega), List.getElem?_append_left (by unfold movedN; rw [List.length_map]; omega)] at hy
          unfold movedN at hy
          rw [List.getElem?_map] at hy
          obtain ⟨z, hz, rfl⟩ := Option.map_eq_some_iff.1 hy
          have := moved_node ns.length (i - ns.length) z (m2 _ z hz)
          rw [show ns.length + (i - ns.length) = i by omega] at this
          exact this
        · have e : (ns ++ movedN ns.length ms).length = ns.length + ms.length := by unfold movedN; simp
          rw [List.getElem?_append_right (by omega), e] at hy
          have : i - (ns.length + ms.length) = 0 := by
            rcases Nat.eq_zero_or_pos (i - (ns.length + ms.length)) with h | h
            · exact h
            · rw [List.getElem?_eq_none (by simp; omega)] at hy; cases hy
          rw [this] at hy
          simp at hy
          subst hy
          have e : i = ns.length + ms.length := by omega
          rw [e]
          exact hn
    · unfold bothN
      have o : opn x.d.kind.toNat = 2 := by
        rcases h.2.2.2.2 with ⟨h | h | h, _⟩ | ⟨h, _⟩
        · rw [kindTo (k := 8) h]; rfl
        · rw [kindTo (k := 9) h]; rfl
        · rw [kindTo (k := 10) h]; rfl
        · rw [kindTo (k := 17) h]; rfl
      rw [List.map_append, List.map_append, refSum_app, refSum_app, i3 j, refSum_mv _ _ hm, m3, List.map_singleton, refSum_one, List.length_append, List.length_append]
      have e : (movedN ns.length ms).length = ms.length := by unfold movedN; simp
      rw [e]
      unfold refsTo
      dsimp only
      rw [o]
      simp only [List.length_singleton]
      by_cases c1 : j + 1 < ns.length
      · rw [if_pos c1, if_neg (by omega), if_neg (by omega), if_neg (by omega), if_pos (by omega)]; rfl
      · by_cases c2 : j + 1 = ns.length
        · rw [if_neg c1, if_neg (by omega), if_pos (by omega), if_neg (by omega), if_pos (by omega)]; rfl
        · by_cases c3 : j + 1 < ns.length + ms.length
          · rw [if_neg c1, if_pos (by omega), if_pos (by omega), if_neg (by omega), if_neg (by omega), if_pos (by omega)]; rfl
          · by_cases c4 : j + 1 = ns.length + ms.length
            · rw [if_neg c1, if_pos (by omega), if_neg (by omega), if_neg (by omega), if_pos (by omega), if_pos (by omega)]; rfl
            · rw [if_neg c1, if_pos (by omega), if_neg (by omega), if_neg (by omega), if_neg (by omega), if_neg (by omega)]; rfl
theorem MRule.ruleOK {ns : List NdV} (h : MRule 3 ns) (hl : ns.length ≤ 16) : RuleOK ns := by
  obtain ⟨h1, h2, h3⟩ := h.good
  refine ⟨h1, by omega, h2, fun j hj => ?_⟩
  rw [usesTo_sum _ _ _ (by omega) _ (by simp), List.take_of_length_le (by simp), h3 j, if_pos hj]
end Go.Proofs.YthhbbebabmemfaaGreat
