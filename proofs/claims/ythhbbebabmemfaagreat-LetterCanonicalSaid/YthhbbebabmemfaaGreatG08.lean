/- The texts DirsP, RsE, RsA, RsN, RsP, RsF, RsG, RsS, RsD, RsM, RsQ, RsX, in this order. -/
import Derived.Test.YthhbbebabmemfaaGreatG07
import Derived.BigQuiet
import Derived.Deep.AppendLies
import Derived.Deep.CutBlock
import Derived.Deep.DeepCutAuto
import Derived.Deep.DrawnRows
import Derived.Deep.MidRow
import Derived.Deep.QuietTactic
import Derived.Deep.RegionHeld3
import Derived.Deep.RegionLaw
import Derived.Deep.WholeRow
import Derived.Great.BuildSlice
import Derived.Laws.AppendOwnNone
import Derived.Laws.BytesString
import Derived.Laws.CopyOwn
import Derived.Laws.Cover3
import Derived.Laws.EntriesVeiled
import Derived.Laws.MakeOwn
import Derived.Laws.ResultCell
import Derived.Laws.Rows
import Derived.Laws.Tables
import Derived.Lib.AppendStr
import Derived.Lib.Hide
import Derived.LoopIn
import Derived.LoopNIn
import Derived.MapKept
import Derived.Maps.AppendAt
import Derived.Outline
import Derived.OwnWalkIn
import Derived.RangeFuncBound
import Derived.RangeFuncBox
import Derived.RangeFuncCalls
import Derived.RangeFuncLeaves
import Derived.RangeFuncNested
import Derived.Shelf.Abstract
import Derived.Shelf.Bytes.SlSmallAll
import Derived.Shelf.RegionOpen
import Derived.StillTailTactics
import Derived.Stop.BytesEq
import Derived.TacticsInMore
import Derived.WalkKit
import Derived.WalkLawsBesides
import Derived.WalkSpells
import Derived.Test.YthhbbebabmemfaaGreatBytesEq
import Derived.Test.YthhbbebabmemfaaGreatG04
import Derived.Laws.BitsAllLaws
import Derived.Laws.BytesArg
import Derived.Test.YthhbbebabmemfaaGreatPm
import Derived.Test.YthhbbebabmemfaaGreatBack
import Derived.Test.YthhbbebabmemfaaGreatWriters
import Derived.Test.YthhbbebabmemfaaGreatReadNum
import Derived.Test.YthhbbebabmemfaaGreatG03
import Derived.Defers
import Derived.Lib.ByteType
import Derived.Recover
/- LetterDirection: the plain part, and words for the walk. -/
namespace Go.Proofs.YthhbbebabmemfaaGreat
open Go Go.RowKit

section
variable {P : Program} {ops : Array Oper} {o : Oper} {a : Act} {w : World} {K : Act → World → Prop} {Q : Exit → Act → World → Prop} {E : Prop}
/-- An alloc, as a step of a region that draws. -/
theorem step_alloc_as (hgd : o.guard = none) (t : TypeId) (ho : o.op = .alloc t) (cells : Array Value) (hz : (P.info? t).map (fun i => (i.zero, i.size)) = some (some (.agg cells), cells.size))
    (h : K (a.put o.dst (.pointer (some ⟨w.heap.size, 0, none⟩))) (w.alloc (.cells cells t))) : if Region.wanted o (yielded ops a.tmps) = true then Oper.wp P o a w K Q else E := by
  have hw : Region.wanted o (yielded ops a.tmps) = true := by simp [Region.wanted, hgd]
  rw [if_pos hw]
  unfold Oper.wp execOp
  simp only [ho, Sem.run_bind, run_alloc_var w t (.agg cells) _ hz, Result.andThen_ok]
  exact h
/-- A whole row stored, as a step of a region that draws. -/
theorem step_store_row (hgd : o.guard = none) (ty : TypeId) (x y : Operand) (ho : o.op = .store ty x y) (g : Nat) (cells : Array Value) (hx : a.eval x = .pointer (some ⟨g, 0, none⟩)) (hy : a.eval y = .agg cells)
    (t : TypeId) (old : Array Value) (hg : w.heap[g]? = some (.cells old t (0, 0))) (hi : (P.info? ty).map (·.size) = some cells.size) (hold : old.size = cells.size) (h1 : cells.all (·.oneCell') = true)
    (h : K (a.put o.dst undef) (w.setRow g cells)) : if Region.wanted o (yielded ops a.tmps) = true then Oper.wp P o a w K Q else E := by
  have hw : Region.wanted o (yielded ops a.tmps) = true := by simp [Region.wanted, hgd]
  rw [if_pos hw]
  exact wp_store_row ty x y ho g cells hx hy t old hg hi hold h1 h
end
/-- The pair's box and what was there before. -/
structure XS (w : World) (bc : Array Value) (W : World) : Prop where
  bx : Row W w.heap.size bc
  lo : Below w.heap.size w W
theorem XS.below {w W W' : World} {bc : Array Value} (h : XS w bc W) (hb : Below W.heap.size W W') : XS w bc W' := ⟨h.bx.keep hb, below_trans h.lo hb⟩
theorem XS.drew {w W : World} {bc : Array Value} (h : XS w bc W) : XS w bc W.drew := h.below (Below.refl _ W).drew
theorem XS.alloc {w W : World} {bc : Array Value} (h : XS w bc W) (o : Obj) : XS w bc (W.alloc o) := h.below (below_var W o)
theorem XS.row {w W : World} {bc : Array Value} (h : XS w bc W) (b : Nat) (ds : Array Value) (hb : w.heap.size < b) : XS w bc (W.setRow b ds) :=
  ⟨⟨by simpa using h.bx.1, fun i => (World.cell?_of_block (a := ⟨w.heap.size, i, none⟩) (setRow_other W b w.heap.size ds (by omega))).trans (h.bx.2 i)⟩, below_setRow h.lo (by omega) _⟩
/-- Behind the law's second statement: the letter's variable. -/
def DCut (w : World) (x : Int) (p : Value) (wx : World) : Prop :=
  ∃ (l : Lt) (s : Sl) (ns : List NdV) (k lo lb : Nat), p = pt lb ∧ MadeLt l ns ∧ k < 17 ∧ LtMem lo wx l s ns ∧ 0 < lo ∧ wx.heap[lb]? = some (.cells (ltVal (setNum l k x) s) 37 (0, 0)) ∧ Below w.heap.size w wx
theorem dcut_mk {w W : World} {l : Lt} {s : Sl} {ns : List NdV} {k lo : Nat} {x : Int} {bc : Array Value} {z : Array Value} (hml : MadeLt l ns) (hk : k < 17) (hm : LtMem lo W l s ns) (hlo : 0 < lo) (hS : XS w bc W) :
    DCut w x (pt W.heap.size) ((W.alloc (.cells z 37)).setRow W.heap.size (ltVal (setNum l k x) s)) := by
  have hb : Below W.heap.size W ((W.alloc (.cells z 37)).setRow W.heap.size (ltVal (setNum l k x) s)) := below_setRow (below_var W _) (Nat.le_refl _) _
  exact ⟨l, s, ns, k, lo, W.heap.size, rfl, hml, hk, hm.grow hb hlo, hlo, setRow_heap _ _ _ _ _ _ (heap_alloc_last W _), below_trans hS.lo hb⟩
/-- A letter's variable. -/
structure Lv (b : Nat) (cs : Array Value) (W : World) : Prop where
  var : W.heap[b]? = some (.cells cs 37 (0, 0))
section
variable {b g : Nat} {cs : Array Value} {W W' : World}
theorem Lv.lt (h : Lv b cs W) : b < W.heap.size := (Array.getElem?_eq_some_iff.1 h.var).1
theorem Lv.cell (h : Lv b cs W) : ∀ i, W.cell? ⟨b, i, none⟩ = cs[i]? := fun i => cell_of_row W _ i _ _ _ h.var
theorem Lv.froz (h : Lv b cs W) : ∀ i, W.frozen? ⟨b, i, none⟩ = false := fun i => frozen_of_row W _ i _ _ h.var
theorem Lv.row (h : Lv b cs W) : Row W b cs := ⟨h.lt, h.cell⟩
theorem Lv.below (h : Lv b cs W) (hb : Below W.heap.size W W') : Lv b cs W' := ⟨(hb.block _ h.lt).trans h.var⟩
theorem Lv.put (h : Lv b cs W) (o : Nat) (v : Value) : Lv b (cs.setIfInBounds o v) (W.setCell ⟨b, o, none⟩ v) := ⟨heap_setCell_same W _ o _ _ _ h.var⟩
theorem Lv.far (h : Lv b cs W) (hn : b ≠ g) (o : Nat) (v : Value) : Lv b cs (W.setCell ⟨g, o, none⟩ v) := ⟨(heap_setCell_other W _ b v hn).trans h.var⟩
theorem Lv.new (W : World) (cs : Array Value) : Lv W.heap.size cs (W.alloc (.cells cs 37)) := ⟨heap_alloc_last W _⟩
end
/-- The three letters, as they lie. -/
structure DS (wc : World) (lb : Nat) (L M F : Lt) (s : Sl) (W : World) : Prop where
  l : Lv lb (ltVal L s) W
  m : Lv wc.heap.size (ltVal M s) W
  f : Lv (wc.heap.size + 1) (ltVal F s) W
  up : Below wc.heap.size wc W
theorem DS.below {wc W W' : World} {lb : Nat} {L M F : Lt} {s : Sl} (h : DS wc lb L M F s W) (hb : Below W.heap.size W W') : DS wc lb L M F s W' := ⟨h.l.below hb, h.m.below hb, h.f.below hb, below_trans h.up hb⟩
def turned (L : Lt) : Lt := { L with src := L.dst, dst := L.src }
def toSelf (L : Lt) : Lt := { L with dst := L.src }
theorem ds_start (wc : World) (lb : Nat) (L : Lt) (s : Sl) (h : Lv lb (ltVal L s) wc) :
    DS wc lb L (turned L) (toSelf L) s (((((wc.alloc (.cells (ltVal L s) 37)).setCell ⟨wc.heap.size, 1, none⟩ (I L.dst)).setCell ⟨wc.heap.size, 2, none⟩ (I L.src)).alloc (.cells (ltVal L s) 37)).setCell ⟨wc.heap.size + 1, 2, none⟩ (I L.src)) := by
  have hlt := h.lt
  have u4 := below_var wc (.cells (ltVal L s) 37)
  have l4 := h.below u4
  have m4 := Lv.new wc (ltVal L s)
  have l5 := (l4.far (g := wc.heap.size) (by omega) 1 (I L.dst)).far (g := wc.heap.size) (by omega) 2 (I L.src)
  have m5 := (m4.put 1 (I L.dst)).put 2 (I L.src)
  rw [put_src, put_dst] at m5
  have u5 := (u4.setCell (p := ⟨wc.heap.size, 1, none⟩) (Nat.le_refl _) (I L.dst)).setCell (p := ⟨wc.heap.size, 2, none⟩) (Nat.le_refl _) (I L.src)
  obtain ⟨W5, hW5⟩ : ∃ W, ((wc.alloc (.cells (ltVal L s) 37)).setCell ⟨wc.heap.size, 1, none⟩ (I L.dst)).setCell ⟨wc.heap.size, 2, none⟩ (I L.src) = W := ⟨_, rfl⟩
  have hs5 : W5.heap.size = wc.heap.size + 1 := by rw [← hW5]; simp [World.setCell]
  rw [hW5] at l5 m5 u5 ⊢
  have u6 := below_var W5 (.cells (ltVal L s) 37)
  have f6 := Lv.new W5 (ltVal L s)
  rw [hs5] at f6
  have l6 := l5.below u6
  have m6 := m5.below u6
  refine ⟨l6.far (by omega) _ _, m6.far (by omega) _ _, ?_, (below_trans u5 u6).setCell (p := ⟨wc.heap.size + 1, 2, none⟩) (Nat.le_succ _) _⟩
  have := f6.put 2 (I L.src)
  rw [put_dst] at this
  exact this
theorem turned_head {L : Lt} (h : headOK L = true) : headOK (turned L) = true := by
  unfold headOK turned at *
  simp only [Bool.and_eq_true, decide_eq_true_eq] at *
  obtain ⟨⟨⟨h1, h2⟩, h3⟩, h4⟩ := h
  exact ⟨⟨⟨h1, h3⟩, h2⟩, fun e => h4 e.symm⟩
theorem self_head (L : Lt) : headOK (toSelf L) = false := by
  unfold headOK toSelf
  simp
theorem turned_nums (L : Lt) (b : Bool) : vNums (turned L) b = vNums L b := by
  have h1 : numOK (turned L) b = numOK L b := funext fun k => rfl
  unfold vNums
  rw [h1]
  rfl
theorem turned_oth (L : Lt) : oth (turned L) = oth L := by
  have h1 : ∀ z, vChange (turned L) z = vChange L z := fun z => by unfold vChange; rfl
  unfold oth vOthers
  simp only [h1]
  rfl
theorem turned_body (L : Lt) : bodyOK (turned L) = bodyOK L := by
  unfold bodyOK
  rw [turned_nums, turned_oth]
  rfl
theorem turned_nos (L : Lt) : noSerB (turned L) = noSerB L := by unfold noSerB; rfl
theorem turned_nz (L : Lt) : nzOf (turned L) = nzOf L := by unfold nzOf; rfl
theorem turned_vc {L : Lt} (h : headOK L = true) : vc (turned L) = vc L := by
  unfold vc
  rw [turned_head h, h, turned_body, turned_nos, turned_nz]
theorem self_vc (L : Lt) : vc (toSelf L) = 1 := by
  unfold vc
  rw [if_pos (self_head L)]
theorem turned_flds (L : Lt) (sb : List UInt8) (k : Nat) : fldsTo (turned L) sb k = fldsTo L sb k := by
  induction k with
  | zero => rfl
  | succ k ih =>
    have h1 : fldBytes (turned L) sb k = fldBytes L sb k := by unfold fldBytes; rfl
    have h2 : (turned L).kind = L.kind := rfl
    unfold fldsTo
    rw [ih, h1, h2]
theorem cellBytes3 (a b c : Int) : cellBytes [a, b, c] = [byteOf a, byteOf b, byteOf c] := rfl
/-- The encodings: the first one, the two servers, the rest. -/
theorem lt_split (L : Lt) : ∃ R, ltBytes L (sbOf L) = byteOf L.kind :: byteOf L.src :: byteOf L.dst :: R ∧ ltBytes (turned L) (sbOf (turned L)) = byteOf L.kind :: byteOf L.dst :: byteOf L.src :: R := by
  have h1 : sbOf (turned L) = sbOf L := by unfold sbOf; rw [turned_nz]; rfl
  have h2 := turned_flds L (sbOf L) 17
  obtain ⟨R, hR⟩ : ∃ R, fldsTo L (sbOf L) 17 = R := ⟨_, rfl⟩
  rw [hR] at h2
  refine ⟨R, ?_, ?_⟩
  · unfold ltBytes hdBytes
    rw [hR, cellBytes3]
    rfl
  · unfold ltBytes hdBytes
    rw [h1, h2, cellBytes3]
    rfl
theorem VarOf.turn {l L : Lt} (h : VarOf l L) : VarOf l (turned L) := ⟨h.ser, h.cells, h.ref⟩
theorem VarOf.self {l L : Lt} (h : VarOf l L) : VarOf l (toSelf L) := ⟨h.ser, h.cells, h.ref⟩
theorem VarOf.num {l : Lt} {ns : List NdV} (hl : MadeLt l ns) (k : Nat) (x : Int) : VarOf l (setNum l k x) := ⟨setNum_series _ _ _, setNum_cellsL _ _ _, by rw [setNum_ref]; exact hl.ref⟩
theorem turn_at (a b c : UInt8) (R : List UInt8) (j : Nat) (hj : j < R.length + 3) : ∃ p q, (a :: b :: c :: R)[j]? = some p ∧ (a :: c :: b :: R)[j]? = some q ∧ (j = 1 ∨ j = 2 ∨ p = q) := by
  match j, hj with
  | 0, _ => exact ⟨a, a, rfl, rfl, .inr (.inr rfl)⟩
  | 1, _ => exact ⟨b, c, rfl, rfl, .inl rfl⟩
  | 2, _ => exact ⟨c, b, rfl, rfl, .inr (.inl rfl)⟩
  | i + 3, h =>
    have hx : R[i]? = some R[i] := List.getElem?_eq_getElem (by omega)
    exact ⟨R[i], R[i], hx, hx, .inr (.inr rfl)⟩
/-- Bytes in a row, as cells. -/
theorem bytes_cell {w : World} {base g n cap : Nat} {bs : List UInt8} (h : w.ownsRow base 5 1 (.slice (some ⟨g, 0, none⟩) n cap) n (bs.map Extern.Stop.cell)) (k : Nat) (c : UInt8) (hk : bs[k]? = some c) : w.cell? ⟨g, k, none⟩ = some (.int .u8 c.toNat) := by
  have := h.cells (g := g) rfl k (Extern.Stop.cell c) (by rw [List.getElem?_map, hk]; rfl)
  rw [addr_add] at this
  exact this
end Go.Proofs.YthhbbebabmemfaaGreat

/- slices.Clone and slices.Equal of bytes. -/
namespace Go.Proofs.YthhbbebabmemfaaGreat
open Go Go.RowKit Go.WideShapes

theorem own_noneB (w : World) : (w.alloc (.cells #[] 5)).ownsRow w.heap.size 5 1 (.slice (some ⟨w.heap.size, 0, none⟩) 0 0) 0 [] :=
  ⟨rfl, .inr ⟨w.heap.size, 0, #[], rfl, Nat.le_refl _, heap_alloc_last w _, Nat.le_refl _, Nat.zero_le _, rfl, rfl⟩⟩
def ClB (w : World) (bs : List UInt8) (e : Ending) (w' : World) : Prop :=
  ∃ g c, e = .returned (.slice (some ⟨g, 0, none⟩) bs.length c) ∧ w'.ownsRow w.heap.size 5 1 (.slice (some ⟨g, 0, none⟩) bs.length c) bs.length (bs.map Extern.Stop.cell) ∧ Below w.heap.size w w'
set_option maxRecDepth 10000 in
set_option maxHeartbeats 2000000 in
theorem cloneB_some (b off c : Nat) (bs : List UInt8) (n : Nat) (w : World) (hA : ∀ j, j < n → w.cell? ⟨b, off + j, none⟩ = some (Extern.Stop.cell (bs[j]?.getD 0))) (hb : b < w.heap.size) (hl : bs.length = n) (h0 : 0 < n) (hn : n ≤ 10000000) :
    Calls Tryz.prog 64 #[.slice (some ⟨b, off, none⟩) n c] w (ClB w bs) := by
  have HN : Hid (∀ j u, (bs.map Extern.Stop.cell)[j]? = some u → (w.alloc (.cells #[] 5)).cell? ((⟨b, off, none⟩ : Addr).add j) = some u) := Lib.hid fun j u hu => by
    rw [List.getElem?_map] at hu
    obtain ⟨z, hz, rfl⟩ := Option.map_eq_some_iff.1 hu
    have hj : j < bs.length := (List.getElem?_eq_some_iff.1 hz).1
    rw [add_plain, World.cell?_of_block (Below.heap_alloc w _ b hb), hA j (by omega), hz]; rfl
  have HO := Lib.hid (own_noneB w)
  have HL := Lib.hid hl
  have HB := Lib.hid (below_var w (.cells #[] 5))
  obtain ⟨i0, hi, hz0, hz1, hz2⟩ := info_parts info_u8
  have HI := Lib.hid hi
  have HZ0 := Lib.hid hz0
  have HZ1 := Lib.hid hz1
  have HZ2 := Lib.hid hz2
  have heq : ∀ W, (binOp .eql 22 (.slice (some ⟨b, off, none⟩) n c) (.slice none 0 0)).run Tryz.prog W = .ok (.bool false) W := fun W => by simp [binOp, run_equal_slice_nil W 22 5 (some ⟨b, off, none⟩) n c Tryz.underlying22]
  clear hA hl hi hz0 hz1 hz2
  go_enter Tryz.func64, Tryz.ntmps64
  go_wp2_with (at_builtin; refine wpList_append_own_at _ rfl _ _ 22 rfl w.heap.size 5 i0 (.int .u8 0) 1 1 Tryz.underlying22 HI.out HZ0.out HZ1.out HZ2.out rfl (by decide) _ 0 [] rfl HO.out ⟨b, off, none⟩ n c (bs.map Extern.Stop.cell) rfl (by rw [List.length_map, HL.out]; omega) HN.out (by intro u hu; obtain ⟨z, _, rfl⟩ := List.mem_map.1 hu; rfl) (by unfold maxLen; omega) (by omega) (by simp) ?_)
  intro v' w' hown hg _ _
  have HB2 := Lib.hid (below_grown HB.out HO.out (by simp) hg)
  obtain ⟨g, cap, rfl, _⟩ := own_form hown h0
  have HOW := Lib.hid hown
  clear hown hg
  go_wp2_with fail
  go_ret
  exact ⟨g, cap, by rw [HL.out]; rfl, by rw [HL.out]; exact HOW.out, HB2.out⟩
set_option maxRecDepth 10000 in
set_option maxHeartbeats 1000000 in
theorem eqBs_some (b1 o1 b2 o2 n c d : Nat) (xs : List UInt8) (hx : xs.length = n) (w : World) (hA : ∀ j, j < n → w.cell? ⟨b1, o1 + j, none⟩ = some (Extern.Stop.cell (xs[j]?.getD 0))) (hB : ∀ j, j < n → w.cell? ⟨b2, o2 + j, none⟩ = some (Extern.Stop.cell (xs[j]?.getD 0))) (hn : n ≤ 140737488355328) :
    Calls Tryz.prog 70 #[.slice (some ⟨b1, o1, none⟩) n c, .slice (some ⟨b2, o2, none⟩) n d] w (Gives (.bool true) w) := by
  have hb : ((n : Int) != (n : Int)) = false := by rw [neq_dec]; exact decide_eq_false (by omega)
  have HX := Lib.hid hx
  have HA := Lib.hid hA
  have HB := Lib.hid hB
  clear hx hA hB
  go_enter Tryz.func70, Tryz.ntmps70
  go_wp2
  go_loopw [13] (fun i wr => SameRel n xs xs i ∧ ∃ q, wr = w.drewN q) (fun i _ => n - (intOf i).toNat)
  case atStart => exact ⟨⟨0, Nat.zero_le _, rfl, fun j hj => absurd hj (by omega)⟩, 0, rfl⟩
  case round =>
    obtain ⟨⟨k, hk, rfl, hall⟩, q, rfl⟩ := hrel
    clear hall
    by_cases hlt : k < n
    · have h1 := HA.out k hlt
      have h2 := HB.out k hlt
      obtain ⟨x, hx⟩ : ∃ x, xs[k]?.getD 0 = x := ⟨_, rfl⟩
      rw [hx] at h1 h2
      rw [cell_int] at h1 h2
      clear hx
      have i0 : (0 : Int) ≤ (k : Int) := by omega
      have i1 : (k : Int) < (n : Int) := by omega
      have hne := cells_same x
      go_wp2
      go_quiet (fail)
      go_wp2
      go_roundw
      case rel => exact ⟨⟨k + 1, by omega, by go_num, fun j hj => rfl⟩, _, rfl⟩
      case measure => simp [intOf]; omega
    · go_wp2
      go_ret
      exact ⟨rfl, below_drewN' _ _⟩
end Go.Proofs.YthhbbebabmemfaaGreat

/- (*series.reader).bytes where the bytes are there. -/
namespace Go.Proofs.YthhbbebabmemfaaGreat
open Go Go.RowKit

/-- The series' reader at block rb: the bytes that are left. -/
def SRd (w : World) (rb : Nat) (rest : List UInt8) : Prop :=
  ∃ bb off c, w.heap[rb]? = some (.cells #[.slice (some ⟨bb, off, none⟩) rest.length c] 119 (0, 0)) ∧ rest.length ≤ c ∧ c ≤ 9223372036854775807 ∧ bb < rb ∧ ∀ j, j < rest.length → w.cell? ⟨bb, off + j, none⟩ = some (Extern.Stop.cell (rest[j]?.getD 0))
theorem SRd.lt {w : World} {rb : Nat} {rest : List UInt8} (h : SRd w rb rest) : rb < w.heap.size := by
  obtain ⟨bb, off, c, h1, _⟩ := h
  exact (Array.getElem?_eq_some_iff.1 h1).1
theorem SRd.below {M : Nat} {w w' : World} {rb : Nat} {rest : List UInt8} (h : SRd w rb rest) (hb : Below M w w') (hM : rb < M) : SRd w' rb rest := by
  obtain ⟨bb, off, c, h1, h2, h3, h4, h5⟩ := h
  exact ⟨bb, off, c, (hb.block rb hM).trans h1, h2, h3, h4, fun j hj => (World.cell?_of_block (a := ⟨bb, off + j, none⟩) (hb.block bb (by omega))).trans (h5 j hj)⟩
def GotB (w : World) (rb n : Nat) (rest : List UInt8) (e : Ending) (w' : World) : Prop :=
  ∃ bb off c, e = .returned (.slice (some ⟨bb, off, none⟩) n c) ∧ n ≤ c ∧ c ≤ 9223372036854775807 ∧ BytesAt w' rb (some ⟨bb, off, none⟩) (rest.take n) ∧ SRd w' rb (rest.drop n) ∧ MKeep rb w w'
def GotBytes (w : World) (rb n : Nat) (rest : List UInt8) (e : Ending) (w' : World) : Prop :=
  ∃ A c, e = .returned (.slice A n c) ∧ n ≤ c ∧ c ≤ 9223372036854775807 ∧ BytesAt w' rb A (rest.take n) ∧ SRd w' rb (rest.drop n) ∧ MKeep rb w w'
theorem rd_set {w : World} {rb bb off' c' n : Nat} {rest : List UInt8} {v : Value} (_hl : n ≤ rest.length) (h1 : w.heap[rb]? = some (.cells #[v] 119 (0, 0))) (h2 : rest.length - n ≤ c') (h3 : c' ≤ 9223372036854775807) (h4 : bb < rb)
    (h5 : ∀ j, j < (rest.drop n).length → w.cell? ⟨bb, off' + j, none⟩ = some (Extern.Stop.cell ((rest.drop n)[j]?.getD 0))) :
    SRd (w.setCell ⟨rb, 0, none⟩ (.slice (some ⟨bb, off', none⟩) (rest.length - n) c')) rb (rest.drop n) ∧ MKeep rb w (w.setCell ⟨rb, 0, none⟩ (.slice (some ⟨bb, off', none⟩) (rest.length - n) c')) := by
  have hd : (rest.drop n).length = rest.length - n := List.length_drop
  refine ⟨⟨bb, off', c', ?_, by omega, h3, h4, fun j hj => ?_⟩, ⟨rfl, rfl, rfl, by simp [World.setCell], fun k _ hk => heap_setCell_other w ⟨rb, 0, none⟩ k _ hk⟩⟩
  · rw [heap_setCell_same w rb 0 _ _ _ h1, hd]; rfl
  · exact (World.cell?_of_block (a := ⟨bb, off' + j, none⟩) (heap_setCell_other w ⟨rb, 0, none⟩ bb _ (by show bb ≠ rb; omega))).trans (h5 j hj)
set_option maxRecDepth 10000 in
set_option maxHeartbeats 1000000 in
theorem rbytes_some (w : World) (rb n : Nat) (rest : List UInt8) (hr : SRd w rb rest) (hn : n ≤ rest.length) :
    Calls Tryz.prog 84 #[.pointer (some ⟨rb, 0, none⟩), I n] w (GotB w rb n rest) := by
  obtain ⟨bb, off, c, h1, h2, h3, h4, h5⟩ := hr
  have hc0 : w.cell? ⟨rb, 0, none⟩ = some (.slice (some ⟨bb, off, none⟩) rest.length c) := cell_of_row w rb 0 _ _ _ h1
  have hf0 := frozen_of_row w rb 0 _ _ h1
  have n0 : ¬ (n : Int) < 0 := by omega
  obtain ⟨m, hm⟩ : ∃ m, rest.length = m := ⟨_, rfl⟩
  have HM := Lib.hid hm
  have HT : Hid (BytesAt w rb (some ⟨bb, off, none⟩) (rest.take n)) := Lib.hid (by
    by_cases h0 : n = 0
    · exact .inl (by rw [h0]; simp)
    · refine .inr ⟨bb, off, rfl, h4, fun j hj => ?_⟩
      rw [List.length_take] at hj
      rw [h5 j (by omega), List.getElem?_take_of_lt (by omega)])
  have H5 := Lib.hid h5
  have H1 := Lib.hid h1
  rw [hm] at hc0 hn h2
  clear h1 h5 hm
  have n1 : ¬ (m : Int) < (n : Int) := by omega
  by_cases hcn : c = n
  · have hmn : m = n := by omega
    subst hmn
    subst hcn
    have hS := rd_set (off' := off) (c' := 0) (v := .slice (some ⟨bb, off, none⟩) rest.length c) (by rw [HM.out]; exact Nat.le_refl c : c ≤ rest.length) H1.out (by rw [HM.out]; omega) (by omega) h4 (fun j hj => by rw [List.length_drop, HM.out] at hj; omega)
    rw [HM.out, Nat.sub_self] at hS
    have HSS := Lib.hid hS
    have HT2 : Hid (BytesAt (w.setCell ⟨rb, 0, none⟩ (.slice (some ⟨bb, off, none⟩) 0 0)) rb (some ⟨bb, off, none⟩) (rest.take c)) := Lib.hid (HT.out.keep ((Below.refl rb w).setCell (p := ⟨rb, 0, none⟩) (Nat.le_refl _) _))
    clear hS
    go_enter Tryz.func84, Tryz.ntmps84
    go_wp2
    go_ret
    exact ⟨_, _, _, rfl, Nat.le_refl _, h3, HT2.out, HSS.out.1, HSS.out.2⟩
  · have hcn2 : ¬ n = c := fun h => hcn h.symm
    have hS := rd_set (off' := off + n) (c' := c - n) (v := .slice (some ⟨bb, off, none⟩) rest.length c) (by rw [HM.out]; exact hn : n ≤ rest.length) H1.out (by rw [HM.out]; omega) (by omega) h4 (fun j hj => by
      rw [List.length_drop, HM.out] at hj
      rw [Nat.add_assoc, H5.out (n + j) (by rw [HM.out]; omega), List.getElem?_drop])
    rw [HM.out] at hS
    have HSS := Lib.hid hS
    have HT2 : Hid (BytesAt (w.setCell ⟨rb, 0, none⟩ (.slice (some ⟨bb, off + n, none⟩) (m - n) (c - n))) rb (some ⟨bb, off, none⟩) (rest.take n)) := Lib.hid (HT.out.keep ((Below.refl rb w).setCell (p := ⟨rb, 0, none⟩) (Nat.le_refl _) _))
    clear hS
    go_enter Tryz.func84, Tryz.ntmps84
    go_wp2
    go_ret
    exact ⟨_, _, _, rfl, by omega, h3, HT2.out, HSS.out.1, HSS.out.2⟩
theorem rbytes_yes (w : World) (rb n : Nat) (rest : List UInt8) (hr : SRd w rb rest) (hn : n ≤ rest.length) :
    Calls Tryz.prog 84 #[.pointer (some ⟨rb, 0, none⟩), I n] w (GotBytes w rb n rest) :=
  (rbytes_some w rb n rest hr hn).mono fun _ _ ⟨bb, off, c, h⟩ => ⟨some ⟨bb, off, none⟩, c, h⟩
end Go.Proofs.YthhbbebabmemfaaGreat

/- (*series.reader).number: eight bytes. -/
namespace Go.Proofs.YthhbbebabmemfaaGreat
open Go Go.RowKit Go.Shelf
attribute [local go_sem] Oper.semAt_some

/-- n<<8 | uint64(c), as the program reckons it. -/
def ustep (s : Int) (c : UInt8) : Int := bits BinOp.or IntKind.u64 (IntKind.u64.wrap (s * 256)) c.toNat
def unleU (l : List (Nat × UInt8)) : Int := l.foldl (fun s x => ustep s x.2) 0
theorem unleU_snoc (pre : List (Nat × UInt8)) (x : Nat × UInt8) : unleU (pre ++ [x]) = ustep (unleU pre) x.2 := by simp [unleU]
/-- The number of eight bytes. -/
def num8 (bs : List UInt8) : Int := wrap64 (unleU (upto (bk bs) bs.length))
def SNumGot (w : World) (rb : Nat) (rest : List UInt8) (e : Ending) (w' : World) : Prop :=
  e = .returned (I (num8 (rest.take 8))) ∧ SRd w' rb (rest.drop 8) ∧ MKeep rb w w'
theorem mkeep_mix {rb : Nat} {w w1 w2 W : World} (h0 : Below w.heap.size w w1) (hk : MKeep rb w1 w2) (h2 : Below w.heap.size w2 W) : MKeep rb w W :=
  ⟨h2.os.trans (hk.os.trans h0.os), h2.tape.trans (hk.tape.trans h0.tape), h2.output.trans (hk.output.trans h0.output), Nat.le_trans h0.size (Nat.le_trans hk.size h2.size),
   fun k hb h3 => (h2.block k hb).trans ((hk.block k (Nat.lt_of_lt_of_le hb h0.size) h3).trans (h0.block k hb))⟩
set_option maxRecDepth 100000 in
set_option maxHeartbeats 2000000 in
theorem snumber_yes (w : World) (rb : Nat) (rest : List UInt8) (hr : SRd w rb rest) (h8 : 8 ≤ rest.length) :
    Calls Tryz.prog 83 #[pt rb] w (SNumGot w rb rest) := by
  refine (callsIn_wide (n := 3)).1 ?_
  have hro : Fence.wide.round = none := rfl
  have h1 : 1 ≤ 3 := by omega
  have hlt := hr.lt
  have hB0 : Below w.heap.size w (w.alloc (.cells #[.int .u64 0] 149)) := (Below.refl _ w).alloc (Nat.le_refl _) _
  have hr1 : SRd (w.alloc (.cells #[.int .u64 0] 149)) rb rest := hr.below hB0 hlt
  have bS := Boxed.new w 149 (.int .u64 0)
  have HT0 := rbytes_yes (w.alloc (.cells #[.int .u64 0] 149)) rb 8 rest hr1 h8
  obtain ⟨bs, hbs⟩ : ∃ bs, rest.take 8 = bs := ⟨_, rfl⟩
  have HL := Lib.hid (show bs.length = 8 from by rw [← hbs, List.length_take]; omega)
  unfold GotBytes at HT0
  rw [hbs] at HT0
  have HBS2 := Lib.hid hbs
  have HT := Lib.hid HT0
  have HB0 := Lib.hid hB0
  have HBS := Lib.hid bS
  clear hr hr1 hB0 bS HT0 hbs
  refine callsIn_of_wp_marks Tryz.func83 rfl trivial ?_ hro
  simp only [Tryz.ntmps83, List.size_toArray, List.length_cons, List.length_nil, Nat.reduceAdd, Nat.reduceSub, Array.replicate_succ, Array.replicate_zero, List.push_toArray, List.append_toArray, List.nil_append, List.cons_append]
  gi_wp2_with first
    | (refine ⟨trivial, ?_⟩; gi_at_call 84; refine (callsIn_wide.2 HT.out).mono ?_; rintro e w2 ⟨A, c, rfl, hcl, hcc, hby, hrs, hk⟩; have HBY := Lib.hid hby; have HRS := Lib.hid hrs; have HK := Lib.hid hk; clear hby hrs hk)
    | (refine ⟨trivial, ?_⟩; gi_at_call 46; refine (back_in Fence.wide 2 trivial hro _ _ _ _).mono ?_; rintro e w' ⟨rfl, rfl⟩)
  have hw2 : w.heap.size < w2.heap.size := Nat.lt_of_lt_of_le (by simp) HK.out.size
  have bS2 : Boxed w2 w.heap.size 149 (.int .u64 0) := (HK.out.block w.heap.size (by simp) (by omega)).trans HBS.out
  have hB1 : Below w.heap.size w2 (w2.alloc (.cells #[.slice A 8 c] 22)) := ((Below.refl _ w2).alloc (Nat.le_refl _) _).mono (by omega)
  have hby1 : BytesAt (w2.alloc (.cells #[.slice A 8 c] 22)) w.heap.size A bs := (HBY.out.more (by omega)).keep hB1
  have bN := Boxed.new w2 22 (.slice A 8 c)
  have hcl2 : (w2.alloc (.cells #[.slice A 8 c] 22)).cell? ⟨w2.heap.size, 0, none⟩ = some (.slice A 8 c) := bN.cell
  have hst := back_stops Fence.wide (3 - 1) trivial hro (by omega) w2.heap.size w.heap.size A c bs (by have := HL.out; omega) (w2.alloc (.cells #[.slice A 8 c] 22)) (by simp) (by simp; omega) (by rw [HL.out]; exact hcl2) hby1
  refine wpIn_rangeFunc_ownG hro h1 (gf := 62) (lb := #[.pointer (some ⟨w2.heap.size, 0, none⟩)]) rfl trivial (enters_of Tryz.func62 (by kernel_rfl) rfl)
    hst (fun h k => h.trans k) (bk_b (by simp; omega) (by simp)) (Below.refl _ _) (fun _ => rfl)
    (fun pre W => Boxed W w.heap.size 149 (.int .u64 (unleU pre)) ∧ Below w.heap.size w2 W)
    (fun _ _ _ => False)
    (OwnFrom.and (Own.from (boxed_own _ _ _) _) (ownFrom_below (by omega) (by simp; omega)))
    (fun _ _ _ _ _ hs _ _ => hs)
    ⟨bS2.alloc _, hB1⟩
    (fun x => { tmps := #[pt rb, undef, .int .i64 0, .pointer (some ⟨w.heap.size, 0, none⟩), undef, Extern.Stop.cell x.2, pt rb, .slice A 8 c, .func (.func 62) #[] #[.pointer (some ⟨w2.heap.size, 0, none⟩)], .int .i64 (x.1 : Int), Extern.Stop.cell x.2, undef, undef, undef, undef, undef, undef, undef], defers := [] }) ?assign ?body ?done ?stop
  case assign =>
    intro l x W K hK
    gi_wp2
    exact hK
  case body =>
    rintro l pre ⟨xi, xc⟩ W ⟨hbx, hB⟩ _
    have hc := hbx.cell
    have hx1 : (xc.toNat : Int) < 256 := by have := xc.toNat_lt; omega
    have hx2 : (0 : Int) ≤ xc.toNat := by omega
    simp only [Extern.Stop.cell]
    have hf := hbx.frozen
    gi_wp2
    exact ⟨(KeepsOthers.setCell _ _ _).from _, ⟨(Below.refl w.heap.size W).setCell (p := ⟨w.heap.size, 0, none⟩) (Nat.le_refl _) _, World.cell?_setCell_other _ _ _ _ (by intro e; have := congrArg Addr.block e; simp only at this; omega)⟩, by rw [unleU_snoc]; exact hbx.set _, hB.setCell (p := ⟨w.heap.size, 0, none⟩) (Nat.le_refl _) _⟩
  case done =>
    rintro D ys W hD rfl ⟨hbx, hB⟩ hK
    have hc := hbx.cell
    gi_wp2
    refine ⟨by simp, .inl ⟨_, _, rfl, run_takeDeferred hK, ?_⟩⟩
    refine ⟨_, results_tmp rfl _ _ _, ?_⟩
    have hB2 := hB.trans (belowK_b (w := w2) (n₀ := w.heap.size) (by omega) W D _ (.deferred none) (by simp at hD; omega) hK rfl rfl)
    unfold SNumGot num8
    rw [HBS2.out]
    exact ⟨rfl, HRS.out.below hB2 hlt, mkeep_mix HB0.out HK.out hB2⟩
  case stop =>
    rintro D c pre W _ _ h _
    exact h.elim
end Go.Proofs.YthhbbebabmemfaaGreat

/- Numbers written and read again (plain). -/
namespace Go.Proofs.YthhbbebabmemfaaGreat
open Go Go.RowKit

def hvs (s : Int) (l : List (Nat × UInt8)) : Int := l.foldl (fun s x => s * 256 + (x.2.toNat : Int)) s
set_option maxRecDepth 10000 in
theorem or_mul (a b : Nat) (h : a < 256) : (b * 256) ||| a = b * 256 + a := by
  rw [show b * 256 = b <<< 8 from by rw [Nat.shiftLeft_eq], Nat.shiftLeft_add_eq_or_of_lt (by omega)]
set_option maxRecDepth 10000 in
theorem ustep_mod (s : Int) (c : UInt8) : ustep s c = (s * 256 + (c.toNat : Int)) % 18446744073709551616 := by
  unfold ustep
  have hc := c.toNat_lt
  obtain ⟨b, hb⟩ : ∃ b : Nat, IntKind.u64.wrap (s * 256) = ((b * 256 : Nat) : Int) := by
    rw [show IntKind.u64.wrap (s * 256) = (s * 256) % 18446744073709551616 by simp [IntKind.wrap, IntKind.bits, IntKind.signed]]
    exact ⟨((s * 256) % 18446744073709551616 / 256).toNat, by omega⟩
  have hw : ((b * 256 : Nat) : Int) = (s * 256) % 18446744073709551616 := by rw [← hb]; simp [IntKind.wrap, IntKind.bits, IntKind.signed]
  rw [hb, u64_or_nat _ _ (by omega) (by omega), or_mul _ _ (by omega)]
  omega
set_option maxRecDepth 10000 in
theorem rstep_wrap (s : Int) (c : UInt8) : rstep s c = wrap64 (s * 256 + (c.toNat : Int)) := by
  have hc := c.toNat_lt
  have h1 := ustep_mod s c
  unfold ustep at h1
  have key : ∀ x y : Int, bits BinOp.or IntKind.i64 (wrap64 x) y = wrap64 (bits BinOp.or IntKind.u64 (IntKind.u64.wrap x) y) := by
    intro x y
    have e : BitVec.ofInt 64 (wrap64 x) = BitVec.ofInt 64 (IntKind.u64.wrap x) := by
      apply BitVec.eq_of_toInt_eq
      rw [BitVec.toInt_ofInt, BitVec.toInt_ofInt, show IntKind.u64.wrap x = x % 18446744073709551616 by simp [IntKind.wrap, IntKind.bits, IntKind.signed]]
      unfold wrap64
      simp only [Int.bmod]
      omega
    show IntKind.i64.wrap ((BitVec.ofInt 64 (wrap64 x) ||| BitVec.ofInt 64 y).toNat : Int) = wrap64 (IntKind.u64.wrap ((BitVec.ofInt 64 (IntKind.u64.wrap x) ||| BitVec.ofInt 64 y).toNat : Int))
    rw [e]
    have hb := (BitVec.ofInt 64 (IntKind.u64.wrap x) ||| BitVec.ofInt 64 y).isLt
    obtain ⟨n, hn⟩ : ∃ n, (BitVec.ofInt 64 (IntKind.u64.wrap x) ||| BitVec.ofInt 64 y).toNat = n := ⟨_, rfl⟩
    rw [hn] at hb ⊢
    rw [IntKind.wrap_i64, show IntKind.u64.wrap (n : Int) = (n : Int) % 18446744073709551616 by simp [IntKind.wrap, IntKind.bits, IntKind.signed]]
    unfold wrap64
    omega
  unfold rstep
  rw [key, h1]
  unfold wrap64
  omega
set_option maxRecDepth 10000 in
theorem foldU (l : List (Nat × UInt8)) : ∀ s t : Int, s = t % 18446744073709551616 → l.foldl (fun s x => ustep s x.2) s = hvs t l % 18446744073709551616 := by
  induction l with
  | nil => intro s t h; exact h
  | cons x l ih =>
    intro s t h
    rw [List.foldl_cons]
    refine ih _ (t * 256 + (x.2.toNat : Int)) ?_
    rw [ustep_mod]
    omega
set_option maxRecDepth 10000 in
theorem foldR (l : List (Nat × UInt8)) : ∀ s t : Int, s = wrap64 t → l.foldl (fun s x => rstep s x.2) s = wrap64 (hvs t l) := by
  induction l with
  | nil => intro s t h; exact h
  | cons x l ih =>
    intro s t h
    rw [List.foldl_cons]
    refine ih _ (t * 256 + (x.2.toNat : Int)) ?_
    rw [rstep_wrap]
    unfold wrap64 at *
    omega
set_option maxRecDepth 10000 in
theorem byteOf_nat (n : Int) : ((byteOf n).toNat : Int) = n % 256 := by
  have h := byteOf_cell n
  unfold Extern.Stop.cell at h
  injection h
set_option maxRecDepth 10000 in
theorem hvs8 (x : Int) (hx : fits x) : wrap64 (hvs 0 (upto (bk (le x 8)) 8)) = x := by
  have e : hvs 0 (upto (bk (le x 8)) 8) = (((((((((0 * 256 + ((byteOf (x / 256 / 256 / 256 / 256 / 256 / 256 / 256)).toNat : Int)) * 256 + ((byteOf (x / 256 / 256 / 256 / 256 / 256 / 256)).toNat : Int)) * 256 + ((byteOf (x / 256 / 256 / 256 / 256 / 256)).toNat : Int)) * 256 + ((byteOf (x / 256 / 256 / 256 / 256)).toNat : Int)) * 256 + ((byteOf (x / 256 / 256 / 256)).toNat : Int)) * 256 + ((byteOf (x / 256 / 256)).toNat : Int)) * 256 + ((byteOf (x / 256)).toNat : Int)) * 256 + ((byteOf x).toNat : Int))) := rfl
  rw [e]
  simp only [byteOf_nat]
  unfold fits at hx
  unfold wrap64
  omega
set_option maxRecDepth 10000 in
theorem hvs4 (x : Int) (h0 : 0 ≤ x) (h1 : x < 4294967296) : wrap64 (hvs 0 (upto (bk (le x 4)) 4)) = x := by
  have e : hvs 0 (upto (bk (le x 4)) 4) = ((((0 * 256 + ((byteOf (x / 256 / 256 / 256)).toNat : Int)) * 256 + ((byteOf (x / 256 / 256)).toNat : Int)) * 256 + ((byteOf (x / 256)).toNat : Int)) * 256 + ((byteOf x).toNat : Int)) := rfl
  rw [e]
  simp only [byteOf_nat]
  unfold wrap64
  omega
set_option maxRecDepth 10000 in
theorem hvs1 (x : Int) (h0 : 0 ≤ x) (h1 : x < 256) : wrap64 (hvs 0 (upto (bk (le x 1)) 1)) = x := by
  have e : hvs 0 (upto (bk (le x 1)) 1) = 0 * 256 + ((byteOf x).toNat : Int) := rfl
  rw [e]
  simp only [byteOf_nat]
  unfold wrap64
  omega
set_option maxRecDepth 10000 in
theorem take_le (x : Int) (n : Nat) (R : List UInt8) : (le x n ++ R).take n = le x n := by
  rw [List.take_append_of_le_length (by rw [le_length]; exact Nat.le_refl n), List.take_of_length_le (by rw [le_length]; exact Nat.le_refl n)]
set_option maxRecDepth 10000 in
theorem drop_le (x : Int) (n : Nat) (R : List UInt8) : (le x n ++ R).drop n = R := by
  rw [List.drop_append_of_le_length (by rw [le_length]; exact Nat.le_refl n), List.drop_of_length_le (by rw [le_length]; exact Nat.le_refl n)]
  rfl
set_option maxRecDepth 10000 in
/-- A number of eight bytes, read by the series' reader. -/
theorem num8_le (x : Int) (hx : fits x) (R : List UInt8) : num8 ((le x 8 ++ R).take 8) = x := by
  rw [take_le]
  unfold num8 unleU
  rw [le_length, foldU _ 0 0 (by decide)]
  have h := hvs8 x hx
  obtain ⟨y, hy⟩ : ∃ y, hvs 0 (upto (bk (le x 8)) 8) = y := ⟨_, rfl⟩
  rw [hy] at h ⊢
  rw [← h]
  unfold wrap64
  omega
set_option maxRecDepth 10000 in
theorem tk_le' (x : Int) (n : Nat) (R : List UInt8) : tk (le x n ++ R) false n = le x n ∧ tkR (le x n ++ R) false n = R ∧ tkB (le x n ++ R) false n = false := by
  have e : tkB (le x n ++ R) false n = false := by
    unfold tkB
    rw [Bool.false_or]
    exact decide_eq_false (by rw [List.length_append, le_length]; omega)
  unfold tk tkR
  rw [e]
  exact ⟨take_le x n R, drop_le x n R, rfl⟩
set_option maxRecDepth 10000 in
/-- Numbers, read by the letter's reader. -/
theorem rdN_8 (x : Int) (hx : fits x) (R : List UInt8) : rdN (le x 8 ++ R) false 8 = x := by
  unfold rdN unle
  rw [(tk_le' x 8 R).1, le_length, foldR _ 0 0 (by unfold wrap64; omega)]
  exact hvs8 x hx
set_option maxRecDepth 10000 in
theorem rdN_4 (x : Int) (h0 : 0 ≤ x) (h1 : x < 4294967296) (R : List UInt8) : rdN (le x 4 ++ R) false 4 = x := by
  unfold rdN unle
  rw [(tk_le' x 4 R).1, le_length, foldR _ 0 0 (by unfold wrap64; omega)]
  exact hvs4 x h0 h1
set_option maxRecDepth 10000 in
theorem rdN_1 (x : Int) (h0 : 0 ≤ x) (h1 : x < 256) (R : List UInt8) : rdN (le x 1 ++ R) false 1 = x := by
  unfold rdN unle
  rw [(tk_le' x 1 R).1, le_length, foldR _ 0 0 (by unfold wrap64; omega)]
  exact hvs1 x h0 h1
end Go.Proofs.YthhbbebabmemfaaGreat

/- The series' reader: numbers, counts, texts, several numbers at once (where the bytes are there). -/
namespace Go.Proofs.YthhbbebabmemfaaGreat
open Go Go.RowKit

def SNumR (w : World) (rb : Nat) (x : Int) (R : List UInt8) (e : Ending) (w' : World) : Prop := e = .returned (I x) ∧ SRd w' rb R ∧ MKeep rb w w'
theorem snum_le (w : World) (rb : Nat) (x : Int) (R : List UInt8) (hx : fits x) (hr : SRd w rb (le x 8 ++ R)) : Calls Tryz.prog 83 #[pt rb] w (SNumR w rb x R) :=
  (snumber_yes w rb _ hr (by rw [List.length_append, le_length]; omega)).mono fun e w' ⟨h1, h2, h3⟩ => by
    rw [num8_le x hx R] at h1
    rw [drop_le] at h2
    exact ⟨h1, h2, h3⟩
set_option maxRecDepth 10000 in
set_option maxHeartbeats 1000000 in
theorem count_yes (w : World) (rb n : Nat) (R : List UInt8) (hn : n ≤ R.length) (hb : n ≤ 1000000000) (hr : SRd w rb (le n 8 ++ R)) : Calls Tryz.prog 65 #[pt rb] w (SNumR w rb n R) := by
  have HN := Lib.hid (snum_le w rb n R (by unfold fits; omega) hr)
  clear hr
  go_enter Tryz.func65, Tryz.ntmps65
  go_wp2_with fail
  refine HN.out.mono ?_
  rintro e w1 ⟨rfl, hr1, hk1⟩
  have HR1 := Lib.hid hr1
  have HK1 := Lib.hid hk1
  obtain ⟨bb, off, c, h1, _⟩ := hr1
  obtain ⟨m, hm⟩ : ∃ m, R.length = m := ⟨_, rfl⟩
  rw [hm] at h1 hn
  have hc0 : w1.cell? ⟨rb, 0, none⟩ = some (.slice (some ⟨bb, off, none⟩) m c) := cell_of_row w1 rb 0 _ _ _ h1
  have n0 : ¬ (n : Int) < 0 := by omega
  have n1 : ¬ (m : Int) < (n : Int) := by omega
  clear hk1 h1 hm
  go_wp2_with fail
  go_ret
  exact ⟨rfl, HR1.out, HK1.out⟩
def STextR (w : World) (rb : Nat) (s : ByteArray) (R : List UInt8) (e : Ending) (w' : World) : Prop := e = .returned (.string s) ∧ SRd w' rb R ∧ MKeep rb w w'
set_option maxRecDepth 10000 in
set_option maxHeartbeats 1000000 in
theorem text_yes (w : World) (rb : Nat) (s : ByteArray) (R : List UInt8) (hs : s.size ≤ 1000000) (hr : SRd w rb (textBytes s ++ R)) : Calls Tryz.prog 68 #[pt rb] w (STextR w rb s R) := by
  unfold textBytes at hr
  rw [List.append_assoc] at hr
  have HN := Lib.hid (snum_le w rb s.size (s.data.toList ++ R) (by unfold fits; omega) hr)
  have hl : s.data.toList.length = s.size := Array.length_toList
  have HL := Lib.hid hl
  clear hr hl
  go_enter Tryz.func68, Tryz.ntmps68
  go_wp2_with fail
  refine HN.out.mono ?_
  rintro e w1 ⟨rfl, hr1, hk1⟩
  have HR1 := Lib.hid hr1
  have HK1 := Lib.hid hk1
  clear hr1 hk1
  go_wp2_with fail
  refine (rbytes_some w1 rb s.size (s.data.toList ++ R) HR1.out (by rw [List.length_append, HL.out]; omega)).mono ?_
  rintro e w2 ⟨bb, off, c, rfl, hc1, hc2, hby, hr2, hk2⟩
  have e1 : (s.data.toList ++ R).take s.size = s.data.toList := by rw [← HL.out, List.take_append_of_le_length (Nat.le_refl _), List.take_of_length_le (Nat.le_refl _)]
  have e2 : (s.data.toList ++ R).drop s.size = R := by rw [← HL.out, List.drop_append_of_le_length (Nat.le_refl _), List.drop_of_length_le (Nat.le_refl _)]; rfl
  rw [e1] at hby
  rw [e2] at hr2
  have hcv := rconv_bytes w2 bb off c s (fun j hj => by
    rcases hby with h | ⟨b, o, hA, _, hcl⟩
    · rw [HL.out] at h; omega
    · injection hA with hA
      injection hA with h3 h4
      subst h3 h4
      exact hcl j (by rw [HL.out]; exact hj))
  have HR2 := Lib.hid hr2
  have HK2 := Lib.hid hk2
  clear hby hr2 hk2 e1 e2
  go_wp2_with fail
  go_ret
  exact ⟨rfl, HR2.out, HK1.out.trans HK2.out⟩
end Go.Proofs.YthhbbebabmemfaaGreat

/- (*series.reader).fill: numbers read into given places. -/
namespace Go.Proofs.YthhbbebabmemfaaGreat
open Go Go.RowKit

def setO (x : Option Obj) (o : Nat) (v : Value) : Option Obj :=
  match x with
  | some (.cells cs t fr) => some (.cells (cs.setIfInBounds o v) t fr)
  | y => y
/-- A block after the numbers are put: the places are (block, offset). -/
def putsB (b : Nat) (l : List ((Nat × Nat) × Int)) (x : Option Obj) : Option Obj := l.foldl (fun x p => if p.1.1 = b then setO x p.1.2 (I p.2) else x) x
theorem putsB_snoc (b : Nat) (l : List ((Nat × Nat) × Int)) (p : (Nat × Nat) × Int) (x : Option Obj) : putsB b (l ++ [p]) x = if p.1.1 = b then setO (putsB b l x) p.1.2 (I p.2) else putsB b l x := by simp [putsB]
/-- No cell of it is a byte. -/
def notByte (v : Value) : Bool := match v with | .int .u8 _ => false | _ => true
def NB (cs : Array Value) : Prop := cs.all notByte = true
theorem NB.set {cs : Array Value} (h : NB cs) (o : Nat) (v : Value) (hv : notByte v = true) : NB (cs.setIfInBounds o v) := by
  unfold NB at *
  rw [Array.all_eq_true_iff_forall_mem] at *
  intro u hu
  rcases Array.mem_or_eq_of_mem_setIfInBounds hu with h1 | h1
  · exact h u h1
  · rw [h1]; exact hv
theorem NB.get {cs : Array Value} (h : NB cs) (i : Nat) (x : UInt8) : cs[i]? ≠ some (Extern.Stop.cell x) := by
  intro e
  unfold NB at h
  rw [Array.all_eq_true_iff_forall_mem] at h
  have h1 := h _ (Array.mem_of_getElem? e)
  cases h1
theorem putsB_cells (b : Nat) (l : List ((Nat × Nat) × Int)) : ∀ (cs : Array Value) (t : TypeId), NB cs → ∃ cs' : Array Value, putsB b l (some (.cells cs t (0, 0))) = some (.cells cs' t (0, 0)) ∧ cs'.size = cs.size ∧ NB cs' := by
  induction l with
  | nil => intro cs t h; exact ⟨cs, rfl, rfl, h⟩
  | cons p l ih =>
    intro cs t hnb
    unfold putsB at *
    rw [List.foldl_cons]
    by_cases h : p.1.1 = b
    · rw [if_pos h]
      obtain ⟨cs', h1, h2, h3⟩ := ih (cs.setIfInBounds p.1.2 (I p.2)) t (hnb.set _ _ rfl)
      exact ⟨cs', h1, by rw [h2, Array.size_setIfInBounds], h3⟩
    · rw [if_neg h]
      exact ih cs t hnb
theorem putsB_none (b : Nat) (l : List ((Nat × Nat) × Int)) (h : ∀ p ∈ l, p.1.1 ≠ b) (x : Option Obj) : putsB b l x = x := by
  induction l with
  | nil => rfl
  | cons p l ih =>
    unfold putsB at *
    rw [List.foldl_cons, if_neg (h p List.mem_cons_self)]
    exact ih fun q hq => h q (List.mem_cons_of_mem _ hq)
structure FPut (w : World) (rb : Nat) (l : List ((Nat × Nat) × Int)) (w' : World) : Prop where
  os : w'.os = w.os
  tape : w'.tape = w.tape
  output : w'.output = w.output
  size : w.heap.size ≤ w'.heap.size
  block : ∀ k, k < w.heap.size → k ≠ rb → w'.heap[k]? = putsB k l w.heap[k]?
structure TgtOK (w : World) (rb ab : Nat) (t : Nat × Nat) : Prop where
  rb : t.1 ≠ rb
  ab : t.1 ≠ ab
  lies : ∃ cs ty, w.heap[t.1]? = some (.cells cs ty (0, 0)) ∧ t.2 < cs.size ∧ NB cs
theorem TgtOK.lt {w : World} {rb ab : Nat} {t : Nat × Nat} (h : TgtOK w rb ab t) : t.1 < w.heap.size := by
  obtain ⟨cs, ty, h1, _⟩ := h.lies
  exact (Array.getElem?_eq_some_iff.1 h1).1
theorem FPut.refl (w : World) (rb : Nat) : FPut w rb [] w := ⟨rfl, rfl, rfl, Nat.le_refl _, fun _ _ _ => rfl⟩
theorem FPut.keep {w w1 w2 : World} {rb : Nat} {l : List ((Nat × Nat) × Int)} (h : FPut w rb l w1) (k : MKeep rb w1 w2) : FPut w rb l w2 :=
  ⟨k.os.trans h.os, k.tape.trans h.tape, k.output.trans h.output, Nat.le_trans h.size k.size, fun b hb hn => (k.block b (Nat.lt_of_lt_of_le hb h.size) hn).trans (h.block b hb hn)⟩
theorem FPut.row {w w1 : World} {rb ab : Nat} {l : List ((Nat × Nat) × Int)} {t : Nat × Nat} (h : FPut w rb l w1) (ht : TgtOK w rb ab t) : ∃ cs ty, w1.heap[t.1]? = some (.cells cs ty (0, 0)) ∧ t.2 < cs.size ∧ NB cs := by
  obtain ⟨cs, ty, h1, h2, h0⟩ := ht.lies
  obtain ⟨cs', h3, h4, h5⟩ := putsB_cells t.1 l cs ty h0
  exact ⟨cs', ty, by rw [h.block t.1 ht.lt ht.rb, h1, h3], by omega, h5⟩
theorem FPut.put {w w1 : World} {rb ab : Nat} {l : List ((Nat × Nat) × Int)} {p : (Nat × Nat) × Int} (h : FPut w rb l w1) (ht : TgtOK w rb ab p.1) : FPut w rb (l ++ [p]) (w1.setCell ⟨p.1.1, p.1.2, none⟩ (I p.2)) := by
  refine ⟨h.os, h.tape, h.output, by simpa [World.setCell] using h.size, fun k hk hn => ?_⟩
  rw [putsB_snoc]
  by_cases e : p.1.1 = k
  · obtain ⟨cs, ty, h1, h2, _⟩ := h.row ht
    rw [if_pos e, ← e, heap_setCell_same w1 p.1.1 p.1.2 cs ty _ h1, ← h.block p.1.1 (by rw [e]; exact hk) ht.rb, h1]
    rfl
  · rw [if_neg e, heap_setCell_other w1 _ k _ (fun h => e h.symm)]
    exact h.block k hk hn
theorem SRd.put {w : World} {rb t : Nat} {R : List UInt8} {cs : Array Value} {ty : TypeId} (h : SRd w rb R) (hb : w.heap[t]? = some (.cells cs ty (0, 0))) (hnb : NB cs) (ht : t ≠ rb) (o : Nat) (v : Value) : SRd (w.setCell ⟨t, o, none⟩ v) rb R := by
  obtain ⟨bb, off, c, h1, h2, h3, h4, h5⟩ := h
  refine ⟨bb, off, c, (heap_setCell_other w _ rb v (fun e => ht e.symm)).trans h1, h2, h3, h4, fun j hj => ?_⟩
  have hne : bb ≠ t := by
    rintro rfl
    have h6 := h5 j hj
    rw [cell_of_row w bb _ _ _ _ hb] at h6
    exact hnb.get _ _ h6
  exact (World.cell?_of_block (a := ⟨bb, off + j, none⟩) (heap_setCell_other w _ bb v hne)).trans (h5 j hj)
def FillP (w : World) (rb : Nat) (l : List ((Nat × Nat) × Int)) (R : List UInt8) (e : Ending) (w' : World) : Prop := e = .returned (.tuple #[]) ∧ SRd w' rb R ∧ FPut w rb l w'
def FillRel (w : World) (rb : Nat) (l : List ((Nat × Nat) × Int)) (R : List UInt8) (n : Nat) (i : Value) (wr : World) : Prop :=
  ∃ k : Nat, k ≤ n ∧ i = I k ∧ SRd wr rb (leAll ((l.drop k).map (·.2)) ++ R) ∧ FPut w rb (l.take k) wr
set_option maxRecDepth 10000 in
set_option maxHeartbeats 2000000 in
theorem fill_yes (w : World) (rb ab n c : Nat) (l : List ((Nat × Nat) × Int)) (R : List UInt8) (hr : SRd w rb (leAll (l.map (·.2)) ++ R)) (hn : l.length = n) (hn2 : n ≤ 1000) (hab : rb < ab) (habs : ab < w.heap.size)
    (hA : ∀ j p, l[j]? = some p → w.cell? ⟨ab, j, none⟩ = some (.pointer (some ⟨p.1.1, p.1.2, none⟩))) (hT : ∀ p ∈ l, TgtOK w rb ab p.1) (hf : ∀ p ∈ l, fits p.2) :
    Calls Tryz.prog 67 #[pt rb, .slice (some ⟨ab, 0, none⟩) n c] w (FillP w rb l R) := by
  have HR := Lib.hid hr
  have HN := Lib.hid hn
  have HA := Lib.hid hA
  have HT := Lib.hid hT
  have HF := Lib.hid hf
  clear hr hn hA hT hf
  go_enter Tryz.func67, Tryz.ntmps67
  go_wp2_with fail
  go_loopw [8] (fun i wr => FillRel w rb l R n i wr) (fun i _ => n - (intOf i).toNat)
  case atStart => exact ⟨0, Nat.zero_le _, rfl, HR.out, FPut.refl _ _⟩
  case round =>
    obtain ⟨k, hk, rfl, hs, hp⟩ := hrel
    have HS := Lib.hid hs
    have HP := Lib.hid hp
    clear hs hp
    by_cases hlt : (k : Int) < (n : Int)
    · have i0 : (0 : Int) ≤ (k : Int) := by omega
      have hkl : k < l.length := by have := HN.out; omega
      have hx : l[k]? = some l[k] := List.getElem?_eq_getElem hkl
      obtain ⟨⟨⟨tb, tu⟩, z⟩, hp⟩ : ∃ p, l[k] = p := ⟨_, rfl⟩
      rw [hp] at hx
      have hmem := List.mem_of_getElem? hx
      have HTK : Hid (TgtOK w rb ab (tb, tu)) := Lib.hid (HT.out _ hmem)
      have hfz : fits z := HF.out _ hmem
      have HX := Lib.hid hx
      have hck : wr.cell? ⟨ab, k, none⟩ = some (.pointer (some ⟨tb, tu, none⟩)) := by
        rw [← HA.out k _ hx]
        refine World.cell?_of_block (a := ⟨ab, k, none⟩) ?_
        rw [HP.out.block ab habs (by omega)]
        exact putsB_none ab _ (fun p hp => (HT.out p (List.mem_of_mem_take hp)).ab) _
      have hd : l.drop k = ((tb, tu), z) :: l.drop (k + 1) := by
        rw [List.drop_eq_getElem_cons hkl, hp]
      have hs2 : SRd wr rb (le z 8 ++ (leAll ((l.drop (k + 1)).map (·.2)) ++ R)) := by
        have h := HS.out
        rw [hd] at h
        simpa [leAll] using h
      have HS2 := Lib.hid hs2
      have HFZ := Lib.hid hfz
      clear hx hp hmem hd hs2 hfz hkl
      go_wp2_with fail
      refine (snum_le wr rb z _ HFZ.out HS2.out).mono ?_
      rintro e w1 ⟨rfl, hs3, hk3⟩
      obtain ⟨cs, ty, h1, h2, h6⟩ := (HP.out.keep hk3).row HTK.out
      have HPT := Lib.hid (hs3.put h1 h6 HTK.out.rb tu (I z))
      have HP3 := Lib.hid (HP.out.keep hk3)
      have hcv : w1.cell? ⟨tb, tu, none⟩ = some cs[tu] := by rw [cell_of_row w1 tb tu _ _ _ h1]; exact Array.getElem?_eq_getElem h2
      have hfv := frozen_of_row w1 tb tu _ _ h1
      obtain ⟨v0, hv0⟩ : ∃ v, cs[tu] = v := ⟨_, rfl⟩
      rw [hv0] at hcv
      clear hs3 hk3 hv0 h1 h2 h6
      go_wp2_with fail
      go_roundw
      case rel =>
        refine ⟨k + 1, by omega, by go_num, HPT.out, ?_⟩
        rw [List.take_add_one, HX.out]
        exact HP3.out.put HTK.out
      case measure => simp [intOf]; omega
    · have hkn : k = n := by omega
      have HKN := Lib.hid hkn
      clear hkn
      go_wp2_with fail
      go_end0
      refine ⟨rfl, ?_, ?_⟩
      · have h := HS.out
        rw [HKN.out, List.drop_of_length_le (by rw [HN.out]; exact Nat.le_refl _)] at h
        exact h
      · have h := HP.out
        rw [HKN.out, List.take_of_length_le (by rw [HN.out]; exact Nat.le_refl _)] at h
        exact h
end Go.Proofs.YthhbbebabmemfaaGreat

/- The reader at work: a variable that is filled, the result's box. -/
namespace Go.Proofs.YthhbbebabmemfaaGreat
open Go Go.RowKit

structure RdS (t : TypeId) (z : Array Value) (w0 : World) (rb : Nat) (R : List UInt8) (b4 b6 : Nat) (cs : Array Value) (W : World) : Prop where
  hm : rb < w0.heap.size
  rd : SRd W rb R
  keep : MKeep rb w0 W
  lo : w0.heap.size ≤ b4
  ne : b4 < b6
  res : W.heap[b4]? = some (.cells z t (0, 0))
  var : W.heap[b6]? = some (.cells cs t (0, 0))
section
variable {t : TypeId} {z : Array Value} {w0 W W' : World} {rb b4 b6 : Nat} {R R' : List UInt8} {cs cs' : Array Value}
theorem RdS.lt (h : RdS t z w0 rb R b4 b6 cs W) : b6 < W.heap.size := (Array.getElem?_eq_some_iff.1 h.var).1
theorem RdS.cell (h : RdS t z w0 rb R b4 b6 cs W) : ∀ i, W.cell? ⟨b6, i, none⟩ = cs[i]? := fun i => cell_of_row W b6 i _ _ _ h.var
theorem RdS.froz (h : RdS t z w0 rb R b4 b6 cs W) : ∀ i, W.frozen? ⟨b6, i, none⟩ = false := fun i => frozen_of_row W b6 i _ _ h.var
theorem RdS.row (h : RdS t z w0 rb R b4 b6 cs W) : Row W b6 cs := ⟨h.lt, h.cell⟩
theorem RdS.step (h : RdS t z w0 rb R b4 b6 cs W) (hr : SRd W' rb R') (hk : MKeep rb W W') : RdS t z w0 rb R' b4 b6 cs W' :=
  have h1 := h.hm
  have h2 := h.lo
  have h3 := h.ne
  have h4 := h.lt
  ⟨h.hm, hr, h.keep.trans hk, h.lo, h.ne, (hk.block b4 (by omega) (by omega)).trans h.res, (hk.block b6 (by omega) (by omega)).trans h.var⟩
theorem RdS.more (h : RdS t z w0 rb R b4 b6 cs W) (o : Obj) : RdS t z w0 rb R b4 b6 cs (W.alloc o) :=
  have h1 := h.hm
  have h2 := h.keep.size
  h.step (h.rd.below (below_var W o) (by omega)) (MKeep.of_below (below_var W o))
theorem RdS.drew (h : RdS t z w0 rb R b4 b6 cs W) : RdS t z w0 rb R b4 b6 cs W.drew := ⟨h.hm, h.rd, h.keep.draw, h.lo, h.ne, h.res, h.var⟩
theorem RdS.store (h : RdS t z w0 rb R b4 b6 cs W) (o : Nat) (v : Value) : RdS t z w0 rb R b4 b6 (cs.setIfInBounds o v) (W.setCell ⟨b6, o, none⟩ v) := by
  have h1 := h.hm
  have h2 := h.lo
  have h3 := h.ne
  have hb : Below b6 W (W.setCell ⟨b6, o, none⟩ v) := (Below.refl b6 W).setCell (p := ⟨b6, o, none⟩) (Nat.le_refl _) _
  refine ⟨h.hm, h.rd.below hb (by omega), ?_, h.lo, h.ne, (hb.block b4 (by omega)).trans h.res, heap_setCell_same W b6 o _ _ _ h.var⟩
  exact ⟨hb.os.trans h.keep.os, hb.tape.trans h.keep.tape, hb.output.trans h.keep.output, Nat.le_trans h.keep.size hb.size, fun k hk hn => (hb.block k (by omega)).trans (h.keep.block k hk hn)⟩
theorem RdS.start (hr : SRd W rb R) (z cs : Array Value) : RdS t z W rb R W.heap.size (W.heap.size + 1) cs ((W.alloc (.cells z t)).alloc (.cells cs t)) := by
  have hb := below_trans (below_var W (.cells z t)) (below_var _ (.cells cs t))
  exact ⟨hr.lt, hr.below hb hr.lt, MKeep.of_below hb, Nat.le_refl _, by omega, heap_alloc2_old W _ _, heap_alloc2_new W _ _⟩
/-- The numbers put into the variable. -/
theorem RdS.filled {l : List ((Nat × Nat) × Int)} (h : RdS t z w0 rb R b4 b6 cs W) (o : Obj) (hr : SRd W' rb R') (hp : FPut (W.alloc o) rb l W') (hl : ∀ p ∈ l, b6 ≤ p.1.1) (hcs : putsB b6 l (some (.cells cs t (0, 0))) = some (.cells cs' t (0, 0))) : RdS t z w0 rb R' b4 b6 cs' W' := by
  have h1 := h.hm
  have h2 := h.lo
  have h3 := h.ne
  have h4 := h.lt
  have h5 := h.keep.size
  have h6 := (h.more o)
  have hn : ∀ k, k < b6 → k < W.heap.size → k ≠ rb → W'.heap[k]? = (W.alloc o).heap[k]? := fun k hk hlt hne => by
    rw [hp.block k (by simp; omega) hne, putsB_none k l (fun p hpm => by have := hl p hpm; omega)]
  refine ⟨h.hm, hr, ⟨hp.os.trans h.keep.os, hp.tape.trans h.keep.tape, hp.output.trans h.keep.output, by have := hp.size; simp at this; omega, fun k hk hne => ?_⟩, h.lo, h.ne, ?_, ?_⟩
  · rw [hn k (by omega) (by omega) hne]; exact h6.keep.block k hk hne
  · rw [hn b4 (by omega) (by omega) (by omega)]; exact h6.res
  · rw [hp.block b6 (by simp; omega) (by omega), h6.var, hcs]
/-- A row grown. -/
theorem RdS.grown {base e size n : Nat} {v : Value} {ys : List Value} {o : Obj} (h : RdS t z w0 rb R b4 b6 cs W) (hown : W.ownsRow base e size v n ys) (hb : b6 < base) (hg : (W.alloc o).grownBy W' v.ownBlock) : RdS t z w0 rb R b4 b6 cs W' := by
  have h1 := h.hm
  have h2 := h.lo
  have h3 := h.ne
  have h4 := h.lt
  have hs := h.keep.size
  have hB : ∀ k, k < W.heap.size → k < base → W'.heap[k]? = W.heap[k]? := fun k hk hkb => by rw [hg.block k (by simp; omega) (own_ge hown k hkb), Below.heap_alloc W o k hk]
  have hlow : Below (rb + 1) W W' := ⟨hg.os, hg.tape, hg.output, by have := hg.size; simp at this; omega, fun k hk => hB k (by omega) (by omega)⟩
  refine ⟨h.hm, h.rd.below hlow (by omega), ⟨hg.os.trans h.keep.os, hg.tape.trans h.keep.tape, hg.output.trans h.keep.output, by have := hg.size; simp at this; omega, fun k hk hn => (hB k (by omega) (by omega)).trans (h.keep.block k hk hn)⟩, h.lo, h.ne, (hB b4 (by omega) (by omega)).trans h.res, (hB b6 h4 hb).trans h.var⟩
/-- The result stored. -/
theorem RdS.done (h : RdS t z w0 rb R b4 b6 cs W) (ds : Array Value) : SRd (W.setRow b4 ds) rb R ∧ MKeep rb w0 (W.setRow b4 ds) := by
  have h1 := h.hm
  have h2 := h.lo
  have h3 := h.ne
  have hb : Below b4 W (W.setRow b4 ds) := below_setRow (Below.refl b4 W) (Nat.le_refl _) _
  refine ⟨h.rd.below hb (by omega), ⟨hb.os.trans h.keep.os, hb.tape.trans h.keep.tape, hb.output.trans h.keep.output, Nat.le_trans h.keep.size hb.size, fun k hk hn => (setRow_other W b4 k _ (by omega)).trans (h.keep.block k hk hn)⟩⟩
theorem RdS.tgt (h : RdS t z w0 rb R b4 b6 cs W) (o : Obj) (i ab : Nat) (hab : W.heap.size = ab) (hi : i < cs.size) (hnb : NB cs) : TgtOK (W.alloc o) rb ab (b6, i) := by
  subst hab
  have h1 := h.hm
  have h2 := h.lo
  have h3 := h.ne
  have h4 := h.lt
  exact ⟨by show b6 ≠ rb; omega, by show b6 ≠ W.heap.size; omega, cs, t, (h.more o).var, hi, hnb⟩
end
end Go.Proofs.YthhbbebabmemfaaGreat

/- (*series.reader).node. -/
namespace Go.Proofs.YthhbbebabmemfaaGreat
open Go Go.RowKit

def Ndd (w : World) (rb : Nat) (d : Nd) (R : List UInt8) (e : Ending) (w' : World) : Prop :=
  ∃ A c, e = .returned (.agg (ndCells d A c)) ∧ LI w.heap.size w' A d.list ∧ SRd w' rb R ∧ MKeep rb w w'
def ndPart (d : Nd) (v : Value) : Array Value := #[I d.kind, I d.cal, I d.l, I d.r, I d.n, I d.m, v, .string ⟨#[]⟩]
def NdRel (w : World) (rb : Nat) (d : Nd) (R : List UInt8) (n : Nat) (i : Value) (wr : World) : Prop :=
  ∃ (k : Nat) (v : Value), k ≤ n ∧ i = I k ∧ RdS 75 zNode w rb (leAll (d.list.drop k) ++ (textBytes d.name ++ R)) w.heap.size (w.heap.size + 1) (ndPart d v) wr ∧ wr.ownsRow (w.heap.size + 2) 3 1 v k ((d.list.take k).map I)
theorem ndBytes_split (d : Nd) (R : List UInt8) : ndBytes d ++ R = leAll [d.kind, d.cal, d.l, d.r, d.n, d.m] ++ (le (d.list.length : Int) 8 ++ (leAll d.list ++ (textBytes d.name ++ R))) := by
  simp [ndBytes, ndNums, leAll]
theorem nb_node : NB zNode := by unfold NB; kernel_rfl
theorem ptrs_new (W : World) (H : Nat) (hH : W.heap.size = H) (l : List ((Nat × Nat) × Int)) (t : TypeId) (cs : Array Value) (hcs : cs = (l.map fun p => Value.pointer (some ⟨p.1.1, p.1.2, none⟩)).toArray) :
    ∀ j p, l[j]? = some p → (W.alloc (.cells cs t)).cell? ⟨H, j, none⟩ = some (.pointer (some ⟨p.1.1, p.1.2, none⟩)) := by
  intro j p hp
  rw [← hH, (Row.new W cs t).2 j, hcs]
  simp [hp]
set_option maxRecDepth 10000 in
set_option maxHeartbeats 2000000 in
theorem node_yes (w : World) (rb : Nat) (d : Nd) (R : List UInt8) (hf : NdFit d) (hr : SRd w rb (ndBytes d ++ R)) : Calls Tryz.prog 66 #[pt rb] w (Ndd w rb d R) := by
  rw [ndBytes_split] at hr
  have hml := hr.lt
  have H0 : Hid (RdS 75 zNode w rb _ w.heap.size (w.heap.size + 1) zNode ((w.alloc (.cells zNode 75)).alloc (.cells zNode 75))) := Lib.hid (RdS.start hr zNode zNode)
  have HF := Lib.hid hf
  clear hr hf
  obtain ⟨i0, hi, hz0, hz1, hz2⟩ := info_parts info_int
  go_enter Tryz.func66, Tryz.ntmps66
  go_wp2_with fail
  refine (fill_yes _ rb (w.heap.size + 2) 6 6 [((w.heap.size + 1, 0), d.kind), ((w.heap.size + 1, 1), d.cal), ((w.heap.size + 1, 2), d.l), ((w.heap.size + 1, 3), d.r), ((w.heap.size + 1, 4), d.n), ((w.heap.size + 1, 5), d.m)] (le (d.list.length : Int) 8 ++ (leAll d.list ++ (textBytes d.name ++ R))) ?hr rfl (by omega) (by omega) (by simp) ?hA ?hT ?hf).mono ?_
  case hr => exact (H0.out.more _).rd
  case hA => exact ptrs_new _ _ (by simp) _ _ _ rfl
  case hT =>
    intro p hp
    simp only [List.mem_cons, List.not_mem_nil, or_false] at hp
    rcases hp with rfl | rfl | rfl | rfl | rfl | rfl <;> (refine H0.out.tgt _ _ _ (by simp) ?_ nb_node; decide)
  case hf =>
    intro p hp
    have h := HF.out.nums
    unfold ndNums at h
    simp only [List.mem_cons, List.not_mem_nil, or_false] at hp
    rcases hp with rfl | rfl | rfl | rfl | rfl | rfl <;> exact h _ (by simp)
  rintro e w1 ⟨rfl, hr1, hp1⟩
  have H1 : Hid (RdS 75 zNode w rb (le (d.list.length : Int) 8 ++ (leAll d.list ++ (textBytes d.name ++ R))) w.heap.size (w.heap.size + 1) (ndPart d (.slice none 0 0)) w1) := Lib.hid (H0.out.filled _ hr1 hp1 (by
    intro p hp
    simp only [List.mem_cons, List.not_mem_nil, or_false] at hp
    rcases hp with rfl | rfl | rfl | rfl | rfl | rfl <;> exact Nat.le_refl _) (by simp [putsB, setO, zNode, ndPart]))
  clear hr1 hp1 H0
  go_wp2_with fail
  have hln : (leAll d.list).length = 8 * d.list.length := leAll_length _
  refine (count_yes w1 rb d.list.length _ (by rw [List.length_append]; omega) (by have := HF.out.len; omega) H1.out.rd).mono ?_
  rintro e w2 ⟨rfl, hr2, hk2⟩
  have H2 := Lib.hid (H1.out.step hr2 hk2)
  obtain ⟨n, hn⟩ : ∃ n, d.list.length = n := ⟨_, rfl⟩
  have HN := Lib.hid hn
  rw [hn] at ⊢
  have hn64 : n ≤ 64 := by rw [← hn]; exact HF.out.len
  clear hln hr2 hk2 H1 hn
  go_wp2_with fail
  go_loopw [15] (fun i wr => NdRel w rb d R n i wr) (fun i _ => n - (intOf i).toNat)
  case atStart => exact ⟨0, .slice none 0 0, Nat.zero_le _, rfl, H2.out, World.ownsRow_nil _ _ _ _⟩
  case round =>
    obtain ⟨k, v, hk, rfl, hs, hown⟩ := hrel
    have HS := Lib.hid hs
    have HO := Lib.hid hown
    clear hs hown
    by_cases hlt : (k : Int) < (n : Int)
    · have hkl : k < d.list.length := by have := HN.out; omega
      obtain ⟨z, hz⟩ : ∃ z, d.list[k] = z := ⟨_, rfl⟩
      have hx : d.list[k]? = some z := by rw [← hz]; exact List.getElem?_eq_getElem hkl
      have hd : d.list.drop k = z :: d.list.drop (k + 1) := by rw [List.drop_eq_getElem_cons hkl, hz]
      have hs2 : RdS 75 zNode w rb (le z 8 ++ (leAll (d.list.drop (k + 1)) ++ (textBytes d.name ++ R))) w.heap.size (w.heap.size + 1) (ndPart d v) wr := by
        have h := HS.out
        rw [hd] at h
        simpa [leAll] using h
      have HSD := Lib.hid hs2.drew
      have HOD : Hid (wr.drew.ownsRow (w.heap.size + 2) 3 1 v k ((d.list.take k).map I)) := Lib.hid HO.out
      have hc6 : wr.cell? ⟨w.heap.size + 1, 6, none⟩ = some v := HS.out.cell 6
      have HFZ : Hid (fits z) := Lib.hid (HF.out.list z (List.mem_of_getElem? hx))
      have HX := Lib.hid hx
      clear hkl hz hx hd hs2 HS HO
      go_wp2_with fail
      go_region_law (first
        | (refine step_append_lies _ (by rfl) _ _ _ (by rfl) (w.heap.size + 2) 3 i0 (.int .i64 0) 1 8 Tryz.underlying23 hi hz0 hz1 hz2 rfl (by omega) v k ((d.list.take k).map I) (by rfl) (HO5.out.alloc _) ⟨w5.heap.size, 0, none⟩ 1 1 [I z] (by rfl) rfl (cell_one_new _ _ _) (by intro u hu; simp at hu; subst hu; rfl) (by omega) (by unfold maxLen; omega) (by omega) (by simp; omega) _ rfl ?_; intro gg cap w6 hown6 hgrow6 hat6 hlt6'; have HG6 := Lib.hid (HS5.out.grown HO5.out (Nat.lt_succ_self _) hgrow6); have HO6 := Lib.hid hown6; have hc66 : w6.cell? ⟨w.heap.size + 1, 6, none⟩ = some v := HG6.out.cell 6; have hf66 := HG6.out.froz 6; clear hown6 hgrow6 hat6)
        | (go_simp; go_at_call 83; refine (snum_le _ rb z _ HFZ.out HSD.out.rd).mono ?_; rintro e w5 ⟨rfl, hr5, hk5⟩; have HS5 := Lib.hid (HSD.out.step hr5 hk5); have hc5 : w5.cell? ⟨w.heap.size + 1, 6, none⟩ = some v := HS5.out.cell 6; have hl5 := HS5.out.lt; have HO5 := Lib.hid (ownsRow_mkeep HOD.out hk5 (by omega)); clear hr5 hk5))
      all_goals
        go_wp2_with fail
        go_roundw
        case rel => exact ⟨k + 1, .slice (some ⟨gg, 0, none⟩) (k + 1) cap, by omega, by go_num, HG6.out.store 6 (.slice (some ⟨gg, 0, none⟩) (k + 1) cap), by rw [List.take_add_one, HX.out, List.map_append]; exact ownsRow_setCell_below (a := ⟨w.heap.size + 1, 6, none⟩) HO6.out (Nat.lt_succ_self _) _⟩
        case measure => simp [intOf]; omega
    · have hkn : k = n := by omega
      have hl : w.heap.size + 1 < wr.heap.size := HS.out.lt
      have ho := HO.out
      have hs := HS.out
      rw [hkn, ← HN.out, List.take_length] at ho
      rw [hkn, ← HN.out, List.drop_length] at hs
      obtain ⟨A, c, rfl, hli⟩ := LI.of_owns ho
      have HLI := Lib.hid hli
      have HS1 : Hid (RdS 75 zNode w rb (textBytes d.name ++ R) w.heap.size (w.heap.size + 1) (ndPart d (.slice A d.list.length c)) wr) := Lib.hid hs
      clear hkn ho hs hli HS HO
      go_wp2_with fail
      refine (text_yes wr rb d.name R (by have := HF.out.name; omega) HS1.out.rd).mono ?_
      rintro e w3 ⟨rfl, hr3, hk3⟩
      have HS3 := Lib.hid (HS1.out.step hr3 hk3)
      have hc3 := HS3.out.cell
      have hf3 := HS3.out.froz
      have HLI3 := Lib.hid (HLI.out.mkeep hk3 (by omega))
      have hl3 := HS3.out.lt
      clear hr3 hk3 HS1 HLI
      have HS4 : Hid (RdS 75 zNode w rb R w.heap.size (w.heap.size + 1) (ndCells d A c) (w3.setCell ⟨w.heap.size + 1, 7, none⟩ (.string d.name))) := Lib.hid (HS3.out.store 7 (.string d.name))
      have HRW := Lib.hid HS4.out.row
      go_wp2_with (first
        | (with_reducible refine g_load 75 ?_; refine wpList_load_Row rfl _ _ rfl (w.heap.size + 1) rfl (ndCells d A c) HRW.out _ Tryz.underlying75 rfl (nd_size _ _ _) ?_)
        | (with_reducible refine g_store 75 ?_; refine wpList_store_row rfl _ _ _ rfl w.heap.size (ndCells d A c) rfl rfl 75 zNode HS4.out.res (nd_size _ _ _) rfl (nd_one _ _ _) ?_))
      have hfin := HS4.out.done (ndCells d A c)
      exact bodyPost_ret (v := .agg (ndCells d A c)) (results_cell_row rfl _ _ w.heap.size _ (ndCells d A c) (0, 0) _ rfl (setRow_heap _ _ _ _ _ _ HS4.out.res) Tryz.underlying75 rfl (nd_size _ _ _)) rfl ⟨A, c, rfl, ((HLI3.out.of_blocks (by simp [World.setCell]) fun k h1 h2 => (setRow_other _ _ k _ (by omega)).trans (heap_setCell_other _ _ k _ (by show k ≠ w.heap.size + 1; omega))).lower (by omega)), hfin.1, hfin.2⟩
end Go.Proofs.YthhbbebabmemfaaGreat

/- (*series.reader).move. -/
namespace Go.Proofs.YthhbbebabmemfaaGreat
open Go Go.RowKit

def Mvd (w : World) (rb : Nat) (m : Mv) (R : List UInt8) (e : Ending) (w' : World) : Prop :=
  e = .returned (.agg (mvCells m)) ∧ SRd w' rb R ∧ MKeep rb w w'
def drZ (m : Mv) : Int := if m.drop then 1 else 0
def mvTo (h : Nat) (m : Mv) : List ((Nat × Nat) × Int) := [((h + 1, 0), m.day), ((h + 2, 0), drZ m), ((h + 1, 2), m.toDay), ((h + 1, 3), m.minute), ((h + 1, 4), m.length)]
theorem nb_move : NB zMove := by unfold NB; kernel_rfl
theorem nb_one (z : Int) : NB #[I z] := by unfold NB; kernel_rfl
theorem mvTo_var (h : Nat) (m : Mv) : putsB (h + 1) (mvTo h m) (some (.cells zMove 26 (0, 0))) = some (.cells #[I m.day, .bool false, I m.toDay, I m.minute, I m.length] 26 (0, 0)) := by
  simp [putsB, setO, zMove, mvTo]
theorem mvTo_drop (h : Nat) (m : Mv) : putsB (h + 2) (mvTo h m) (some (.cells #[I 0] 3 (0, 0))) = some (.cells #[I (drZ m)] 3 (0, 0)) := by
  simp [putsB, setO, mvTo]
set_option maxRecDepth 10000 in
set_option maxHeartbeats 2000000 in
theorem smove_yes (w : World) (rb : Nat) (m : Mv) (R : List UInt8) (hf : ∀ z ∈ mvNums m, fits z) (hr : SRd w rb (leAll (mvNums m) ++ R)) : Calls Tryz.prog 69 #[pt rb] w (Mvd w rb m R) := by
  have hml := hr.lt
  have H0 : Hid (RdS 26 zMove w rb (leAll (mvNums m) ++ R) w.heap.size (w.heap.size + 1) zMove (((w.alloc (.cells zMove 26)).alloc (.cells zMove 26)).alloc (.cells #[I 0] 3))) := Lib.hid ((RdS.start hr zMove zMove).more _)
  have HD : Hid ((((w.alloc (.cells zMove 26)).alloc (.cells zMove 26)).alloc (.cells #[I 0] 3)).heap[w.heap.size + 2]? = some (.cells #[I 0] 3 (0, 0))) := Lib.hid (by
    have h := heap_alloc_last ((w.alloc (.cells zMove 26)).alloc (.cells zMove 26)) (.cells #[I 0] 3)
    simpa using h)
  have HF := Lib.hid hf
  clear hr hf
  go_enter Tryz.func69, Tryz.ntmps69
  go_wp2_with fail
  refine (fill_yes _ rb (w.heap.size + 3) 5 5 (mvTo w.heap.size m) R ?hr rfl (by omega) (by omega) (by simp) ?hA ?hT ?hf).mono ?_
  case hr => exact (H0.out.more _).rd
  case hA => exact ptrs_new _ _ (by simp) _ _ _ rfl
  case hT =>
    intro p hp
    unfold mvTo at hp
    simp only [List.mem_cons, List.not_mem_nil, or_false] at hp
    have hd : TgtOK ((((w.alloc (.cells zMove 26)).alloc (.cells zMove 26)).alloc (.cells #[I 0] 3)).alloc (.cells #[.pointer (some ⟨w.heap.size + 1, 0, none⟩), .pointer (some ⟨w.heap.size + 2, 0, none⟩), .pointer (some ⟨w.heap.size + 1, 2, none⟩), .pointer (some ⟨w.heap.size + 1, 3, none⟩), .pointer (some ⟨w.heap.size + 1, 4, none⟩)] 57)) rb (w.heap.size + 3) (w.heap.size + 2, 0) :=
      ⟨by show w.heap.size + 2 ≠ rb; omega, by show w.heap.size + 2 ≠ w.heap.size + 3; omega, _, _, (Below.heap_alloc _ _ _ (by simp)).trans HD.out, by show 0 < 1; decide, nb_one _⟩
    rcases hp with rfl | rfl | rfl | rfl | rfl
    · refine H0.out.tgt _ _ _ (by simp) ?_ nb_move; decide
    · exact hd
    · refine H0.out.tgt _ _ _ (by simp) ?_ nb_move; decide
    · refine H0.out.tgt _ _ _ (by simp) ?_ nb_move; decide
    · refine H0.out.tgt _ _ _ (by simp) ?_ nb_move; decide
  case hf =>
    intro p hp
    have h := HF.out
    unfold mvNums at h
    unfold mvTo drZ at hp
    simp only [List.mem_cons, List.not_mem_nil, or_false] at hp
    rcases hp with rfl | rfl | rfl | rfl | rfl <;> exact h _ (by simp)
  rintro e w1 ⟨rfl, hr1, hp1⟩
  have H1 : Hid (RdS 26 zMove w rb R w.heap.size (w.heap.size + 1) #[I m.day, .bool false, I m.toDay, I m.minute, I m.length] w1) := Lib.hid (H0.out.filled _ hr1 hp1 (by
    intro p hp
    unfold mvTo at hp
    simp only [List.mem_cons, List.not_mem_nil, or_false] at hp
    rcases hp with rfl | rfl | rfl | rfl | rfl <;> (dsimp only; omega)) (mvTo_var _ _))
  have hd1 : w1.heap[w.heap.size + 2]? = some (.cells #[I (drZ m)] 3 (0, 0)) := by
    rw [hp1.block (w.heap.size + 2) (by simp) (by omega), Below.heap_alloc _ _ _ (by simp)]
    exact (congrArg _ HD.out).trans (mvTo_drop _ _)
  have hcd : w1.cell? ⟨w.heap.size + 2, 0, none⟩ = some (I (drZ m)) := cell_of_row w1 _ 0 _ _ _ hd1
  have hc1 := H1.out.cell
  have hf1 := H1.out.froz
  clear hr1 hp1 H0 HD hd1 HF
  have HS4 : Hid (RdS 26 zMove w rb R w.heap.size (w.heap.size + 1) (mvCells m) (w1.setCell ⟨w.heap.size + 1, 1, none⟩ (.bool m.drop))) := Lib.hid (H1.out.store 1 (.bool m.drop))
  have HRW := Lib.hid HS4.out.row
  have hdz : ∀ y : Bool, m.drop = y → drZ m = if y then 1 else 0 := fun y hy => by unfold drZ; rw [hy]
  obtain ⟨dr, hdr⟩ : ∃ dr, m.drop = dr := ⟨_, rfl⟩
  rw [hdz dr hdr] at hcd
  rw [hdr] at HS4 HRW
  clear hdz hdr
  cases dr
  all_goals
    simp only [if_true, if_false, Bool.false_eq_true] at hcd
    go_wp2_with (first
      | (with_reducible refine g_load 26 ?_; refine wpList_load_Row rfl _ _ rfl (w.heap.size + 1) rfl (mvCells m) HRW.out _ Tryz.underlying26 rfl (mv_size _) ?_)
      | (with_reducible refine g_store 26 ?_; refine wpList_store_row rfl _ _ _ rfl w.heap.size (mvCells m) rfl rfl 26 zMove HS4.out.res (mv_size _) rfl (mv_one _) ?_))
    have hfin := HS4.out.done (mvCells m)
    exact bodyPost_ret (v := .agg (mvCells m)) (results_cell_row rfl _ _ w.heap.size _ (mvCells m) (0, 0) _ rfl (setRow_heap _ _ _ _ _ _ HS4.out.res) Tryz.underlying26 rfl (mv_size _)) rfl ⟨rfl, hfin.1, hfin.2⟩
end Go.Proofs.YthhbbebabmemfaaGreat

/- series.Read: its deferred closure, the series under way. -/
namespace Go.Proofs.YthhbbebabmemfaaGreat
open Go Go.RowKit

/-- Numbers in memory that is neither older than lo nor the row's own. -/
def LN (lo : Nat) (w : World) (v : Value) (A : Option Addr) (zs : List Int) : Prop :=
  zs.length = 0 ∨ ∃ b off, A = some ⟨b, off, none⟩ ∧ lo ≤ b ∧ b < w.heap.size ∧ some b ≠ v.ownBlock ∧ ∀ j, j < zs.length → w.cell? ⟨b, off + j, none⟩ = some (I (zs[j]?.getD 0))
structure RdL (rb : Nat) (w : World) (v : Value) (ns : List NdV) : Prop where
  row : w.ownsRow (rb + 1) 75 8 v ns.length (rcells ns)
  lists : ∀ x ∈ ns, LN (rb + 1) w v x.A x.d.list
theorem RdL.of_blocks {rb : Nat} {w w' : World} {v : Value} {ns : List NdV} (h : RdL rb w v ns) (hs : w.heap.size ≤ w'.heap.size) (hb : ∀ k, rb + 1 ≤ k → k < w.heap.size → w'.heap[k]? = w.heap[k]?) : RdL rb w' v ns :=
  ⟨ownsRow_blocks h.row hb, fun x hx => by
    rcases h.lists x hx with h1 | ⟨b, off, h1, h2, h3, h4, h5⟩
    · exact .inl h1
    · exact .inr ⟨b, off, h1, h2, Nat.lt_of_lt_of_le h3 hs, h4, fun j hj => (World.cell?_of_block (a := ⟨b, off + j, none⟩) (hb b h2 h3)).trans (h5 j hj)⟩⟩
theorem RdL.mkeep {rb : Nat} {w w' : World} {v : Value} {ns : List NdV} (h : RdL rb w v ns) (hk : MKeep rb w w') : RdL rb w' v ns :=
  h.of_blocks hk.size fun k h1 h2 => hk.block k h2 (by omega)
theorem RdL.rule {rb lo : Nat} {w : World} {v : Value} {ns : List NdV} (h : RdL rb w v ns) (hlo : lo ≤ rb + 1) : RuleIs lo w v ns :=
  ⟨ownsRow_base' h.row hlo, fun x hx => by
    rcases h.lists x hx with h1 | ⟨b, off, h1, h2, h3, h4, h5⟩
    · exact .inl h1
    · exact .inr ⟨b, off, h1, by omega, h3, h5⟩⟩
theorem RdL.nil (rb : Nat) (w : World) : RdL rb w (.slice none 0 0) [] := ⟨World.ownsRow_nil _ _ _ _, fun _ hx => nomatch hx⟩
theorem RdL.snoc {rb : Nat} {w w1 w2 : World} {v v' : Value} {ns : List NdV} {o : Obj} (h : RdL rb w v ns) (hk : MKeep rb w w1) (hrb : rb < w.heap.size) (x : NdV) (hx : LI w.heap.size w1 x.A x.d.list)
    (hown : w2.ownsRow (rb + 1) 75 8 v' (ns.length + 1) (rcells ns ++ x.cells)) (hg : (w1.alloc o).grownBy w2 v.ownBlock) (hat : v'.ownBlock = v.ownBlock ∨ ∃ b, v'.ownBlock = some b ∧ w1.heap.size ≤ b) : RdL rb w2 v' (ns ++ [x]) := by
  have hsz := hg.size
  rw [World.size_alloc] at hsz
  have hne : ∀ b, b < w1.heap.size → some b ≠ v.ownBlock → some b ≠ v'.ownBlock := fun b hb h1 => by
    rcases hat with e | ⟨c, e, hc⟩
    · rw [e]; exact h1
    · rw [e]; intro e'; injection e' with e'; omega
  have hbl : ∀ b, b < w1.heap.size → some b ≠ v.ownBlock → w2.heap[b]? = w1.heap[b]? := fun b hb h1 => by
    rw [hg.block b (by simp; omega) h1, Below.heap_alloc w1 o b hb]
  refine ⟨by rw [List.length_append, rcells_app, rcells_one]; exact hown, fun y hy => ?_⟩
  rcases List.mem_append.1 hy with hy | hy
  · rcases (h.mkeep hk).lists y hy with h1 | ⟨b, off, h1, h2, h3, h4, h5⟩
    · exact .inl h1
    · exact .inr ⟨b, off, h1, h2, by omega, hne b h3 h4, fun j hj => (World.cell?_of_block (a := ⟨b, off + j, none⟩) (hbl b h3 h4)).trans (h5 j hj)⟩
  · rw [List.mem_singleton.1 hy]
    rcases hx with h1 | ⟨b, off, h1, h2, h3, h5⟩
    · exact .inl h1
    · have h4 : some b ≠ v.ownBlock := fun e => by have := own_lt h.row b e.symm; omega
      exact .inr ⟨b, off, h1, by omega, by omega, hne b h3 h4, fun j hj => (World.cell?_of_block (a := ⟨b, off + j, none⟩) (hbl b h3 h4)).trans (h5 j hj)⟩
def serP (v : Value) (mi le : Int) (zo : ByteArray) (ga fo : Int) (vm : Value) : Array Value := #[v, I mi, I le, .string zo, I ga, I fo, vm]
theorem nb_ser (A A' : Option Addr) (n c n' c' : Nat) (mi le : Int) (zo : ByteArray) (ga fo : Int) : NB (serP (.slice A n c) mi le zo ga fo (.slice A' n' c')) := by unfold NB; kernel_rfl
theorem serP_size (v : Value) (mi le : Int) (zo : ByteArray) (ga fo : Int) (vm : Value) : (serP v mi le zo ga fo vm).size = 7 := rfl
/-- The series' variable at block w.heap.size, the code's behind it. -/
structure SdS (w : World) (rb : Nat) (R : List UInt8) (cs : Array Value) (W : World) : Prop where
  rd : SRd W rb R
  keep : Below w.heap.size w W
  hi : w.heap.size + 1 < rb
  var : W.heap[w.heap.size]? = some (.cells cs 31 (0, 0))
  code : W.heap[w.heap.size + 1]? = some (.cells #[I 0] 38 (0, 0))
section
variable {w W W' : World} {rb : Nat} {R R' : List UInt8} {cs cs' : Array Value}
theorem SdS.cell (h : SdS w rb R cs W) : ∀ i, W.cell? ⟨w.heap.size, i, none⟩ = cs[i]? := fun i => cell_of_row W _ i _ _ _ h.var
theorem SdS.froz (h : SdS w rb R cs W) : ∀ i, W.frozen? ⟨w.heap.size, i, none⟩ = false := fun i => frozen_of_row W _ i _ _ h.var
theorem SdS.lt (h : SdS w rb R cs W) : rb < W.heap.size := h.rd.lt
theorem SdS.row (h : SdS w rb R cs W) : Row W w.heap.size cs := ⟨by have := h.lt; have := h.hi; omega, h.cell⟩
theorem SdS.turn (h : SdS w rb R cs W) (hr : SRd W' rb R') (h1 : W'.os = W.os) (h2 : W'.tape = W.tape) (h3 : W'.output = W.output) (h4 : W.heap.size ≤ W'.heap.size) (h5 : ∀ k, k < rb → k ≠ w.heap.size → W'.heap[k]? = W.heap[k]?) (h6 : W'.heap[w.heap.size]? = some (.cells cs' 31 (0, 0))) : SdS w rb R' cs' W' :=
  have h7 := h.hi
  ⟨hr, ⟨h1.trans h.keep.os, h2.trans h.keep.tape, h3.trans h.keep.output, Nat.le_trans h.keep.size h4, fun k hk => (h5 k (by omega) (by omega)).trans (h.keep.block k hk)⟩, h.hi, h6, (h5 _ (by omega) (by omega)).trans h.code⟩
theorem SdS.step (h : SdS w rb R cs W) (hr : SRd W' rb R') (hk : MKeep rb W W') : SdS w rb R' cs W' :=
  have h1 := h.hi
  have h2 := h.lt
  h.turn hr hk.os hk.tape hk.output hk.size (fun k h3 _ => hk.block k (by omega) (by omega)) ((hk.block _ (by omega) (by omega)).trans h.var)
theorem SdS.more (h : SdS w rb R cs W) (o : Obj) : SdS w rb R cs (W.alloc o) := h.step (h.rd.below (below_var W o) h.lt) (MKeep.of_below (below_var W o))
theorem SdS.drew (h : SdS w rb R cs W) : SdS w rb R cs W.drew := ⟨h.rd, ⟨h.keep.os, h.keep.tape, h.keep.output, h.keep.size, h.keep.block⟩, h.hi, h.var, h.code⟩
theorem SdS.store (h : SdS w rb R cs W) (hnb : NB cs) (o : Nat) (v : Value) : SdS w rb R (cs.setIfInBounds o v) (W.setCell ⟨w.heap.size, o, none⟩ v) :=
  have h1 := h.hi
  h.turn (h.rd.put h.var hnb (by omega) o v) rfl rfl rfl (by simp [World.setCell]) (fun k _ h3 => heap_setCell_other W _ k v h3) (heap_setCell_same W _ o _ _ _ h.var)
theorem FPut.others {l : List ((Nat × Nat) × Int)} {o : Obj} {s0 : Nat} (hp : FPut (W.alloc o) rb l W') (hl : ∀ p ∈ l, p.1.1 = s0) (k : Nat) (hk : k < W.heap.size) (h1 : k ≠ rb) (h2 : k ≠ s0) : W'.heap[k]? = W.heap[k]? := by
  rw [hp.block k (by simp; omega) h1, putsB_none k l (fun p hpm => by rw [hl p hpm]; exact fun e => h2 e.symm), Below.heap_alloc W o k hk]
theorem SdS.filled {l : List ((Nat × Nat) × Int)} {o : Obj} (h : SdS w rb R cs W) (hr : SRd W' rb R') (hp : FPut (W.alloc o) rb l W') (hl : ∀ p ∈ l, p.1.1 = w.heap.size) (hcs : putsB w.heap.size l (some (.cells cs 31 (0, 0))) = some (.cells cs' 31 (0, 0))) : SdS w rb R' cs' W' := by
  have h1 := h.hi
  have h2 := h.lt
  refine h.turn hr hp.os hp.tape hp.output (by have := hp.size; rw [World.size_alloc] at this; omega) (fun k h3 h4 => hp.others hl k (by omega) (by omega) h4) ?_
  rw [hp.block _ (by simp; omega) (by omega), (h.more o).var, hcs]
theorem SdS.tgt (h : SdS w rb R cs W) (o : Obj) (i ab : Nat) (hab : W.heap.size = ab) (hi : i < cs.size) (hnb : NB cs) : TgtOK (W.alloc o) rb ab (w.heap.size, i) := by
  subst hab
  have h1 := h.hi
  have h2 := h.lt
  exact ⟨by show w.heap.size ≠ rb; omega, by show w.heap.size ≠ W.heap.size; omega, cs, _, (h.more o).var, hi, hnb⟩
theorem SdS.grown {base e size n : Nat} {v : Value} {ys : List Value} {o : Obj} (h : SdS w rb R cs W) (hown : W.ownsRow base e size v n ys) (hb : rb < base) (hg : (W.alloc o).grownBy W' v.ownBlock) : SdS w rb R cs W' := by
  have h1 := h.hi
  have h2 := h.lt
  have hs : W.heap.size ≤ W'.heap.size := by have := hg.size; rw [World.size_alloc] at this; omega
  have hlow : Below (rb + 1) W W' := ⟨hg.os, hg.tape, hg.output, hs, fun k hk => grown_low hown hg k (by omega) (by omega)⟩
  exact h.turn (h.rd.below hlow (by omega)) hg.os hg.tape hg.output hs (fun k h3 _ => grown_low hown hg k (by omega) (by omega)) ((grown_low hown hg _ (by omega) (by omega)).trans h.var)
end
theorem rules_is {lo : Nat} {w : World} {A : Option Addr} {n c : Nat} {ns : List NdV} (h : RuleIs lo w (.slice A n c) ns) (hl : ∀ x ∈ ns, x.d.list.length ≤ 64) : RulesAt w w.heap.size A ns := by
  by_cases hn : ns = []
  · exact .inl (by rw [hn]; rfl)
  obtain ⟨g, cap, h1, h2, h3, h4⟩ := h.form hn
  injection h1 with h1 _ _
  refine .inr ⟨g, h1, h3, fun k x hx => ⟨fun j v hv => ?_, (h.lists x (List.mem_of_getElem? hx)).ints, by have := hl x (List.mem_of_getElem? hx); omega⟩⟩
  have hj : j < 8 := by have := (List.getElem?_eq_some_iff.1 hv).1; rw [x.len] at this; exact this
  exact h4 _ _ (by rw [rcells_get ns k j hj, hx]; exact hv)
theorem moves_is {lo n c m : Nat} {w : World} {B : Option Addr} {ms : List Mv} (h : w.ownsRow lo 26 5 (.slice B n c) m (mvsCells ms)) (hm : ms.length = m) : MovesAt w w.heap.size B ms := by
  subst hm
  obtain ⟨h0, ⟨_, h1⟩ | ⟨g, cap, cur, hv, hg, hb, h1, h2, h3, h4⟩⟩ := h
  · exact .inl h1
  injection hv with hv _ _
  refine .inr ⟨g, hv, (Array.getElem?_eq_some_iff.1 hb).1, fun k x hx j v hj => ?_⟩
  have h5 : j < 5 := (List.getElem?_eq_some_iff.1 hj).1
  rw [cell_of_row w g _ _ _ _ hb]
  have h6 : (mvsCells ms)[k * 5 + j]? = some v := by rw [mvs_get _ k j h5, hx]; exact hj
  rw [← h4, List.getElem?_take] at h6
  split at h6
  · simpa using h6
  · cases h6
set_option maxRecDepth 10000 in
theorem catch_idle (p q : Addr) (w : World) :
    CallsD Tryz.prog 63 #[.pointer (some p), .pointer (some q)] .returning w fun e u' w' => e = .returned (.tuple #[]) ∧ u' = .returning ∧ w' = w := by
  have hnn : ∀ w, (binOp .neq 20 .nilIface .nilIface).run Tryz.prog w = .ok (.bool false) w := fun w => Lib.run_neq_nil_nil w Tryz.underlying20
  refine callsD_of_wpS Tryz.func63 rfl fun c₀ cs hu => ?_
  apply wpS_seq
  apply wpS_region
  simp [wpOpsS, go_sem, recoverD, hu, Tryz.ntmps63, Exit.thenS]
  apply wpS_seq
  apply wpS_region
  simp [wpOpsS, go_sem, hnn, Exit.thenS]
  refine wpS_cond (t := false) (by simp [Act.eval, Array.replicate]) ?_
  simp only [Bool.false_eq_true, if_false]
  refine wpS_of_wp (wp_skip ?_)
  cases c₀
  simp_all [bodyPostS, results, Tryz.results63]
end Go.Proofs.YthhbbebabmemfaaGreat

/- Helpers of series.Read. -/
namespace Go.Proofs.YthhbbebabmemfaaGreat
open Go Go.RowKit

attribute [local go_sem] ndCells mvCells
/-- What series.Read gives of a good series' bytes: the series, in memory of the call's own. -/
def SrPost (w : World) (se : Ser) (e : Ending) (w' : World) : Prop :=
  ∃ A n c B m ec ns, n = se.rule.length ∧ m = se.moves.length ∧ e = .returned (.tuple #[.agg (serP (.slice A n c) se.minute se.length se.zone se.gap se.fold (.slice B m ec)), I 0]) ∧ ns.map (·.d) = se.rule ∧ RuleIs w.heap.size w' (.slice A n c) ns ∧ w'.ownsRow w.heap.size 26 5 (.slice B m ec) m (mvsCells se.moves) ∧ Below w.heap.size w w'
theorem srd_new {w1 : World} {base g cc N : Nat} {bs : List UInt8} (hown : w1.ownsRow base 5 1 (.slice (some ⟨g, 0, none⟩) N cc) N (bs.map Extern.Stop.cell)) (hN : bs.length = N) (h0 : 0 < N) : SRd (w1.alloc (.cells #[.slice (some ⟨g, 0, none⟩) N cc] 119)) w1.heap.size bs := by
  subst hN
  have hcl := hown
  obtain ⟨_, ⟨h1, _⟩ | ⟨g', cap, cur, hv, hg, hb, h1, h2, h3, h4⟩⟩ := hown
  · cases h1
  injection hv with hv _ hc
  injection hv with hv
  injection hv with hv
  subst hv hc
  have hgl := (Array.getElem?_eq_some_iff.1 hb).1
  refine ⟨g, 0, cc, heap_alloc_last w1 _, h1, by unfold maxLen at h2; omega, hgl, fun j hj => ?_⟩
  have h := hcl.cells (g := g) rfl j (Extern.Stop.cell (bs[j]?.getD 0)) (by rw [List.getElem?_map, List.getElem?_eq_getElem hj]; rfl)
  rw [addr_add] at h
  rw [Nat.zero_add]
  exact (World.cell?_of_block (a := ⟨g, j, none⟩) (Below.heap_alloc w1 _ g hgl)).trans h
theorem grown_size {w w' : World} {o : Obj} {r : Option Nat} (h : (w.alloc o).grownBy w' r) : w.heap.size ≤ w'.heap.size := by
  have h9 := h.size
  rw [World.size_alloc] at h9
  omega
theorem serP_info (v vm : Value) (mi le : Int) (zo : ByteArray) (ga fo : Int) : (Tryz.prog.info? 31).map (·.size) = some (serP v mi le zo ga fo vm).size := by kernel_rfl
theorem serP_one (A A' : Option Addr) (n c n' c' : Nat) (mi le : Int) (zo : ByteArray) (ga fo : Int) : (serP (.slice A n c) mi le zo ga fo (.slice A' n' c')).all (·.oneCell') = true := by kernel_rfl
theorem results_row_cell {P : Program} {fn : Func} {p q : Tmp} {t1 t2 : TypeId} (h : fn.results = #[.cell p t1, .cell q t2]) (tmps : Array Value) (w : World) (g g2 : Nat) (t : TypeId) (cs : Array Value) (fr : Nat × Nat) (d : TypeDesc) (v : Value)
    (hp : tmps.getD p undef = .pointer (some ⟨g, 0, none⟩)) (hg : w.heap[g]? = some (.cells cs t fr)) (hu : P.underlying t1 = some d) (hd : (match d with | .struct _ | .array _ _ => true | _ => false) = true) (hi : (P.info? t1).map (·.size) = some cs.size)
    (hq : tmps.getD q undef = .pointer (some ⟨g2, 0, none⟩)) (hv : (loadVar t2 ⟨g2, 0, none⟩).run P w = .ok v w) :
    (results fn tmps).run P w = .ok (.tuple #[.agg cs, v]) w := by
  have hp' : tmps[p]?.getD undef = .pointer (some ⟨g, 0, none⟩) := by simpa using hp
  have hq' : tmps[q]?.getD undef = .pointer (some ⟨g2, 0, none⟩) := by simpa using hq
  simp [results, h, hp', hq', asAddr, run_loadVar_row w g t t1 cs fr d hg hu hd hi, hv]
theorem load_errno (W : World) (b : Nat) (h : W.cell? ⟨b, 0, none⟩ = some (I 0)) : (loadVar 38 ⟨b, 0, none⟩).run Tryz.prog W = .ok (I 0) W := by
  simp [go_sem, h]
theorem cells_newN {w : World} {t : TypeId} (d : Nd) (A : Option Addr) (c : Nat) : ∀ j u, (NdV.cells ⟨d, A, c⟩)[j]? = some u → (w.alloc (.cells (ndCells d A c) t)).cell? ((⟨w.heap.size, 0, none⟩ : Addr).add j) = some u := by
  intro j u hu
  rw [addr_add, (Row.new w _ t).2 j]
  simpa [NdV.cells] using hu
theorem rone_ok (x : NdV) : ∀ u ∈ x.cells, u.oneCell' = true := by have h := rcells_ok [x]; rwa [rcells_one] at h
theorem rules_isN {lo : Nat} {w : World} {A : Option Addr} {n c : Nat} {ns : List NdV} (h : RuleIs lo w (.slice A n c) ns) (hl : ∀ x ∈ ns, x.d.list.length ≤ 1000000) : RulesAt w w.heap.size A ns := by
  by_cases hn : ns = []
  · exact .inl (by rw [hn]; rfl)
  obtain ⟨g, cap, h1, h2, h3, h4⟩ := h.form hn
  injection h1 with h1 _ _
  refine .inr ⟨g, h1, h3, fun k x hx => ⟨fun j v hv => ?_, (h.lists x (List.mem_of_getElem? hx)).ints, by have := hl x (List.mem_of_getElem? hx); omega⟩⟩
  have hj : j < 8 := by have := (List.getElem?_eq_some_iff.1 hv).1; rw [x.len] at this; exact this
  exact h4 _ _ (by rw [rcells_get ns k j hj, hx]; exact hv)
def seTail (se : Ser) : List UInt8 := leAll [se.minute, se.length] ++ (textBytes se.zone ++ (leAll [se.gap, se.fold] ++ (le (se.moves.length : Int) 8 ++ (seMoves se.moves ++ []))))
theorem seBytes_split (se : Ser) : seBytes se = le (se.rule.length : Int) 8 ++ (seRule se.rule ++ seTail se) := by simp [seBytes, seHead, seMid, seTail, leAll]
end Go.Proofs.YthhbbebabmemfaaGreat
