/- kalendsref13.Made: the state under way. -/
import Derived.Test.YtbdkalpljhpnmaaGreatKg
import Derived.Test.YtbdkalpljhpnmaaGreatKf3
import Derived.BigQuiet
import Derived.Deep.AppendLies
import Derived.Deep.CutBlock
import Derived.Deep.DeepCutAuto
import Derived.Deep.DrawnRows
import Derived.Deep.MidRow
import Derived.Deep.QuietTactic
import Derived.Deep.RegionHeld3
import Derived.Deep.RegionLaw
import Derived.Deep.WholeRow
import Derived.Great.BuildSlice
import Derived.Handy
import Derived.Laws.BytesString
import Derived.Laws.CopyOwn
import Derived.Laws.EntriesVeiled
import Derived.Laws.MakeOwn
import Derived.Laws.ResultCell
import Derived.Laws.Rows
import Derived.Laws.Tables
import Derived.Lib.Hide
import Derived.LoopIn
import Derived.LoopNIn
import Derived.Maps.AppendAt
import Derived.Outline
import Derived.OwnWalkIn
import Derived.RangeFuncBound
import Derived.RangeFuncBox
import Derived.RangeFuncCalls
import Derived.RangeFuncLeaves
import Derived.RangeFuncNested
import Derived.Shelf.Abstract
import Derived.Shelf.Bytes.SlSmallAll
import Derived.Shelf.RegionOpen
import Derived.StillTailTactics
import Derived.Stop.BytesEq
import Derived.TacticsInMore
import Derived.WalkKit
import Derived.WalkLawsBesides
import Derived.WalkSpells
namespace Go.Proofs.YtbdkalpljhpnmaaGreat
open Go Go.RowKit

section
variable {P : Program} {ops : Array Oper} {Q : Exit → Act → World → Prop} {a : Act} {w : World} {rest : List Oper} {d : Option Tmp} {t : TypeId} {pos : String} {af : Array Edge} {g : Option (Nat × Bool)}
theorem g_sto (ty : TypeId) {x y : Operand} (h : wpList P ops Q (⟨d, .store ty x y, t, pos, af, g⟩ :: rest) a w) : wpList P ops Q (⟨d, .store ty x y, t, pos, af, g⟩ :: rest) a w := h
theorem g_loa (ty : TypeId) {x : Operand} (h : wpList P ops Q (⟨d, .load ty x, t, pos, af, g⟩ :: rest) a w) : wpList P ops Q (⟨d, .load ty x, t, pos, af, g⟩ :: rest) a w := h
end
def MadeP (w : World) (z : Zn) (e : Ending) (w' : World) : Prop := ∃ s, e = .returned (.agg (znCells z s)) ∧ ZnAt w' w'.heap.size s z ∧ Below w.heap.size w w'
theorem below_row {B g : Nat} {w W : World} {cs : Array Value} (h : Below B w W) (hg : B ≤ g) : Below B w (W.setRow g cs) := below_setRow h hg _
/-- The first state of kalendsref13.Made. -/
structure M0 (w : World) (xs : Array Value) (W : World) : Prop where
  x : Row W w.heap.size xs
  res : W.heap[w.heap.size + 1]? = some (.cells zZn 41 (0, 0))
  up : Below w.heap.size w W
theorem M0.start (w : World) (xs : Array Value) (t : TypeId) : M0 w xs ((w.alloc (.cells xs t)).alloc (.cells zZn 41)) :=
  ⟨(Row.new w xs t).keep (below_var _ _), heap_alloc2_new w _ _, below_trans (below_var w _) (below_var _ _)⟩
theorem M0.grow {w W W' : World} {xs : Array Value} (h : M0 w xs W) (hb : Below W.heap.size W W') : M0 w xs W' :=
  ⟨h.x.keep hb, (hb.block _ (lt_of_blk h.res)).trans h.res, below_trans h.up hb⟩
/-- The zone's variable is laid. -/
theorem M0.zone {w W : World} {xs cs zs : Array Value} (h : M0 w xs W) (t : TypeId) (mo : List Value) (hmo : cs.toList = mo) :
    MZ w xs (W.heap.size + 1) (W.heap.size + 2) zs (some ⟨W.heap.size, 0, none⟩) none none mo [] [] (((W.alloc (.cells cs t)).alloc (.cells zZn 41)).setRow (W.heap.size + 1) zs) := by
  have hlt := lt_of_blk h.res
  have hh : ((W.alloc (.cells cs t)).alloc (.cells zZn 41)).heap[W.heap.size + 1]? = some (.cells zZn 41 (0, 0)) := heap_alloc2_new W _ _
  have hb : Below W.heap.size W (((W.alloc (.cells cs t)).alloc (.cells zZn 41)).setRow (W.heap.size + 1) zs) := below_row (below_trans (below_var W _) (below_var _ _)) (by omega)
  refine ⟨h.x.keep hb, (hb.block _ hlt).trans h.res, setRow_heap _ _ _ _ _ _ hh, by omega, by omega, by simp [World.setRow], below_trans h.up hb, ?_, .nil, .nil⟩
  refine .inr ⟨W.heap.size, 0, rfl, by omega, by omega, by omega, fun j u hu => ?_⟩
  rw [Nat.zero_add]
  have h1 : (((W.alloc (.cells cs t)).alloc (.cells zZn 41)).setRow (W.heap.size + 1) zs).heap[W.heap.size]? = some (.cells cs t (0, 0)) := (setRow_other _ _ _ _ (by omega)).trans (heap_alloc2_old W _ _)
  rw [cell_of_row _ _ j _ _ _ h1, ← Array.getElem?_toList, hmo]
  exact hu
/-- New months and leap rules, newer than the zone's variable. -/
theorem MZ.relay {w W : World} {xs zs : Array Value} {zb B : Nat} {A R C : Option Addr} {mo ru : List Value} (h : MZ w xs zb B zs A R C mo ru [] W) (cs1 cs2 : Array Value) (t1 t2 : TypeId) (l1 l2 : List Value) (e1 : cs1.toList = l1) (e2 : cs2.toList = l2) :
    MZ w xs zb (W.heap.size + 2) zs (some ⟨W.heap.size, 0, none⟩) (some ⟨W.heap.size + 1, 0, none⟩) none l1 l2 [] ((W.alloc (.cells cs1 t1)).alloc (.cells cs2 t2)) := by
  have hb : Below W.heap.size W ((W.alloc (.cells cs1 t1)).alloc (.cells cs2 t2)) := below_trans (below_var W _) (below_var _ _)
  have hg := h.grow hb
  have hz := h.zlt
  have hlo := h.lo
  refine ⟨hg.x, hg.res, hg.z, hg.lo, by omega, by simp, hg.up, .inr ⟨W.heap.size, 0, rfl, by omega, by omega, by omega, fun j u hu => ?_⟩, .inr ⟨W.heap.size + 1, 0, rfl, by omega, by omega, by omega, fun j u hu => ?_⟩, .nil⟩
  · rw [Nat.zero_add, cell_of_row _ _ j _ _ _ (heap_alloc2_old W _ _), ← Array.getElem?_toList, e1]
    exact hu
  · rw [Nat.zero_add, cell_of_row _ _ j _ _ _ (heap_alloc2_new W _ _), ← Array.getElem?_toList, e2]
    exact hu
theorem mcnt_or (x : RwZ) : mcnt x = x.gaps.length ∨ mcnt x = x.offs.length ∨ mcnt x = 3 := by
  have e : mcnt x = min (min x.gaps.length x.offs.length) 3 := rfl
  omega
def TlRel (w : World) (x : RwZ) (xs : Array Value) (zb B : Nat) (zs : Value → Array Value) (A R : Option Addr) (mo ru : List Value) (cnt : Nat) (a i : Value) (wr : World) : Prop :=
  ∃ (k cc : Nat) (C : Option Addr), k ≤ cnt ∧ a = .int .i64 (atF x.gaps k) ∧ i = .int .i64 k ∧ TrsO B wr C k cc (mtrs x.gaps x.offs k) ∧ MZ w xs zb B (zs (.slice C k cc)) A R none mo ru [] wr
theorem bytes_there {w W : World} {A : Option Addr} {bs : List UInt8} (h : CellsAt w w.heap.size A (bs.map Extern.Stop.cell)) (hb : Below w.heap.size w W) (h0 : 0 < bs.length) : ∃ b off, A = some ⟨b, off, none⟩ ∧ b < w.heap.size ∧ ∀ k, k < bs.length → W.cell? ⟨b, off + k, none⟩ = some (.int .u8 ((bs[k]?.getD 0).toNat : Int)) := by
  obtain ⟨b, off, e, hb1, hc⟩ := h.there (by rw [List.length_map]; exact h0)
  refine ⟨b, off, e, hb1, fun k hk => ?_⟩
  rw [hb.cell (p := ⟨b, off + k, none⟩) hb1]
  exact hc k _ (by rw [List.getElem?_map, List.getElem?_eq_getElem hk]; rfl)
theorem mtrs_cells (g o : List UInt8) (k : Nat) : (mtrs g o (k + 1)).flatMap Tr.cells = (mtrs g o k).flatMap Tr.cells ++ [I (atF g (k + 1)), I (someF (o[k]?.getD 0).toNat)] := by
  simp [mtrs, Tr.cells]
theorem TrsO.cellB {lo n c zb o : Nat} {w : World} {A : Option Addr} {ts : List Tr} (h : TrsO lo w A n c ts) (hz : zb < lo) (v : Value) : TrsO lo (w.setCell ⟨zb, o, none⟩ v) A n c ts := ownsRow_setCell_below (a := ⟨zb, o, none⟩) h hz v
theorem news_lit (w : World) (t : TypeId) (cs : Array Value) (l : List Value) (h : cs.toList = l) : ∀ j u, l[j]? = some u → (w.alloc (.cells cs t)).cell? ((⟨w.heap.size, 0, none⟩ : Addr).add j) = some u := by
  intro j u hu
  rw [addr_add, cell_of_row _ _ j _ _ _ (heap_alloc_last w _), ← Array.getElem?_toList, h]
  exact hu
theorem own_base {w : World} {base e size n : Nat} {v : Value} {xs : List Value} (h : w.ownsRow base e size v n xs) : ∀ g, v.ownBlock = some g → base ≤ g := fun g hg => (World.ownsRow.lt h g hg).1
theorem own_below {w w' : World} {base e size n : Nat} {v : Value} {xs : List Value} (h : w.ownsRow base e size v n xs) (hb : Below w.heap.size w w') : w'.ownsRow base e size v n xs :=
  World.ownsRow.kept (row := none) h ⟨hb.os, hb.tape, hb.output, hb.size, fun k hk _ => hb.block k hk⟩ (by cases v.ownBlock <;> simp)
theorem ne_own {v : Value} {b : Nat} (h : ∀ g, v.ownBlock = some g → g < b) : some b ≠ v.ownBlock := fun e => by have := h b e.symm; omega
theorem Row.grown {w w' : World} {b : Nat} {cs : Array Value} {row : Option Nat} (h : Row w b cs) (hg : w.grownBy w' row) (hn : some b ≠ row) : Row w' b cs :=
  ⟨Nat.lt_of_lt_of_le h.1 hg.size, fun i => (World.cell?_of_block (a := ⟨b, i, none⟩) (hg.block b h.1 hn)).trans (h.2 i)⟩
theorem wpAnyH_take_dd {P : Program} {ops : Array Oper} {Q : Exit → Act → World → Prop} {md : Region.Mode} {S : World → Prop} {i : Nat} {oi : Oper} {v : Value} {d : Tmp} {fuel : Nat} {listed : Array Bool} {a : Act} {w : World} (hi : ops[i]? = some oi) (hd : oi.dst = some d)
    (hs : Region.noSelect ops = true) (hf : Region.free md ops listed i = true) (hr : (Region.ready md ops listed).contains i = true)
    (hQ : ∀ c a w, Q (.panic c) (a.put oi.dst v) w → Q (.panic c) a w) (hy : YieldsIf P ops S oi v a) (hS : S w)
    (h : wpAnyH P md ops Q S fuel (listed.setIfInBounds i true) (a.put (some d) v) w) : wpAnyH P md ops Q S (fuel + 1) listed a w :=
  wpAnyH_take hi hs hf hr hQ hy hS (by rw [hd]; exact h)
/-- The year rule's data. -/
def YvS (yv : Nat) (a b c d : Value) (w : World) : Prop := w.cell? ⟨yv, 0, none⟩ = some a ∧ w.cell? ⟨yv, 1, none⟩ = some b ∧ w.cell? ⟨yv, 2, none⟩ = some c ∧ w.cell? ⟨yv, 3, none⟩ = some d
theorem YvS.of {yv : Nat} {a b c d : Value} {w : World} (h : Row w yv #[a, b, c, d]) : YvS yv a b c d w := ⟨h.2 0, h.2 1, h.2 2, h.2 3⟩
theorem MZ.next {w W : World} {xs zs : Array Value} {zb B n c : Nat} {A R C : Option Addr} {mo ru : List Value} {ts : List Tr} (h : MZ w xs zb B zs A R none mo ru [] W) (ho : TrsO B W C n c ts) (hl : w.heap.size + 2 ≤ B) : MZ w xs zb W.heap.size zs A R C mo ru (ts.flatMap Tr.cells) W :=
  ⟨h.x, h.res, h.z, h.lo, h.zlt, Nat.le_refl _, h.up, h.mon.more h.sz, h.rul.more h.sz, LZ.of_own ho hl h.hi (Nat.le_refl _)⟩
theorem zn0_cells_0 (x : RwZ) (mb cnt cc : Nat) (C : Option Addr) {st hz : Int} (hp : x.cal.toNat % 2 = 0) (hc : mcnt x = cnt) (hs : someF x.st.toNat = st) (hh : atF x.gaps cnt + 2160 + 20 * (x.bh.toNat : Int) = hz) :
    znCells (zn0 x) ⟨some ⟨mb, 0, none⟩, 2, none, 0, C, cc, none, 0⟩ = #[I 2, .slice (some ⟨mb, 0, none⟩) 2 2, I (-1), .slice none 0 0, I st, .slice C cnt cc, I hz, .slice none 0 0] := by
  have e : mcal x.cal = ⟨2, [7, 6], -1, []⟩ := by unfold mcal; rw [if_neg (by omega)]
  unfold znCells zn0
  simp only [e, hc, mtrs_len, hs, hh]
  rfl
theorem zn0_cells_1 (x : RwZ) (mb cnt cc : Nat) (C : Option Addr) {st hz : Int} (hp : x.cal.toNat % 2 = 1) (hc : mcnt x = cnt) (hs : someF x.st.toNat = st) (hh : atF x.gaps cnt + 2160 + 20 * (x.bh.toNat : Int) = hz) :
    znCells (zn0 x) ⟨some ⟨mb, 0, none⟩, 2, some ⟨mb + 1, 0, none⟩, 1, C, cc, none, 0⟩ = #[I 5, .slice (some ⟨mb, 0, none⟩) 2 2, I 1, .slice (some ⟨mb + 1, 0, none⟩) 1 1, I st, .slice C cnt cc, I hz, .slice none 0 0] := by
  have e : mcal x.cal = ⟨5, [7, 8], 1, [⟨2, ((x.cal.toNat / 2 % 2 : Nat) : Int), true⟩]⟩ := by unfold mcal; rw [if_pos hp]
  unfold znCells zn0
  simp only [e, hc, mtrs_len, hs, hh]
  rfl
theorem zn0_at0 (x : RwZ) {W : World} {B cnt : Nat} {s : Zs} (hp : x.cal.toNat % 2 = 0) (hc : mcnt x = cnt) (h1 : CellsAt W B s.A [I 7, I 6]) (h3 : CellsAt W B s.C ((mtrs x.gaps x.offs cnt).flatMap Tr.cells)) : ZnAt W B s (zn0 x) := by
  have e : mcal x.cal = ⟨2, [7, 6], -1, []⟩ := by unfold mcal; rw [if_neg (by omega)]
  refine ⟨?_, ?_, ?_, .nil⟩
  · show CellsAt W B s.A ((mcal x.cal).months.map I)
    rw [e]; exact h1
  · show CellsAt W B s.B ((mcal x.cal).rules.flatMap Lr.cells)
    rw [e]; exact .nil
  · show CellsAt W B s.C ((mtrs x.gaps x.offs (mcnt x)).flatMap Tr.cells)
    rw [hc]; exact h3
theorem zn0_at1 (x : RwZ) {W : World} {B cnt r : Nat} {s : Zs} (hp : x.cal.toNat % 2 = 1) (hr : x.cal.toNat / 2 % 2 = r) (hc : mcnt x = cnt) (h1 : CellsAt W B s.A [I 7, I 8]) (h2 : CellsAt W B s.B [I 2, I (r : Int), .bool true]) (h3 : CellsAt W B s.C ((mtrs x.gaps x.offs cnt).flatMap Tr.cells)) : ZnAt W B s (zn0 x) := by
  have e : mcal x.cal = ⟨5, [7, 8], 1, [⟨2, (r : Int), true⟩]⟩ := by unfold mcal; rw [if_pos hp, hr]
  refine ⟨?_, ?_, ?_, .nil⟩
  · show CellsAt W B s.A ((mcal x.cal).months.map I)
    rw [e]; exact h1
  · show CellsAt W B s.B ((mcal x.cal).rules.flatMap Lr.cells)
    rw [e]; exact h2
  · show CellsAt W B s.C ((mtrs x.gaps x.offs (mcnt x)).flatMap Tr.cells)
    rw [hc]; exact h3
end Go.Proofs.YtbdkalpljhpnmaaGreat
