/- The texts Lf, Lg, Lh, Li, Lj, in this order. -/
import Derived.Test.YtbdkalpljhpnmaaGreatG06
import Derived.BigQuiet
import Derived.Deep.AppendLies
import Derived.Deep.CutBlock
import Derived.Deep.DeepCutAuto
import Derived.Deep.DrawnRows
import Derived.Deep.MidRow
import Derived.Deep.QuietTactic
import Derived.Deep.RegionHeld3
import Derived.Deep.RegionLaw
import Derived.Deep.WholeRow
import Derived.Great.BuildSlice
import Derived.Handy
import Derived.Laws.BytesString
import Derived.Laws.CopyOwn
import Derived.Laws.EntriesVeiled
import Derived.Laws.MakeOwn
import Derived.Laws.ResultCell
import Derived.Laws.Rows
import Derived.Laws.Tables
import Derived.Lib.Hide
import Derived.LoopIn
import Derived.LoopNIn
import Derived.Maps.AppendAt
import Derived.Outline
import Derived.OwnWalkIn
import Derived.RangeFuncBound
import Derived.RangeFuncBox
import Derived.RangeFuncCalls
import Derived.RangeFuncLeaves
import Derived.RangeFuncNested
import Derived.Shelf.Abstract
import Derived.Shelf.Bytes.SlSmallAll
import Derived.Shelf.RegionOpen
import Derived.StillTailTactics
import Derived.Stop.BytesEq
import Derived.TacticsInMore
import Derived.WalkKit
import Derived.WalkLawsBesides
import Derived.WalkSpells
import Derived.Test.YtbdkalpljhpnmaaGreatG03
import Derived.Test.YtbdkalpljhpnmaaGreatG02
/- kalendsref14.Made: the data, the state. -/
namespace Go.Proofs.YtbdkalpljhpnmaaGreat
open Go Go.RowKit

theorem info_tab14 : (Tryz.prog.info? 47).map (fun i => (i.zero, i.size, i.bytes)) = some (some (.agg (tbVal zTb (.slice none 0 0))), 68, 112) := by kernel_rfl
section
variable {ops : Array Oper} {rest : List Oper} {o : Oper} {a : Act} {Q : Exit → Act → World → Prop} {w : World}
theorem wpList_tab_slice14 (hgd : o.guard = none) (x : Operand) (ho : o.op = .buildSlice 26 1 #[(0, x)]) (cs : Array Value) (hcs : cs.size = 68)
    (hx : a.eval x = .agg cs) (h : wpList Tryz.prog ops Q rest (a.put o.dst (.slice (some ⟨w.heap.size, 0, none⟩) 1 1)) (w.alloc (.cells cs 47))) : wpList Tryz.prog ops Q (o :: rest) a w := by
  obtain ⟨i0, hi, hz0, hz1, hz2⟩ := info_parts info_tab14
  refine wpList_buildSlice hgd 26 47 1 _ ho cs i0 (.agg (tbVal zTb (.slice none 0 0))) Tryz.underlying26 hi hz0 (by rw [hz1]; decide) (by rw [hz1]; decide) ?_ h
  rw [hz1]
  simp only [List.map_toArray, List.map_cons, List.map_nil, hx]
  have h := Go.Great.fill_whole (s := 68) (by omega) [.agg cs] ((Array.range (1 * 68)).map ((Value.agg (tbVal zTb (.slice none 0 0))).cells[· % (Value.agg (tbVal zTb (.slice none 0 0))).cells.size]!)) (fun v hv => by simp at hv; subst hv; exact hcs) (by simp)
  have e : ([Value.agg cs].flatMap fun v => v.cells.toList).toArray = cs := by simp [Value.cells]
  rw [e] at h
  exact h
theorem g_bslice14 {P : Program} (ty : TypeId) {n : Nat} {x : Array (Nat × Operand)} {d : Option Tmp} {t : TypeId} {pos : String} {af : Array Edge} {g : Option (Nat × Bool)} (h : wpList P ops Q (⟨d, .buildSlice ty n x, t, pos, af, g⟩ :: rest) a w) : wpList P ops Q (⟨d, .buildSlice ty n x, t, pos, af, g⟩ :: rest) a w := h
end
/-- A chain's description. -/
structure RawV where
  iss : UInt8
  key : List UInt8
  A : Option Addr
  c : Nat
  its : List ItV
def RawV.cells (r : RawV) : List Value := Extern.Stop.cell r.iss :: (refCells r.key ++ [.slice r.A r.its.length r.c])
theorem RawV.len (r : RawV) (h : r.key.length = 32) : r.cells.length = 34 := by simp [RawV.cells, refCells, h]
structure RawAt (w : World) (B : Nat) (r : RawV) : Prop where
  key : r.key.length = 32
  len : r.its.length ≤ 9223372036854775807
  row : CellsAt w B r.A (r.its.flatMap fun x => x.cells.toList)
  each : ∀ x ∈ r.its, ItAt w B x
theorem RawAt.keep {w w' : World} {B : Nat} {r : RawV} (h : RawAt w B r) (hb : Below B w w') : RawAt w' B r := ⟨h.key, h.len, h.row.keep hb, fun v hv => (h.each v hv).keep hb⟩
theorem RawAt.more {w : World} {B B' : Nat} {r : RawV} (h : RawAt w B r) (hB : B ≤ B') : RawAt w B' r := ⟨h.key, h.len, h.row.more hB, fun v hv => (h.each v hv).more hB⟩
theorem raw_key {W : World} {b : Nat} {r : RawV} (h : RowU W b r.cells.toArray) : W.rangeAt b 1 (refCells r.key) := fun j v hv => by
  rw [h.2 (1 + j)]
  unfold RawV.cells
  have hj := (List.getElem?_eq_some_iff.1 hv).1
  rw [List.getElem?_toArray, Nat.add_comm 1 j, List.getElem?_cons_succ, List.getElem?_append_left hj]
  exact hv
theorem raw_its (r : RawV) (h : r.key.length = 32) : r.cells.toArray[33]? = some (.slice r.A r.its.length r.c) := by
  unfold RawV.cells
  rw [List.getElem?_toArray, show (33 : Nat) = 32 + 1 from rfl, List.getElem?_cons_succ, List.getElem?_append_right (by simp [refCells, h])]
  simp [refCells, h]
/-- A table's zones in memory from lo on, beside the own list v. -/
def TbMem (lo : Nat) (v : Value) (W : World) (y : TbV) : Prop := LV lo v W y.A (zecells y.zs) ∧ ∀ z ∈ y.zs, ZnMem lo v W z.s z.e.z
theorem TbMem.keep {lo : Nat} {v v' : Value} {W W' : World} {y : TbV} (h : TbMem lo v W y) (hs : W.heap.size ≤ W'.heap.size) (hb : ∀ b, lo ≤ b → b < W.heap.size → some b ≠ v.ownBlock → W'.heap[b]? = W.heap[b]? ∧ some b ≠ v'.ownBlock) : TbMem lo v' W' y :=
  ⟨h.1.keep hs hb, fun z hz => (h.2 z hz).keep hs hb⟩
theorem LV.of2 {lo lo' B : Nat} {v : Value} {W : World} {A : Option Addr} {cs : List Value} (h : CellsAt W B A cs) (hB : B ≤ W.heap.size) (h2 : LowA lo' A cs) (hlo : lo ≤ lo') (hv : ∀ b, lo' ≤ b → b < B → some b ≠ v.ownBlock) : LV lo v W A cs := by
  rcases h with h | ⟨b, off, e, hb, hc⟩
  · exact .inl h
  · rcases h2 with h2 | ⟨b2, off2, e2, hl⟩
    · exact .inl h2
    · rw [e] at e2
      injection e2 with e2
      injection e2 with e3 e4
      subst e3
      exact .inr ⟨b, off, e, by omega, by omega, hv b hl hb, hc⟩
theorem TbMem.of {lo lo' B : Nat} {v : Value} {W : World} {y : TbV} (h : TbAt W B y) (hB : B ≤ W.heap.size) (h2 : TbLow lo' y) (hlo : lo ≤ lo') (hv : ∀ b, lo' ≤ b → b < B → some b ≠ v.ownBlock) : TbMem lo v W y :=
  ⟨.of2 h.zones.row hB h2.1 hlo hv, fun z hz => ⟨.of2 (h.zones.each z hz).months hB (h2.2 z hz).1 hlo hv, .of2 (h.zones.each z hz).rules hB (h2.2 z hz).2.1 hlo hv, .of2 (h.zones.each z hz).trans hB (h2.2 z hz).2.2.1 hlo hv, .of2 (h.zones.each z hz).yearly hB (h2.2 z hz).2.2.2 hlo hv⟩⟩
theorem LV.lowB {lo lo' : Nat} {v : Value} {W : World} {A : Option Addr} {cs : List Value} (h : LV lo v W A cs) (hl : lo' ≤ lo) : LV lo' v W A cs := by
  rcases h with h | ⟨b, off, h1, h2, h3⟩
  · exact .inl h
  · exact .inr ⟨b, off, h1, Nat.le_trans hl h2, h3⟩
theorem LV.vary {lo : Nat} {v v' : Value} {W : World} {A : Option Addr} {cs : List Value} (h : LV lo v W A cs) (hv : ∀ b, lo ≤ b → b < W.heap.size → some b ≠ v'.ownBlock) : LV lo v' W A cs := by
  rcases h with h | ⟨b, off, h1, h2, h3, h4, h5⟩
  · exact .inl h
  · exact .inr ⟨b, off, h1, h2, h3, hv b h2 h3, h5⟩
theorem TbMem.vary {lo lo' : Nat} {v v' : Value} {W : World} {y : TbV} (h : TbMem lo v W y) (hl : lo' ≤ lo) (hv : ∀ b, lo ≤ b → b < W.heap.size → some b ≠ v'.ownBlock) : TbMem lo' v' W y :=
  ⟨(h.1.vary hv).lowB hl, fun z hz => ⟨((h.2 z hz).1.vary hv).lowB hl, ((h.2 z hz).2.1.vary hv).lowB hl, ((h.2 z hz).2.2.1.vary hv).lowB hl, ((h.2 z hz).2.2.2.vary hv).lowB hl⟩⟩
theorem TbMem.low {lo lo' : Nat} {v : Value} {W : World} {y : TbV} (h : TbMem lo v W y) (hl : lo' ≤ lo) : TbLow lo' y := ⟨h.1.low hl, fun z hz => ⟨(h.2 z hz).1.low hl, (h.2 z hz).2.1.low hl, (h.2 z hz).2.2.1.low hl, (h.2 z hz).2.2.2.low hl⟩⟩
/-- What a made table is besides. -/
structure TbF (y : TbV) : Prop where
  made : TbM y.t
  names : y.t.zones = y.zs.map (·.e)
  prev : y.t.prev.length = 32
  mac : y.t.mac.length = 32
theorem TbF.size {y : TbV} (h : TbF y) : y.cells.length = 68 := by
  have := tb_size y.t (.slice y.A y.zs.length y.c) h.prev h.mac
  simpa [tbVal, TbV.cells] using this
theorem TbF.at {y : TbV} (h : TbF y) {lo : Nat} {v : Value} {W : World} (hm : TbMem lo v W y) : TbAt W W.heap.size y := ⟨h.names, h.prev, h.mac, ⟨hm.1.at, fun z hz => (hm.2 z hz).at⟩⟩
/-- Made under way. -/
structure MdW (w : World) (rc : Array Value) (k c : Nat) (A : Option Addr) (ts : List TbV) (W : World) : Prop where
  it : AV w.heap.size 32 rc W
  lo : Below w.heap.size w W
  own : W.ownsRow (w.heap.size + 1) 47 68 (.slice A k c) k (ts.flatMap TbV.cells)
  mem : ∀ y ∈ ts, TbMem (w.heap.size + 1) (.slice A k c) W y
  each : ∀ y ∈ ts, TbF y
section
variable {w W W' : World} {rc : Array Value} {k c : Nat} {A : Option Addr} {ts : List TbV}
theorem MdW.step (h : MdW w rc k c A ts W) (ho : W'.os = W.os) (htp : W'.tape = W.tape) (hou : W'.output = W.output) (hs : W.heap.size ≤ W'.heap.size) (hb : ∀ b, b < W.heap.size → W'.heap[b]? = W.heap[b]?) : MdW w rc k c A ts W' :=
  have hB : Below W.heap.size W W' := ⟨ho, htp, hou, hs, hb⟩
  ⟨h.it.below hB, below_trans h.lo hB, own_below h.own hB, fun y hy => (h.mem y hy).keep hs fun b _ h2 h3 => ⟨hb b h2, h3⟩, h.each⟩
theorem MdW.grow (h : MdW w rc k c A ts W) (hb : Below W.heap.size W W') : MdW w rc k c A ts W' := h.step hb.os hb.tape hb.output hb.size hb.block
theorem MdW.drew (h : MdW w rc k c A ts W) : MdW w rc k c A ts W.drew := h.grow ((Below.refl _ W).drew)
theorem MdW.lt (h : MdW w rc k c A ts W) : w.heap.size < W.heap.size := h.it.lt
theorem MdW.chain (h : MdW w rc k c A ts W) : ChAt W W.heap.size A ts := ⟨CellsAt.of_own h.own, fun y hy => (h.each y hy).at (h.mem y hy)⟩
theorem MdW.ownlt (h : MdW w rc k c A ts W) : ∀ b, W.heap.size ≤ b → some b ≠ (Value.slice A k c).ownBlock := fun b hb e => by
  have := World.ownsRow.lt h.own b e.symm
  omega
theorem MdW.add {Wb w6 : World} {gg cap : Nat} {y : TbV} (h : MdW w rc k c A ts W) (hy : TbMem (w.heap.size + 1) (.slice A k c) W y) (hf : TbF y) (hWb : Wb = W.alloc (.cells y.cells.toArray 47))
    (hown : w6.ownsRow (w.heap.size + 1) 47 68 (.slice (some ⟨gg, 0, none⟩) (k + 1) cap) (k + 1) (ts.flatMap TbV.cells ++ y.cells)) (hg : Wb.grownBy w6 (Value.slice A k c).ownBlock) (hat : (Value.slice A k c).ownBlock = some gg ∨ gg = Wb.heap.size) :
    MdW w rc (k + 1) cap (some ⟨gg, 0, none⟩) (ts ++ [y]) w6 := by
  have hsb : Wb.heap.size = W.heap.size + 1 := by rw [hWb]; simp
  have hlt := h.lt
  have hs6 : W.heap.size ≤ w6.heap.size := by have := hg.size; omega
  have hbl : ∀ b, b < W.heap.size → some b ≠ (Value.slice A k c).ownBlock → w6.heap[b]? = W.heap[b]? := fun b hb hn =>
    (hg.block b (by omega) hn).trans (by rw [hWb]; exact Below.heap_alloc W _ b hb)
  have hlow : ∀ b, b < w.heap.size + 1 → some b ≠ (Value.slice A k c).ownBlock := own_ge h.own
  have hmm : ∀ b, w.heap.size + 1 ≤ b → b < W.heap.size → some b ≠ (Value.slice A k c).ownBlock → w6.heap[b]? = W.heap[b]? ∧ some b ≠ (Value.slice (some ⟨gg, 0, none⟩) (k + 1) cap).ownBlock := fun b h1 h2 h3 => by
    refine ⟨hbl b h2 h3, fun e => ?_⟩
    have e2 : b = gg := by simpa [Value.ownBlock] using e
    rcases hat with e3 | e3
    · exact h3 (by rw [e2]; exact e3.symm)
    · omega
  have h1 : Below w.heap.size w Wb := by rw [hWb]; exact below_trans h.lo (below_var W _)
  have hob : Wb.ownsRow (w.heap.size + 1) 47 68 (.slice A k c) k (ts.flatMap TbV.cells) := by rw [hWb]; exact own_below h.own (below_var W _)
  refine ⟨⟨(hbl _ (by omega) (hlow _ (by omega))).trans h.it.var⟩, below_grown' h1 (ownsRow_base' hob (by omega)) (by omega) hg, by simpa using hown, fun y' hy' => ?_, fun y' hy' => ?_⟩
  · rcases List.mem_append.1 hy' with h1 | h1
    · exact (h.mem y' h1).keep hs6 hmm
    · obtain rfl := List.mem_singleton.1 h1
      exact hy.keep hs6 hmm
  · rcases List.mem_append.1 hy' with h1 | h1
    · exact h.each y' h1
    · obtain rfl := List.mem_singleton.1 h1
      exact hf
end
/-- What the round reads. -/
def MdI (w : World) (r : RawV) (ib io n k : Nat) (x : ItV) (W : World) : Prop :=
  W.cell? ⟨w.heap.size, 0, none⟩ = some (.int .u8 (r.iss.toNat : Int)) ∧ W.cell? ⟨w.heap.size, 33, none⟩ = some (.slice (some ⟨ib, io, none⟩) n r.c) ∧ W.rangeAt w.heap.size 1 (refCells r.key) ∧ W.rangeAt ib (io + k * 2) x.cells.toList
theorem MdI.of {w W : World} {r : RawV} {ib io n k : Nat} {x : ItV} (hk : r.key.length = 32) (hn : r.its.length = n) (hA : r.A = some ⟨ib, io, none⟩) (hit : AV w.heap.size 32 r.cells.toArray W) (hlo : Below w.heap.size w W) (hr : w.rangeAt ib (io + k * 2) x.cells.toList) (hb : ib < w.heap.size) : MdI w r ib io n k x W :=
  ⟨hit.cell 0, by rw [hit.cell 33, raw_its r hk, hn, hA], raw_key hit.rowU, rangeAt_keep hr hlo hb⟩
theorem nxZes_get (vs : List RwV) (k : Nat) (e : Ze) (h : (nxZes vs)[k]? = some e) : k < 3 ∧ ∃ v : RwV, e = ⟨zname k, madeZn v.x⟩ := by
  unfold nxZes at h
  rw [List.getElem?_mapIdx] at h
  cases hv : (vs.take 3)[k]? with
  | none => rw [hv] at h; cases h
  | some v =>
    rw [hv] at h
    have hk := (List.getElem?_eq_some_iff.1 hv).1
    rw [List.length_take] at hk
    injection h with h
    exact ⟨by omega, v, h.symm⟩
theorem nxZes_len (vs : List RwV) : (nxZes vs).length ≤ 3 := by
  unfold nxZes
  rw [List.length_mapIdx, List.length_take]
  omega
theorem tbM_next {n : Nat} {iss : UInt8} {x : ItV} {y : TbV} (hn : n ≤ 4) (h1 : y.t.issuer = (iss.toNat : Int) % 16) (h2 : y.t.version = (n : Int) + 1) (h3 : y.t.withdraws = (x.wd.toNat : Int) % ((n : Int) + 1)) (h4 : n = 0 → y.t.prev = zero32) (h5 : y.t.zones = nxZes x.vs) : TbM y.t := by
  have hb := byte_lt iss
  have hw1 : 0 ≤ (x.wd.toNat : Int) % ((n : Int) + 1) := Int.emod_nonneg _ (by omega)
  have hw2 : (x.wd.toNat : Int) % ((n : Int) + 1) < (n : Int) + 1 := Int.emod_lt_of_pos _ (by omega)
  refine ⟨by rw [h1]; omega, by rw [h2]; omega, by rw [h3, h2]; exact ⟨hw1, hw2⟩, fun h => h4 (by rw [h2] at h; omega), by rw [h5]; exact nxZes_len _, fun e he => ?_, fun k e he => ?_⟩
  · rw [h5] at he
    obtain ⟨k, hk⟩ := List.getElem?_of_mem he
    obtain ⟨_, v, rfl⟩ := nxZes_get _ _ _ hk
    exact madeZn_ok v.x
  · rw [h5] at he
    obtain ⟨_, v, rfl⟩ := nxZes_get _ _ _ he
    rfl
theorem TbM.sealed {t : Tb} (h : TbM t) (d : List UInt8) : TbM { t with mac := d } := ⟨h.issuer, h.version, h.withdraws, h.first, h.num, h.zones, h.names⟩
end Go.Proofs.YtbdkalpljhpnmaaGreat

/- kalendsref14.Made. -/
namespace Go.Proofs.YtbdkalpljhpnmaaGreat
open Go Go.RowKit

section
variable {P : Program} {ops : Array Oper} {o : Oper} {a : Act} {w : World} {K : Act → World → Prop} {Q : Exit → Act → World → Prop} {E : Prop}
theorem step_alloc_nm14 (hgd : o.guard = none) (t : TypeId) (ho : o.op = .alloc t) (cells : Array Value) (hz : (P.info? t).map (fun i => (i.zero, i.size)) = some (some (.agg cells), cells.size))
    (h : K (a.put o.dst (.pointer (some ⟨w.heap.size, 0, none⟩))) (w.alloc (.cells cells t))) : if Region.wanted o (yielded ops a.tmps) = true then Oper.wp P o a w K Q else E := by
  have hw : Region.wanted o (yielded ops a.tmps) = true := by simp [Region.wanted, hgd]
  rw [if_pos hw]
  unfold Oper.wp execOp
  simp only [ho, Sem.run_bind, run_alloc_var w t (.agg cells) _ hz, Result.andThen_ok]
  exact h
theorem step_store_nm14 (hgd : o.guard = none) (ty : TypeId) (x y : Operand) (ho : o.op = .store ty x y) (g : Nat) (cells : Array Value) (hx : a.eval x = .pointer (some ⟨g, 0, none⟩)) (hy : a.eval y = .agg cells)
    (t : TypeId) (old : Array Value) (hg : w.heap[g]? = some (.cells old t (0, 0))) (hi : (P.info? ty).map (·.size) = some cells.size) (hold : old.size = cells.size) (h1 : cells.all (·.oneCell') = true)
    (h : K (a.put o.dst undef) (w.setRow g cells)) : if Region.wanted o (yielded ops a.tmps) = true then Oper.wp P o a w K Q else E := by
  have hw : Region.wanted o (yielded ops a.tmps) = true := by simp [Region.wanted, hgd]
  rw [if_pos hw]
  exact wp_store_row ty x y ho g cells hx hy t old hg hi hold h1 h
end
/-- A chain in memory that is not older than lo. -/
def ChLow (lo : Nat) (A : Option Addr) (ts : List TbV) : Prop := LowA lo A (ts.flatMap TbV.cells) ∧ ∀ y ∈ ts, TbLow lo y
/-- What Made gives. -/
def MadeC (w : World) (e : Ending) (w' : World) : Prop :=
  ∃ A n c ts, e = .returned (.slice A n c) ∧ ts.length = n ∧ n ≤ 5 ∧ ChAt w' w'.heap.size A ts ∧ (∀ y ∈ ts, TbM y.t) ∧ ChLow w.heap.size A ts ∧ Below w.heap.size w w'
theorem MdW.fin {w W : World} {rc : Array Value} {k c : Nat} {A : Option Addr} {ts : List TbV} (h : MdW w rc k c A ts W) : ChLow w.heap.size A ts := by
  refine ⟨?_, fun y hy => (h.mem y hy).low (Nat.le_succ _)⟩
  rcases h.own.2 with ⟨hv, hn⟩ | ⟨g, cap, cur, hv, hg, _⟩
  · refine .inl ?_
    rw [h.own.1, hn, Nat.zero_mul]
  · injection hv with h1 _ _
    exact .inr ⟨g, 0, h1, by omega⟩
theorem tab_one (y : TbV) : ∀ u ∈ y.cells, u.oneCell' = true := by
  have h := tbVal_one y.t y.A y.zs.length y.c
  rw [Array.all_eq_true_iff_forall_mem] at h
  intro u hu
  exact h u (by simpa [tbVal, TbV.cells] using hu)
theorem TbLow.mono {lo lo' : Nat} {y : TbV} (h : TbLow lo y) (hl : lo' ≤ lo) : TbLow lo' y :=
  have f : ∀ {A cs}, LowA lo A cs → LowA lo' A cs := fun h => h.imp id fun ⟨b, off, e, h1⟩ => ⟨b, off, e, Nat.le_trans hl h1⟩
  ⟨f h.1, fun z hz => ⟨f (h.2 z hz).1, f (h.2 z hz).2.1, f (h.2 z hz).2.2.1, f (h.2 z hz).2.2.2⟩⟩
theorem TbMem.grow {lo : Nat} {v : Value} {W W' : World} {y : TbV} (h : TbMem lo v W y) (hb : Below W.heap.size W W') : TbMem lo v W' y := h.keep hb.size fun b _ h2 h3 => ⟨hb.block b h2, h3⟩
theorem not_old {vb B B' : Nat} (h : vb < B) : ∀ b, B ≤ b → b < B' → some b ≠ (Value.slice (some ⟨vb, 0, none⟩) 1 1).ownBlock := fun b h1 _ e => by
  have e2 : b = vb := by simpa [Value.ownBlock] using e
  omega
theorem not_new {lo : Nat} (B : Nat) : ∀ b, lo ≤ b → b < B → some b ≠ (Value.slice (some ⟨B, 0, none⟩) 1 1).ownBlock := fun b _ h1 e => by
  have e2 : b = B := by simpa [Value.ownBlock] using e
  omega
/-- Behind the drawn region: the sealed table lies in its variable. -/
structure MdT (w : World) (r : RawV) (V : World) (k c : Nat) (A : Option Addr) (ts : List TbV) (vb : Nat) (y : TbV) (W : World) : Prop where
  md : MdW w r.cells.toArray k c A ts W
  var : AV vb 47 (tbVal y.t (.slice y.A y.zs.length y.c)) W
  mem : TbMem (w.heap.size + 1) (.slice A k c) W y
  each : TbF y
theorem MdT.of {w V W : World} {r : RawV} {k c vb : Nat} {A : Option Addr} {ts : List TbV} {y : TbV} {d : List UInt8} (h : MdW w r.cells.toArray k c A ts V) {cs : Array Value} (hb : Below V.heap.size V (W.setRow vb cs)) (hv : AV vb 47 (tbVal { y.t with mac := d } (.slice y.A y.zs.length y.c)) (W.setRow vb cs)) 
    (hm : TbMem V.heap.size (.slice (some ⟨vb, 0, none⟩) 1 1) W y) (ht : TbAt W W.heap.size y) (hM : TbM y.t) (hd : d.length = 32) : MdT w r V k c A ts vb ⟨{ y.t with mac := d }, y.A, y.c, y.zs⟩ (W.setRow vb cs) := by
  have hs : (W.setRow vb cs).heap.size = W.heap.size := by simp [World.setRow]
  have hlt := h.lt
  have hm2 : TbMem V.heap.size (.slice (some ⟨vb, 0, none⟩) 1 1) (W.setRow vb cs) y := hm.keep (by omega) fun b _ _ h3 => ⟨setRow_other _ _ b _ (fun e => h3 (by rw [e]; rfl)), h3⟩
  have hm3 : TbMem (w.heap.size + 1) (.slice A k c) (W.setRow vb cs) y := hm2.vary (by omega) fun b h1 _ => h.ownlt b h1
  exact ⟨h.grow hb, hv, hm3, ⟨hM.sealed d, ht.names, ht.prev, hd⟩⟩
set_option maxRecDepth 10000 in
set_option maxHeartbeats 4000000 in
theorem made14_r (r : RawV) (w : World) (hr : RawAt w w.heap.size r) :
    Calls Tryz.prog 5 #[.agg r.cells.toArray] w (MadeC w) := by
  have HKL := Lib.hid hr.key
  have hnl := hr.len
  obtain ⟨n, hn⟩ : ∃ n, r.its.length = n := ⟨_, rfl⟩
  rw [hn] at hnl
  have HRN := Lib.hid hn
  have HRR := Lib.hid hr
  have H0 : Hid (MdW w r.cells.toArray 0 0 none [] (w.alloc (.cells r.cells.toArray 32))) := Lib.hid ⟨AV.new w _ _, below_var w _, World.ownsRow_nil _ _ _ _, (fun _ h => nomatch h), (fun _ h => nomatch h)⟩
  clear hr hn
  go_enter Tryz.func5, Tryz.ntmps5
  go_wp2_with fail
  generalize w.alloc (.cells r.cells.toArray 32) = W0 at H0 ⊢
  go_loopw [3, 4] (fun o i wr => ∃ (k c : Nat) (A : Option Addr) (ts : List TbV), k ≤ 5 ∧ k ≤ n ∧ o = .slice A k c ∧ i = I (k : Nat) ∧ ts.length = k ∧ MdW w r.cells.toArray k c A ts wr) (fun _ i _ => 5 - (intOf i).toNat)
  case atStart => exact ⟨0, 0, none, [], by omega, by omega, rfl, rfl, rfl, H0.out⟩
  case round =>
    clear H0
    obtain ⟨k, c, A, ts, hk5, hkn, rfl, rfl, htl, hw⟩ := hrel
    have HX0 := Lib.hid hw
    have HTL := Lib.hid htl
    clear hw htl
    have c33 : wr.cell? ⟨w.heap.size, 33, none⟩ = some (.slice r.A n r.c) := (HX0.out.it.cell 33).trans (by rw [raw_its r HKL.out, HRN.out])
    by_cases hlt : k < n ∧ k < 5
    · obtain ⟨hln, hl5⟩ := hlt
      have i1 : (k : Int) < (n : Int) := by omega
      have i2 : (k : Int) < 5 := by omega
      obtain ⟨x, hx⟩ : ∃ x, r.its[k]? = some x := ⟨_, List.getElem?_eq_getElem (by rw [HRN.out]; exact hln)⟩
      obtain ⟨ib, io, hA, hib, hcl⟩ := HRR.out.row.there (by rw [flat_len (fun x : ItV => x.cells.toList) r.its (show ∀ x ∈ r.its, x.cells.toList.length = 2 from fun _ _ => rfl), HRN.out]; omega)
      have HRA := Lib.hid hA
      have HR : Hid (w.rangeAt ib (io + k * 2) x.cells.toList) := Lib.hid (CellsAt.elem (s := 2) (f := fun x : ItV => x.cells.toList) (fun _ _ => rfl) hcl k x hx)
      have HIT := Lib.hid (HRR.out.each x (List.mem_of_getElem? hx))
      rw [hA] at c33
      have HNX : Hid (∀ W, MdW w r.cells.toArray k c A ts W → Calls Tryz.prog 19 #[.slice A k c, .int .u8 (r.iss.toNat : Int), .agg x.cells] W (NextP W k r.iss x)) := Lib.hid (fun W h => next_r x r.iss A c k ts W ((HIT.out.keep h.lo).more h.lo.size) HTL.out (by omega) h.chain (fun y hy => (h.each y hy).made))
      clear hx hcl hA
      go_upto_block 1 with fail
      go_cut [3, 4] (fun o p wx => p = I (k : Nat) ∧ ∃ A2 c2 y, o = .slice A2 (k + 1) c2 ∧ MdW w r.cells.toArray (k + 1) c2 A2 (ts ++ [y]) wx)
      case first =>
        go_upto_region 5 with fail
        obtain ⟨V0, hV0⟩ : ∃ V, wr.drew = V := ⟨_, rfl⟩
        go_cut [5] (fun p wx => ∃ vb y, p = .pointer (some ⟨vb, 0, none⟩) ∧ MdT w r V0 k c A ts vb y wx)
        case first =>
          clear c33
          have hS0 : MdI w r ib io n k x wr.drew := MdI.of HKL.out HRN.out HRA.out HX0.out.drew.it HX0.out.drew.lo HR.out hib
          refine wp_region_held_drew (S := MdI w r ib io n k x) (by kernel_rfl) hS0 (fun _ => ?_)
          have HXD := Lib.hid HX0.out.drew
          have HB0 : Hid (Below wr.drew.heap.size wr.drew wr.drew) := Lib.hid (Below.refl _ _)
          rw [hV0] at HXD hS0 HB0 ⊢
          refine wpAnyH_take_dd (i := 0) (v := (.pointer (some ⟨w.heap.size, 1, none⟩))) (d := 19) rfl rfl (by kernel_rfl) (by kernel_rfl) (by kernel_rfl) (fun _ _ _ h => h) (Or.inl ⟨by rfl, fun w' hSw => ?_⟩) hS0 ?_
          · obtain ⟨s0, s1, _⟩ := hSw
            go_simp
          try simp only [Act.put, List.setIfInBounds_toArray, List.set_cons_zero, List.set_cons_succ]
          refine wpAnyH_take_dd (i := 2) (v := (.slice A k c)) (d := 21) rfl rfl (by kernel_rfl) (by kernel_rfl) (by kernel_rfl) (fun _ _ _ h => h) (Or.inl ⟨by rfl, fun w' hSw => ?_⟩) hS0 ?_
          · obtain ⟨s0, s1, _⟩ := hSw
            go_simp
          try simp only [Act.put, List.setIfInBounds_toArray, List.set_cons_zero, List.set_cons_succ]
          refine wpAnyH_take_dd (i := 3) (v := (.pointer (some ⟨w.heap.size, 0, none⟩))) (d := 22) rfl rfl (by kernel_rfl) (by kernel_rfl) (by kernel_rfl) (fun _ _ _ h => h) (Or.inl ⟨by rfl, fun w' hSw => ?_⟩) hS0 ?_
          · obtain ⟨s0, s1, _⟩ := hSw
            go_simp
          try simp only [Act.put, List.setIfInBounds_toArray, List.set_cons_zero, List.set_cons_succ]
          refine wpAnyH_take_dd (i := 5) (v := (.pointer (some ⟨w.heap.size, 33, none⟩))) (d := 24) rfl rfl (by kernel_rfl) (by kernel_rfl) (by kernel_rfl) (fun _ _ _ h => h) (Or.inl ⟨by rfl, fun w' hSw => ?_⟩) hS0 ?_
          · obtain ⟨s0, s1, _⟩ := hSw
            go_simp
          try simp only [Act.put, List.setIfInBounds_toArray, List.set_cons_zero, List.set_cons_succ]
          refine wpAnyH_take_dd (i := 7) (v := (I (k : Int))) (d := 26) rfl rfl (by kernel_rfl) (by kernel_rfl) (by kernel_rfl) (fun _ _ _ h => h) (Or.inl ⟨by rfl, fun w' hSw => ?_⟩) hS0 ?_
          · obtain ⟨s0, s1, _⟩ := hSw
            go_simp
          try simp only [Act.put, List.setIfInBounds_toArray, List.set_cons_zero, List.set_cons_succ]
          refine wpAnyH_take_dd (i := 1) (v := .agg (cD r.key)) (d := 20) rfl rfl (by kernel_rfl) (by kernel_rfl) (by kernel_rfl) (fun _ _ _ h => h) (yieldsIf_load_mid rfl 29 _ rfl w.heap.size (1) rfl (refCells r.key) _ (fun _ h => h.2.2.1) Tryz.underlying29 rfl (by simp only [refCells, List.length_map, HKL.out]; kernel_rfl)) hS0 ?_
          try simp only [Act.put, List.setIfInBounds_toArray, List.set_cons_zero, List.set_cons_succ]
          refine wpAnyH_take_dd (i := 4) (v := (.int .u8 (r.iss.toNat : Int))) (d := 23) rfl rfl (by kernel_rfl) (by kernel_rfl) (by kernel_rfl) (fun _ _ _ h => h) (Or.inl ⟨by rfl, fun w' hSw => ?_⟩) hS0 ?_
          · obtain ⟨s0, s1, _⟩ := hSw
            go_simp
          try simp only [Act.put, List.setIfInBounds_toArray, List.set_cons_zero, List.set_cons_succ]
          refine wpAnyH_take_dd (i := 6) (v := (.slice (some ⟨ib, io, none⟩) n r.c)) (d := 25) rfl rfl (by kernel_rfl) (by kernel_rfl) (by kernel_rfl) (fun _ _ _ h => h) (Or.inl ⟨by rfl, fun w' hSw => ?_⟩) hS0 ?_
          · obtain ⟨s0, s1, _⟩ := hSw
            go_simp
          try simp only [Act.put, List.setIfInBounds_toArray, List.set_cons_zero, List.set_cons_succ]
          refine wpAnyH_take_dd (i := 8) (v := (.pointer (some ⟨ib, io + k * 2, none⟩))) (d := 27) rfl rfl (by kernel_rfl) (by kernel_rfl) (by kernel_rfl) (fun _ _ _ h => h) (Or.inl ⟨by rfl, fun w' hSw => ?_⟩) hS0 ?_
          · obtain ⟨s0, s1, _⟩ := hSw
            go_simp
          try simp only [Act.put, List.setIfInBounds_toArray, List.set_cons_zero, List.set_cons_succ]
          refine wpAnyH_take_dd (i := 9) (v := .agg x.cells) (d := 28) rfl rfl (by kernel_rfl) (by kernel_rfl) (by kernel_rfl) (fun _ _ _ h => h) (yieldsIf_load_mid rfl 67 _ rfl ib (io + k * 2) rfl x.cells.toList _ (fun _ h => h.2.2.2) Tryz.underlying67 rfl (by kernel_rfl)) hS0 ?_
          try simp only [Act.put, List.setIfInBounds_toArray, List.set_cons_zero, List.set_cons_succ]
          refine wpAnyH_ready (rs := [10, 15]) (by kernel_rfl) (by simp) ?_
          refine AllReadyH.cons rfl (fun K hK => ?_) (AllReadyH.cons rfl (fun K hK => ?_) AllReadyH.nil)
          · go_simp
            refine (HNX.out V0 HXD.out).mono ?_
            rintro e W1 ⟨y, rfl, hy1, hm1, hm2, hm3, hm4, hm5, hl1, hb1⟩
            have HM := Lib.hid (tbM_next (by omega) hm1 hm2 hm3 hm4 hm5)
            have HYT1 := Lib.hid hy1
            have HYL := Lib.hid (show TbLow V0.heap.size y from hl1.mono HB0.out.size)
            clear hm1 hm2 hm3 hm4 hm5 hy1 hl1
            have HB1 : Hid (Below V0.heap.size V0 W1) := Lib.hid (below_trans HB0.out hb1)
            have HX1 := Lib.hid (HXD.out.grow HB1.out)
            have hS1 : MdI w r ib io n k x W1 := MdI.of HKL.out HRN.out HRA.out HX1.out.it HX1.out.lo HR.out hib
            clear hb1
            refine hK.out _ _ hS1 (fun _ => ?_)
            clear hK K
            try simp only [Act.put, List.setIfInBounds_toArray, List.set_cons_zero, List.set_cons_succ]
            refine wpAnyH_ready (rs := [11, 15]) (by kernel_rfl) (by simp) ?_
            refine AllReadyH.cons rfl (fun K hK => ?_) (AllReadyH.cons rfl (fun K hK => ?_) AllReadyH.nil)
            · go_simp
              refine (seal14_r r.key HKL.out y W1 HYT1.out HM.out).mono ?_
              rintro e W2 ⟨d, hd, rfl, hb2⟩
              have HD := Lib.hid hd
              have HYT2 := Lib.hid (HYT1.out.grow hb2)
              clear hd
              have HB2 : Hid (Below V0.heap.size V0 W2) := Lib.hid (below_trans HB1.out hb2)
              have HX2 := Lib.hid (HXD.out.grow HB2.out)
              have hS2 : MdI w r ib io n k x W2 := MdI.of HKL.out HRN.out HRA.out HX2.out.it HX2.out.lo HR.out hib
              clear hb2
              refine hK.out _ _ hS2 (fun _ => ?_)
              clear hK K
              try simp only [Act.put, List.setIfInBounds_toArray, List.set_cons_zero, List.set_cons_succ]
              refine wpAnyH_take_dd (i := 12) (v := (.tuple #[.agg (tbVal { y.t with mac := d } (.slice y.A y.zs.length y.c)), .int .i64 0])) (d := 18) rfl rfl (by kernel_rfl) (by kernel_rfl) (by kernel_rfl) (fun _ _ _ h => h) (Or.inl ⟨by rfl, fun w' hSw => ?_⟩) hS2 ?_
              · obtain ⟨s0, s1, _⟩ := hSw
                go_simp
              try simp only [Act.put, List.setIfInBounds_toArray, List.set_cons_zero, List.set_cons_succ]
              refine wpAnyH_take_dd (i := 13) (v := (.agg (tbVal { y.t with mac := d } (.slice y.A y.zs.length y.c)))) (d := 31) rfl rfl (by kernel_rfl) (by kernel_rfl) (by kernel_rfl) (fun _ _ _ h => h) (Or.inl ⟨by rfl, fun w' hSw => ?_⟩) hS2 ?_
              · obtain ⟨s0, s1, _⟩ := hSw
                go_simp
              try simp only [Act.put, List.setIfInBounds_toArray, List.set_cons_zero, List.set_cons_succ]
              refine wpAnyH_take_dd (i := 14) (v := (.int .i64 0)) (d := 32) rfl rfl (by kernel_rfl) (by kernel_rfl) (by kernel_rfl) (fun _ _ _ h => h) (Or.inl ⟨by rfl, fun w' hSw => ?_⟩) hS2 ?_
              · obtain ⟨s0, s1, _⟩ := hSw
                go_simp
              try simp only [Act.put, List.setIfInBounds_toArray, List.set_cons_zero, List.set_cons_succ]
              refine wpAnyH_ready (rs := [15]) (by kernel_rfl) (by simp) ?_
              refine AllReadyH.cons rfl (fun K hK => ?_) AllReadyH.nil
              refine step_alloc_nm14 (o := ⟨some 5, .alloc 47, _, _, _, none⟩) rfl 47 rfl (tbVal zTb (.slice none 0 0)) tab_zero ?_
              have HB3 : Hid (Below V0.heap.size V0 (W2.alloc (.cells (tbVal zTb (.slice none 0 0)) 47))) := Lib.hid (below_trans HB2.out (below_var W2 _))
              have HX3 := Lib.hid (HXD.out.grow HB3.out)
              have hS3 : MdI w r ib io n k x (W2.alloc (.cells (tbVal zTb (.slice none 0 0)) 47)) := MdI.of HKL.out HRN.out HRA.out HX3.out.it HX3.out.lo HR.out hib
              have HV3 : Hid (AV W2.heap.size 47 (tbVal zTb (.slice none 0 0)) (W2.alloc (.cells (tbVal zTb (.slice none 0 0)) 47))) := Lib.hid (AV.new W2 _ _)
              obtain ⟨vb3, hve3, hvb3⟩ : ∃ b, W2.heap.size = b ∧ V0.heap.size ≤ b := ⟨_, rfl, HB2.out.size⟩
              have HYV3 : Hid (TbMem V0.heap.size (.slice (some ⟨W2.heap.size, 0, none⟩) 1 1) (W2.alloc (.cells (tbVal zTb (.slice none 0 0)) 47)) y) := Lib.hid (TbMem.of (HYT2.out.keep (below_var W2 _)) (below_var W2 (.cells (tbVal zTb (.slice none 0 0)) 47)).size HYL.out (Nat.le_refl _) (not_new W2.heap.size))
              have HYT3 := Lib.hid (HYT2.out.grow (below_var W2 (.cells (tbVal zTb (.slice none 0 0)) 47)))
              refine hK.out _ _ hS3 (fun _ => ?_)
              clear hK K
              try simp only [Act.put, List.setIfInBounds_toArray, List.set_cons_zero, List.set_cons_succ]
              generalize (W2.alloc (.cells (tbVal zTb (.slice none 0 0)) 47)) = W3 at HB3 HX3 hS3 HV3 HYV3 HYT3 ⊢
              rw [hve3] at HV3 HYV3 ⊢
              clear hve3
              have HDI : Hid ((Tryz.prog.info? 47).map (·.size) = some (tbVal { y.t with mac := d } (.slice y.A y.zs.length y.c)).size) := Lib.hid (tb_info { y.t with mac := d } _ HYT3.out.prev HD.out)
              have HDE : Hid ((tbVal zTb (.slice none 0 0)).size = (tbVal { y.t with mac := d } (.slice y.A y.zs.length y.c)).size) := Lib.hid ((tb_size zTb _ rfl rfl).trans (tb_size { y.t with mac := d } _ HYT3.out.prev HD.out).symm)
              refine wpAnyH_ready (rs := [16]) (by kernel_rfl) (by simp) ?_
              refine AllReadyH.cons rfl (fun K hK => ?_) AllReadyH.nil
              refine step_store_nm14 (o := ⟨none, .store 47 (.tmp 5) (.tmp 31), _, _, _, none⟩) rfl 47 _ _ rfl vb3 (tbVal { y.t with mac := d } (.slice y.A y.zs.length y.c)) rfl rfl 47 (tbVal zTb (.slice none 0 0)) HV3.out.var HDI.out HDE.out (tbVal_one _ _ _ _) ?_
              have HBF : Hid (Below V0.heap.size V0 (W3.setRow vb3 (tbVal { y.t with mac := d } (.slice y.A y.zs.length y.c)))) := Lib.hid (below_setRow' HB3.out hvb3 _)
              have HXF := Lib.hid (HXD.out.grow HBF.out)
              have hSF : MdI w r ib io n k x (W3.setRow vb3 (tbVal { y.t with mac := d } (.slice y.A y.zs.length y.c))) := MdI.of HKL.out HRN.out HRA.out HXF.out.it HXF.out.lo HR.out hib
              refine hK.out _ _ hSF (fun _ => ?_)
              clear hK K
              try simp only [Act.put]
              refine wpAnyH_take_dd (i := 17) (v := (.int .i64 0)) (d := 6) rfl rfl (by kernel_rfl) (by kernel_rfl) (by kernel_rfl) (fun _ _ _ h => h) (Or.inl ⟨by rfl, fun w' hSw => ?_⟩) hSF ?_
              · obtain ⟨s0, s1, _⟩ := hSw
                go_simp
              try simp only [Act.put]
              refine wpAnyH_done (by kernel_rfl) ?_ _
              have HCUT : Hid (MdT w r V0 k c A ts vb3 ⟨{ y.t with mac := d }, y.A, y.c, y.zs⟩ (W3.setRow vb3 (tbVal { y.t with mac := d } (.slice y.A y.zs.length y.c)))) := Lib.hid (MdT.of HXD.out HBF.out (HV3.out.rowS _) HYV3.out HYT3.out HM.out HD.out)
              go_wp2_with fail
              go_meet
              exact ⟨_, _, rfl, HCUT.out⟩
            · refine step_alloc_nm14 (o := ⟨some 5, .alloc 47, _, _, _, none⟩) rfl 47 rfl (tbVal zTb (.slice none 0 0)) tab_zero ?_
              have HB4 : Hid (Below V0.heap.size V0 (W1.alloc (.cells (tbVal zTb (.slice none 0 0)) 47))) := Lib.hid (below_trans HB1.out (below_var W1 _))
              have HX4 := Lib.hid (HXD.out.grow HB4.out)
              have hS4 : MdI w r ib io n k x (W1.alloc (.cells (tbVal zTb (.slice none 0 0)) 47)) := MdI.of HKL.out HRN.out HRA.out HX4.out.it HX4.out.lo HR.out hib
              have HV4 : Hid (AV W1.heap.size 47 (tbVal zTb (.slice none 0 0)) (W1.alloc (.cells (tbVal zTb (.slice none 0 0)) 47))) := Lib.hid (AV.new W1 _ _)
              obtain ⟨vb4, hve4, hvb4⟩ : ∃ b, W1.heap.size = b ∧ V0.heap.size ≤ b := ⟨_, rfl, HB1.out.size⟩
              have HYV4 : Hid (TbMem V0.heap.size (.slice (some ⟨W1.heap.size, 0, none⟩) 1 1) (W1.alloc (.cells (tbVal zTb (.slice none 0 0)) 47)) y) := Lib.hid (TbMem.of (HYT1.out.keep (below_var W1 _)) (below_var W1 (.cells (tbVal zTb (.slice none 0 0)) 47)).size HYL.out (Nat.le_refl _) (not_new W1.heap.size))
              have HYT4 := Lib.hid (HYT1.out.grow (below_var W1 (.cells (tbVal zTb (.slice none 0 0)) 47)))
              refine hK.out _ _ hS4 (fun _ => ?_)
              clear hK K
              try simp only [Act.put, List.setIfInBounds_toArray, List.set_cons_zero, List.set_cons_succ]
              generalize (W1.alloc (.cells (tbVal zTb (.slice none 0 0)) 47)) = W4 at HB4 HX4 hS4 HV4 HYV4 HYT4 ⊢
              rw [hve4] at HV4 HYV4 ⊢
              clear hve4
              refine wpAnyH_ready (rs := [11]) (by kernel_rfl) (by simp) ?_
              refine AllReadyH.cons rfl (fun K hK => ?_) AllReadyH.nil
              go_simp
              refine (seal14_r r.key HKL.out y W4 HYT4.out HM.out).mono ?_
              rintro e W5 ⟨d, hd, rfl, hb5⟩
              have HD := Lib.hid hd
              have HYT5 := Lib.hid (HYT4.out.grow hb5)
              have HYV5 := Lib.hid (HYV4.out.grow hb5)
              clear hd
              have HB5 : Hid (Below V0.heap.size V0 W5) := Lib.hid (below_trans HB4.out hb5)
              have HX5 := Lib.hid (HXD.out.grow HB5.out)
              have hS5 : MdI w r ib io n k x W5 := MdI.of HKL.out HRN.out HRA.out HX5.out.it HX5.out.lo HR.out hib
              have HV5 := Lib.hid (HV4.out.below hb5)
              clear hb5
              refine hK.out _ _ hS5 (fun _ => ?_)
              clear hK K
              try simp only [Act.put, List.setIfInBounds_toArray, List.set_cons_zero, List.set_cons_succ]
              refine wpAnyH_take_dd (i := 12) (v := (.tuple #[.agg (tbVal { y.t with mac := d } (.slice y.A y.zs.length y.c)), .int .i64 0])) (d := 18) rfl rfl (by kernel_rfl) (by kernel_rfl) (by kernel_rfl) (fun _ _ _ h => h) (Or.inl ⟨by rfl, fun w' hSw => ?_⟩) hS5 ?_
              · obtain ⟨s0, s1, _⟩ := hSw
                go_simp
              try simp only [Act.put, List.setIfInBounds_toArray, List.set_cons_zero, List.set_cons_succ]
              refine wpAnyH_take_dd (i := 13) (v := (.agg (tbVal { y.t with mac := d } (.slice y.A y.zs.length y.c)))) (d := 31) rfl rfl (by kernel_rfl) (by kernel_rfl) (by kernel_rfl) (fun _ _ _ h => h) (Or.inl ⟨by rfl, fun w' hSw => ?_⟩) hS5 ?_
              · obtain ⟨s0, s1, _⟩ := hSw
                go_simp
              try simp only [Act.put, List.setIfInBounds_toArray, List.set_cons_zero, List.set_cons_succ]
              refine wpAnyH_take_dd (i := 14) (v := (.int .i64 0)) (d := 32) rfl rfl (by kernel_rfl) (by kernel_rfl) (by kernel_rfl) (fun _ _ _ h => h) (Or.inl ⟨by rfl, fun w' hSw => ?_⟩) hS5 ?_
              · obtain ⟨s0, s1, _⟩ := hSw
                go_simp
              try simp only [Act.put, List.setIfInBounds_toArray, List.set_cons_zero, List.set_cons_succ]
              have HDI : Hid ((Tryz.prog.info? 47).map (·.size) = some (tbVal { y.t with mac := d } (.slice y.A y.zs.length y.c)).size) := Lib.hid (tb_info { y.t with mac := d } _ HYT5.out.prev HD.out)
              have HDE : Hid ((tbVal zTb (.slice none 0 0)).size = (tbVal { y.t with mac := d } (.slice y.A y.zs.length y.c)).size) := Lib.hid ((tb_size zTb _ rfl rfl).trans (tb_size { y.t with mac := d } _ HYT5.out.prev HD.out).symm)
              refine wpAnyH_ready (rs := [16]) (by kernel_rfl) (by simp) ?_
              refine AllReadyH.cons rfl (fun K hK => ?_) AllReadyH.nil
              refine step_store_nm14 (o := ⟨none, .store 47 (.tmp 5) (.tmp 31), _, _, _, none⟩) rfl 47 _ _ rfl vb4 (tbVal { y.t with mac := d } (.slice y.A y.zs.length y.c)) rfl rfl 47 (tbVal zTb (.slice none 0 0)) HV5.out.var HDI.out HDE.out (tbVal_one _ _ _ _) ?_
              have HBF : Hid (Below V0.heap.size V0 (W5.setRow vb4 (tbVal { y.t with mac := d } (.slice y.A y.zs.length y.c)))) := Lib.hid (below_setRow' HB5.out hvb4 _)
              have HXF := Lib.hid (HXD.out.grow HBF.out)
              have hSF : MdI w r ib io n k x (W5.setRow vb4 (tbVal { y.t with mac := d } (.slice y.A y.zs.length y.c))) := MdI.of HKL.out HRN.out HRA.out HXF.out.it HXF.out.lo HR.out hib
              refine hK.out _ _ hSF (fun _ => ?_)
              clear hK K
              try simp only [Act.put]
              refine wpAnyH_take_dd (i := 17) (v := (.int .i64 0)) (d := 6) rfl rfl (by kernel_rfl) (by kernel_rfl) (by kernel_rfl) (fun _ _ _ h => h) (Or.inl ⟨by rfl, fun w' hSw => ?_⟩) hSF ?_
              · obtain ⟨s0, s1, _⟩ := hSw
                go_simp
              try simp only [Act.put]
              refine wpAnyH_done (by kernel_rfl) ?_ _
              have HCUT : Hid (MdT w r V0 k c A ts vb4 ⟨{ y.t with mac := d }, y.A, y.c, y.zs⟩ (W5.setRow vb4 (tbVal { y.t with mac := d } (.slice y.A y.zs.length y.c)))) := Lib.hid (MdT.of HXD.out HBF.out (HV5.out.rowS _) HYV5.out HYT5.out HM.out HD.out)
              go_wp2_with fail
              go_meet
              exact ⟨_, _, rfl, HCUT.out⟩
          · refine step_alloc_nm14 (o := ⟨some 5, .alloc 47, _, _, _, none⟩) rfl 47 rfl (tbVal zTb (.slice none 0 0)) tab_zero ?_
            have HB6 : Hid (Below V0.heap.size V0 (V0.alloc (.cells (tbVal zTb (.slice none 0 0)) 47))) := Lib.hid (below_trans HB0.out (below_var V0 _))
            have HX6 := Lib.hid (HXD.out.grow HB6.out)
            have hS6 : MdI w r ib io n k x (V0.alloc (.cells (tbVal zTb (.slice none 0 0)) 47)) := MdI.of HKL.out HRN.out HRA.out HX6.out.it HX6.out.lo HR.out hib
            have HV6 : Hid (AV V0.heap.size 47 (tbVal zTb (.slice none 0 0)) (V0.alloc (.cells (tbVal zTb (.slice none 0 0)) 47))) := Lib.hid (AV.new V0 _ _)
            obtain ⟨vb6, hve6, hvb6⟩ : ∃ b, V0.heap.size = b ∧ V0.heap.size ≤ b := ⟨_, rfl, HB0.out.size⟩
            refine hK.out _ _ hS6 (fun _ => ?_)
            clear hK K
            try simp only [Act.put, List.setIfInBounds_toArray, List.set_cons_zero, List.set_cons_succ]
            generalize (V0.alloc (.cells (tbVal zTb (.slice none 0 0)) 47)) = W6 at HB6 HX6 hS6 HV6 ⊢
            rw [hve6] at HV6 ⊢
            clear hve6
            refine wpAnyH_ready (rs := [10]) (by kernel_rfl) (by simp) ?_
            refine AllReadyH.cons rfl (fun K hK => ?_) AllReadyH.nil
            go_simp
            refine (HNX.out W6 HX6.out).mono ?_
            rintro e W7 ⟨y, rfl, hy7, hm1, hm2, hm3, hm4, hm5, hl7, hb7⟩
            have HM := Lib.hid (tbM_next (by omega) hm1 hm2 hm3 hm4 hm5)
            have HYT7 := Lib.hid hy7
            have HYL := Lib.hid (show TbLow V0.heap.size y from hl7.mono HB6.out.size)
            have HYV7 : Hid (TbMem V0.heap.size (.slice (some ⟨vb6, 0, none⟩) 1 1) W7 y) := Lib.hid (TbMem.of hy7 (Nat.le_refl _) hl7 HB6.out.size (not_old HV6.out.lt))
            clear hm1 hm2 hm3 hm4 hm5 hy7 hl7
            have HB7 : Hid (Below V0.heap.size V0 W7) := Lib.hid (below_trans HB6.out hb7)
            have HX7 := Lib.hid (HXD.out.grow HB7.out)
            have hS7 : MdI w r ib io n k x W7 := MdI.of HKL.out HRN.out HRA.out HX7.out.it HX7.out.lo HR.out hib
            have HV7 := Lib.hid (HV6.out.below hb7)
            clear hb7
            refine hK.out _ _ hS7 (fun _ => ?_)
            clear hK K
            try simp only [Act.put, List.setIfInBounds_toArray, List.set_cons_zero, List.set_cons_succ]
            refine wpAnyH_ready (rs := [11]) (by kernel_rfl) (by simp) ?_
            refine AllReadyH.cons rfl (fun K hK => ?_) AllReadyH.nil
            go_simp
            refine (seal14_r r.key HKL.out y W7 HYT7.out HM.out).mono ?_
            rintro e W8 ⟨d, hd, rfl, hb8⟩
            have HD := Lib.hid hd
            have HYT8 := Lib.hid (HYT7.out.grow hb8)
            have HYV8 := Lib.hid (HYV7.out.grow hb8)
            clear hd
            have HB8 : Hid (Below V0.heap.size V0 W8) := Lib.hid (below_trans HB7.out hb8)
            have HX8 := Lib.hid (HXD.out.grow HB8.out)
            have hS8 : MdI w r ib io n k x W8 := MdI.of HKL.out HRN.out HRA.out HX8.out.it HX8.out.lo HR.out hib
            have HV8 := Lib.hid (HV7.out.below hb8)
            clear hb8
            refine hK.out _ _ hS8 (fun _ => ?_)
            clear hK K
            try simp only [Act.put, List.setIfInBounds_toArray, List.set_cons_zero, List.set_cons_succ]
            refine wpAnyH_take_dd (i := 12) (v := (.tuple #[.agg (tbVal { y.t with mac := d } (.slice y.A y.zs.length y.c)), .int .i64 0])) (d := 18) rfl rfl (by kernel_rfl) (by kernel_rfl) (by kernel_rfl) (fun _ _ _ h => h) (Or.inl ⟨by rfl, fun w' hSw => ?_⟩) hS8 ?_
            · obtain ⟨s0, s1, _⟩ := hSw
              go_simp
            try simp only [Act.put, List.setIfInBounds_toArray, List.set_cons_zero, List.set_cons_succ]
            refine wpAnyH_take_dd (i := 13) (v := (.agg (tbVal { y.t with mac := d } (.slice y.A y.zs.length y.c)))) (d := 31) rfl rfl (by kernel_rfl) (by kernel_rfl) (by kernel_rfl) (fun _ _ _ h => h) (Or.inl ⟨by rfl, fun w' hSw => ?_⟩) hS8 ?_
            · obtain ⟨s0, s1, _⟩ := hSw
              go_simp
            try simp only [Act.put, List.setIfInBounds_toArray, List.set_cons_zero, List.set_cons_succ]
            refine wpAnyH_take_dd (i := 14) (v := (.int .i64 0)) (d := 32) rfl rfl (by kernel_rfl) (by kernel_rfl) (by kernel_rfl) (fun _ _ _ h => h) (Or.inl ⟨by rfl, fun w' hSw => ?_⟩) hS8 ?_
            · obtain ⟨s0, s1, _⟩ := hSw
              go_simp
            try simp only [Act.put, List.setIfInBounds_toArray, List.set_cons_zero, List.set_cons_succ]
            have HDI : Hid ((Tryz.prog.info? 47).map (·.size) = some (tbVal { y.t with mac := d } (.slice y.A y.zs.length y.c)).size) := Lib.hid (tb_info { y.t with mac := d } _ HYT8.out.prev HD.out)
            have HDE : Hid ((tbVal zTb (.slice none 0 0)).size = (tbVal { y.t with mac := d } (.slice y.A y.zs.length y.c)).size) := Lib.hid ((tb_size zTb _ rfl rfl).trans (tb_size { y.t with mac := d } _ HYT8.out.prev HD.out).symm)
            refine wpAnyH_ready (rs := [16]) (by kernel_rfl) (by simp) ?_
            refine AllReadyH.cons rfl (fun K hK => ?_) AllReadyH.nil
            refine step_store_nm14 (o := ⟨none, .store 47 (.tmp 5) (.tmp 31), _, _, _, none⟩) rfl 47 _ _ rfl vb6 (tbVal { y.t with mac := d } (.slice y.A y.zs.length y.c)) rfl rfl 47 (tbVal zTb (.slice none 0 0)) HV8.out.var HDI.out HDE.out (tbVal_one _ _ _ _) ?_
            have HBF : Hid (Below V0.heap.size V0 (W8.setRow vb6 (tbVal { y.t with mac := d } (.slice y.A y.zs.length y.c)))) := Lib.hid (below_setRow' HB8.out hvb6 _)
            have HXF := Lib.hid (HXD.out.grow HBF.out)
            have hSF : MdI w r ib io n k x (W8.setRow vb6 (tbVal { y.t with mac := d } (.slice y.A y.zs.length y.c))) := MdI.of HKL.out HRN.out HRA.out HXF.out.it HXF.out.lo HR.out hib
            refine hK.out _ _ hSF (fun _ => ?_)
            clear hK K
            try simp only [Act.put]
            refine wpAnyH_take_dd (i := 17) (v := (.int .i64 0)) (d := 6) rfl rfl (by kernel_rfl) (by kernel_rfl) (by kernel_rfl) (fun _ _ _ h => h) (Or.inl ⟨by rfl, fun w' hSw => ?_⟩) hSF ?_
            · obtain ⟨s0, s1, _⟩ := hSw
              go_simp
            try simp only [Act.put]
            refine wpAnyH_done (by kernel_rfl) ?_ _
            have HCUT : Hid (MdT w r V0 k c A ts vb6 ⟨{ y.t with mac := d }, y.A, y.c, y.zs⟩ (W8.setRow vb6 (tbVal { y.t with mac := d } (.slice y.A y.zs.length y.c)))) := Lib.hid (MdT.of HXD.out HBF.out (HV8.out.rowS _) HYV8.out HYT8.out HM.out HD.out)
            go_wp2_with fail
            go_meet
            exact ⟨_, _, rfl, HCUT.out⟩
        case rest =>
          obtain ⟨vb, y, rfl, ht⟩ := hcut
          have HT := Lib.hid ht
          have HSZ : Hid ((Tryz.prog.info? 47).map (·.size) = some (tbVal y.t (.slice y.A y.zs.length y.c)).size) := Lib.hid (tb_info y.t _ ht.each.prev ht.each.mac)
          have H68 : Hid ((tbVal y.t (.slice y.A y.zs.length y.c)).size = 68) := Lib.hid (tb_size y.t _ ht.each.prev ht.each.mac)
          have hlt := ht.md.lt
          obtain ⟨i0, hi, hq0, hq1, hq2⟩ := info_parts info_tab14
          have HI := Lib.hid hi
          have HQ0 := Lib.hid hq0
          have HQ1 := Lib.hid hq1
          have HQ2 := Lib.hid hq2
          have HY68 := Lib.hid ht.each.size
          clear ht hi hq0 hq1 hq2 HX0 c33 hV0
          go_wp2_with (first
            | ((with_reducible refine g_loa 47 ?_); go_must (refine wpList_load_nm rfl _ _ rfl vb rfl (tbVal y.t (.slice y.A y.zs.length y.c)) HT.out.var.rowU _ Tryz.underlying47 rfl HSZ.out ?_))
            | ((with_reducible refine g_bslice14 26 ?_); go_must (refine wpList_tab_slice14 rfl _ rfl (tbVal y.t (.slice y.A y.zs.length y.c)) H68.out rfl ?_))
            | (at_builtin; go_must (refine wpList_append_lies _ rfl _ _ 26 rfl (w.heap.size + 1) 47 i0 (.agg (tbVal zTb (.slice none 0 0))) 68 112 Tryz.underlying26 HI.out HQ0.out HQ1.out HQ2.out rfl (by decide) (.slice A k c) k (ts.flatMap TbV.cells) rfl (own_below HT.out.md.own (below_var wc _)) ⟨wc.heap.size, 0, none⟩ 1 1 y.cells rfl HY68.out (news_lit _ _ _ _ rfl) (tab_one y) (by omega) (by unfold maxLen; omega) (by omega) (by simp; omega) _ rfl ?_; intro gg cap w6 hown6 hgrow6 hat6 _; have HN : Hid (MdW w r.cells.toArray (k + 1) cap (some ⟨gg, 0, none⟩) (ts ++ [y]) w6) := Lib.hid (HT.out.md.add HT.out.mem HT.out.each rfl hown6 hgrow6 hat6); clear hown6 hgrow6 hat6)))
          go_meet
          exact ⟨rfl, some ⟨gg, 0, none⟩, cap, y, rfl, HN.out⟩
      case rest =>
        obtain ⟨rfl, A2, c2, y, rfl, hw2⟩ := hcut
        have HW2 := Lib.hid hw2
        clear hw2 HX0
        go_wp2_with fail
        go_roundw
        case rel => exact ⟨k + 1, c2, A2, _, by omega, by omega, rfl, by go_num, by rw [List.length_append, HTL.out]; rfl, HW2.out⟩
        case measure => simp [intOf]; omega
    · have hex : ¬ (k : Int) < (n : Int) ∨ ((k : Int) < (n : Int) ∧ ¬ (k : Int) < 5) := by omega
      rcases hex with h1 | ⟨h1, h2⟩
      all_goals
        go_wp2_with fail
        go_ret
        exact ⟨A, k, c, ts, rfl, HTL.out, hk5, HX0.out.chain, fun y hy => (HX0.out.each y hy).made, HX0.out.fin, HX0.out.lo⟩
end Go.Proofs.YtbdkalpljhpnmaaGreat

/- The reader whose bytes end too early. -/
namespace Go.Proofs.YtbdkalpljhpnmaaGreat
open Go Go.RowKit

attribute [local go_sem] m_r_number n_r_number m_r_offset n_r_offset m_r_text n_r_text m_r_digest n_r_digest m_r_length n_r_length
/-- The panic of a reader whose bytes end too early. -/
def tshortP : List PanicEntry := [{ v := .iface 118 (.agg #[]), recovered := false }]
def DiesB (w : World) (e : Ending) (w' : World) : Prop := e = .panicked tshortP ∧ Below w.heap.size w w'
/-- It dies, and only the reader and the target's block have changed. -/
def DiesT (w : World) (rb pb : Nat) (t : TypeId) (cs : Array Value) (e : Ending) (w' : World) : Prop := e = .panicked tshortP ∧ ∃ C : Array Value, C.size = cs.size ∧ TPut w rb pb t C w'
/-- An entry's encoding without its last byte (no rules of years). -/
def zeShort (x : Ze) : List UInt8 := (le x.name.size 1 ++ x.name.data.toList) ++ (calBytes x.z.cal ++ (le x.z.start 2 ++ (le 0 2 ++ le x.z.hor 8)))
set_option maxRecDepth 10000 in
set_option maxHeartbeats 1000000 in
theorem ttake_no (M : Nat) (w : World) (rb n : Nat) (rest : List UInt8) (hr : TRd M w rb rest) (hn : rest.length < n) :
    Calls Tryz.prog 161 #[.pointer (some ⟨rb, 0, none⟩), I n] w fun e w' => e = .panicked tshortP ∧ w' = w := by
  obtain ⟨⟨bb, off, c, h1, _⟩, _⟩ := hr
  have hc0 : w.cell? ⟨rb, 0, none⟩ = some (.slice (some ⟨bb, off, none⟩) rest.length c) := cell_of_row w rb 0 _ _ _ h1
  obtain ⟨m, hm⟩ : ∃ m, rest.length = m := ⟨_, rfl⟩
  rw [hm] at hc0 hn
  have n0 : (m : Int) < (n : Int) := by omega
  clear h1 hm
  go_enter Tryz.func161, Tryz.ntmps161
  go_wp2
  exact ⟨rfl, rfl, rfl⟩
set_option maxRecDepth 10000 in
set_option maxHeartbeats 1000000 in
theorem trnumber_no (M : Nat) (w : World) (rb pb po size : Nat) (t : TypeId) (cs : Array Value) (rest : List UInt8) (hr : TRd M w rb rest) (hn : rest.length < size) (hp : w.heap[pb]? = some (.cells cs t (0, 0))) (hpo : po < cs.size) (hMp : M ≤ pb) (hne : pb ≠ rb) :
    Calls Tryz.prog 158 #[pt rb, .pointer (some ⟨pb, po, none⟩), I size] w fun e w' => e = .panicked tshortP ∧ MKeep pb w w' := by
  refine (callsIn_wide (n := 3)).1 ?_
  have hro : Fence.wide.round = none := rfl
  have h1 : 1 ≤ 3 := by omega
  have hlt := hr.lt
  have hpl : pb < w.heap.size := (Array.getElem?_eq_some_iff.1 hp).1
  have hMl := hr.lo
  have hc0 : w.cell? ⟨pb, po, none⟩ = some cs[po] := by rw [cell_of_row w pb po _ _ _ hp]; exact Array.getElem?_eq_getElem hpo
  have hf0 : w.frozen? ⟨pb, po, none⟩ = false := frozen_of_row w pb po _ _ hp
  obtain ⟨WS, hWS⟩ : ∃ W, w.setCell ⟨pb, po, none⟩ (I 0) = W := ⟨_, rfl⟩
  have hkS : MKeep pb w WS := by rw [← hWS]; exact ⟨rfl, rfl, rfl, by simp [World.setCell], fun k _ hk2 => heap_setCell_other _ _ k _ hk2⟩
  obtain ⟨W1, hW1⟩ : ∃ W, WS.alloc (.cells #[.pointer (some ⟨pb, po, none⟩)] 111) = W := ⟨_, rfl⟩
  have hk1 : MKeep pb w W1 := by
    rw [← hW1]
    exact ⟨hkS.os, hkS.tape, hkS.output, Nat.le_trans hkS.size (by simp), fun k hk hk2 => (Below.heap_alloc WS _ k (Nat.lt_of_lt_of_le hk hkS.size)).trans (hkS.block k hk hk2)⟩
  rw [← hWS] at hW1
  have hr1 : TRd M W1 rb rest := hr.of (hk1.block rb hlt (fun e => hne e.symm)) fun k hk => hk1.block k (by omega) (by omega)
  have HT := Lib.hid (ttake_no M W1 rb size rest hr1 hn)
  have HK1 := Lib.hid hk1
  have HW1 := Lib.hid hW1
  clear hr hr1 hk1 hkS hW1 hWS hp
  refine callsIn_of_wp_marks Tryz.func158 rfl trivial ?_ hro
  simp only [Tryz.ntmps158, List.size_toArray, List.length_cons, List.length_nil, Nat.reduceAdd, Nat.reduceSub, Array.replicate_succ, Array.replicate_zero, List.push_toArray, List.append_toArray, List.nil_append, List.cons_append]
  gi_wp2_with first
    | (refine ⟨trivial, ?_⟩; gi_at_call 161; rw [HW1.out]; refine (callsIn_wide.2 HT.out).mono ?_; rintro e w2 ⟨rfl, rfl⟩)
  exact ⟨rfl, HK1.out⟩
set_option maxRecDepth 10000 in
set_option maxHeartbeats 1000000 in
theorem trlength_no (M : Nat) (w : World) (rb size : Nat) (m : Int) (rest : List UInt8) (hr : TRd M w rb rest) (hn : rest.length < size) :
    Calls Tryz.prog 157 #[pt rb, I m, I size] w (DiesB w) := by
  have hl := hr.lt
  have hlo := hr.lo
  have hb := below_var w (.cells #[I 0] 3)
  have hpl := heap_alloc_last w (.cells #[I 0] 3)
  have HC := Lib.hid (trnumber_no M (w.alloc (.cells #[I 0] 3)) rb w.heap.size 0 size 3 #[I 0] rest (hr.below hb hl) hn hpl (by decide) (by omega) (by omega))
  have HB := Lib.hid hb
  clear hr hb hpl
  go_enter Tryz.func157, Tryz.ntmps157
  go_wp2_with fail
  refine HC.out.mono ?_
  rintro e w1 ⟨rfl, hk⟩
  exact ⟨rfl, rfl, hk.os, hk.tape, hk.output, by have := hk.size; simp at this; omega, fun k hk2 => (hk.block k (by simp; omega) (by omega)).trans (HB.out.block k hk2)⟩
set_option maxRecDepth 10000 in
set_option maxHeartbeats 1000000 in
theorem trlistYear_no (M : Nat) (w : World) (rb lb lo : Nat) (A : Option Addr) (c : Nat) (hp : w.cell? ⟨lb, lo, none⟩ = some (.slice A 0 c)) (hr : TRd M w rb []) :
    Calls Tryz.prog 57 #[.iface 120 (pt rb), .pointer (some ⟨lb, lo, none⟩), I 1, .func (.func 58) #[] #[]] w (DiesB w) := by
  have HC := Lib.hid (trlength_no M w.drew rb 1 0 [] hr.drew (by decide))
  clear hr
  go_enter Tryz.func57, Tryz.ntmps57
  go_wp2_with fail
  go_still_tail 9, (by kernel_rfl)
  go_wp2_with fail
  refine HC.out.mono ?_
  rintro e w1 ⟨rfl, hb1⟩
  exact ⟨rfl, rfl, hb1.os, hb1.tape, hb1.output, hb1.size, hb1.block⟩
set_option maxRecDepth 10000 in
set_option maxHeartbeats 4000000 in
theorem trentry_no (M : Nat) (w : World) (rb eb eo : Nat) (t : TypeId) (cs : Array Value) (x : Ze) (hf : ZnFlat x.z) (hs : x.name.size ≤ 32) (hr : TRd M w rb (zeShort x)) (hp : w.heap[eb]? = some (.cells cs t (0, 0))) (hz : ∀ j, j < 9 → cs[eo + j]? = zZe[j]?) (hM : M ≤ eb) (hne : eb ≠ rb) :
    Calls Tryz.prog 42 #[.iface 120 (pt rb), .pointer (some ⟨eb, eo, none⟩)] w (DiesT w rb eb t cs) := by
  have hel : eb < w.heap.size := (Array.getElem?_eq_some_iff.1 hp).1
  have hrw := hr.lt
  have hz0 : cs[eo]? = some (.string ⟨#[]⟩) := hz 0 (by decide)
  have hz8 : eo + 8 < cs.size := (Array.getElem?_eq_some_iff.1 ((hz 8 (by decide)).trans (rfl : zZe[8]? = some (.slice none 0 0)))).1
  have hr' : TRd M w.drew rb ((le x.name.size 1 ++ x.name.data.toList) ++ (calBytes x.z.cal ++ (le x.z.start 2 ++ (le 0 2 ++ le x.z.hor 8)))) := by
    have h := hr.drew
    unfold zeShort at h
    simpa only [List.append_assoc] using h
  have HC1 := Lib.hid (trtext_le M w.drew rb eb eo t cs ⟨#[]⟩ x.name _ hr' (by omega) hp hz0 hM hne)
  have HZ : Hid (∀ j, 1 ≤ j → j < 9 → cs[eo + j]? = zZe[j]?) := Lib.hid fun j _ hj => hz j hj
  have HF := Lib.hid hf
  have hst0 := hf.start
  have hho0 := hf.hor
  clear hf hs hr hr' hp hz hz0
  go_enter Tryz.func42, Tryz.ntmps42
  go_wp2_with fail
  go_still_tail 7, (by kernel_rfl)
  go_wp2_with fail
  refine HC1.out.mono ?_
  rintro e w1 ⟨rfl, hr1, hp1⟩
  obtain ⟨C1, hC1⟩ : ∃ C, cs.setIfInBounds eo (.string x.name) = C := ⟨_, rfl⟩
  rw [hC1] at hp1
  have k1 : ∀ j, 1 ≤ j → j < 9 → C1[eo + j]? = zZe[j]? := fun j h1 h2 => by rw [← hC1, Array.getElem?_setIfInBounds_ne (by omega)]; exact HZ.out j h1 h2
  have l1 : C1.size = cs.size := by rw [← hC1, Array.size_setIfInBounds]
  have HP1 := Lib.hid hp1.of_drew
  have HQ1 := Lib.hid hC1
  have HC2 := Lib.hid (trcalendar_flat M w1 rb eb (eo + 1) t C1 x.z.cal _ HF.out.cal hr1 hp1.tgt (by omega) (k1 2 (by decide) (by decide)) (k1 3 (by decide) (by decide)) (k1 4 (by decide) (by decide)) hM hne)
  have HK1 := Lib.hid k1
  clear hr1 hp1 HC1 hC1 k1
  go_wp2_with fail
  refine HC2.out.mono ?_
  rintro e w2 ⟨rfl, A, a, hr2, hp2, ho2⟩
  obtain ⟨C2, hC2⟩ : ∃ C, ((C1.setIfInBounds (eo + 1) (I x.z.cal.epoch)).setIfInBounds (eo + 1 + 1) (.slice A x.z.cal.months.length a)).setIfInBounds (eo + 1 + 2) (I (-1)) = C := ⟨_, rfl⟩
  rw [hC2] at hp2
  have k2 : ∀ j, 4 ≤ j → j < 9 → C2[eo + j]? = zZe[j]? := fun j h1 h2 => by rw [← hC2, Array.getElem?_setIfInBounds_ne (by omega), Array.getElem?_setIfInBounds_ne (by omega), Array.getElem?_setIfInBounds_ne (by omega)]; exact HK1.out j (by omega) h2
  have l2 : C2.size = cs.size := by rw [← hC2, Array.size_setIfInBounds, Array.size_setIfInBounds, Array.size_setIfInBounds]; exact l1
  have HP2 := Lib.hid (HP1.out.trans hp2)
  have HO2 := Lib.hid (ownsRow_base' ho2 HP1.out.size)
  have HQ2 := Lib.hid hC2
  have HC3 := Lib.hid (troffset_le M w2.drew rb eb (eo + 1 + 4) t C2 x.z.start _ hr2.drew (by omega) (by omega) hp2.tgt (by omega) hM hne)
  have HK2 := Lib.hid k2
  clear hr2 hp2 ho2 HC2 hC2 k2
  go_wp2_with fail
  go_still_tail 7, (by kernel_rfl)
  go_wp2_with fail
  refine HC3.out.mono ?_
  rintro e w3 ⟨rfl, hr3, hp3⟩
  obtain ⟨C3, hC3⟩ : ∃ C, C2.setIfInBounds (eo + 1 + 4) (I x.z.start) = C := ⟨_, rfl⟩
  rw [hC3] at hp3
  have k3 : ∀ j, 6 ≤ j → j < 9 → C3[eo + j]? = zZe[j]? := fun j h1 h2 => by rw [← hC3, Array.getElem?_setIfInBounds_ne (by omega)]; exact HK2.out j (by omega) h2
  have l3 : C3.size = cs.size := by rw [← hC3, Array.size_setIfInBounds]; exact l2
  have hk3 : ∀ b, w.heap.size ≤ b → b < w2.heap.size → w3.heap[b]? = w2.heap[b]? := fun b h1 h2 => hp3.block b h2 (by omega) (by omega)
  have HO3 := Lib.hid (ownsRow_blocks HO2.out hk3)
  have HP3 := Lib.hid (HP2.out.trans hp3.of_drew)
  have HQ3 := Lib.hid hC3
  have HC4 := Lib.hid (trlistTrans_none M w3 rb eb (eo + 1 + 5) none 0 _ ((hp3.cell _).trans (k3 6 (by decide) (by decide))) hr3)
  have HK3 := Lib.hid k3
  clear hr3 hp3 HC3 hC3 k3 hk3
  go_wp2_with fail
  refine HC4.out.mono ?_
  rintro e w4 ⟨rfl, hr4, hk4⟩
  have HP4 := Lib.hid (HP3.out.mkeep hk4 (Nat.lt_of_lt_of_le hel HP3.out.size) hne)
  have HO4 := Lib.hid (ownsRow_mkeep HO3.out hk4 hrw)
  have HC5 := Lib.hid (trnum_le M w4.drew rb eb (eo + 1 + 6) 8 t C3 x.z.hor x.z.hor [] (by rw [List.append_nil]; exact hr4.drew) (by omega) (rdN_8 _ (by unfold fits; omega) _) HP4.out.tgt (by omega) hM hne)
  clear hr4 hk4 HC4
  go_wp2_with fail
  go_still_tail 7, (by kernel_rfl)
  go_wp2_with fail
  refine HC5.out.mono ?_
  rintro e w5 ⟨rfl, hr5, hp5⟩
  have hk5 : ∀ b, w.heap.size ≤ b → b < w4.heap.size → w5.heap[b]? = w4.heap[b]? := fun b h1 h2 => hp5.block b h2 (by omega) (by omega)
  have HO5 := Lib.hid (ownsRow_blocks HO4.out hk5)
  have HP5 := Lib.hid (HP4.out.trans hp5.of_drew)
  have HC6 := Lib.hid (trlistYear_no M w5 rb eb (eo + 1 + 7) none 0 ((hp5.cell _).trans (by rw [Array.getElem?_setIfInBounds_ne (by omega)]; exact HK3.out 8 (by decide) (by decide))) hr5)
  clear hr5 hp5 HC5 hk5
  go_wp2_with fail
  refine HC6.out.mono ?_
  rintro e w6 ⟨rfl, hb6⟩
  exact ⟨rfl, rfl, _, by rw [Array.size_setIfInBounds, l3], HP5.out.grow hb6 (Nat.lt_of_lt_of_le hel HP5.out.size) hne⟩
end Go.Proofs.YtbdkalpljhpnmaaGreat

/- table.Read without the last byte. -/
namespace Go.Proofs.YtbdkalpljhpnmaaGreat
open Go Go.RowKit

attribute [local go_sem] m_r_number n_r_number m_r_offset n_r_offset m_r_text n_r_text m_r_digest n_r_digest m_r_length n_r_length
def DiesZ (w : World) (rb pb po : Nat) (t : TypeId) (cs : Array Value) (e : Ending) (w' : World) : Prop := e = .panicked tshortP ∧ ∃ g c, TPut w rb pb t (cs.setIfInBounds po (.slice (some ⟨g, 0, none⟩) 1 c)) w'
def DiesW (w : World) (rb tb : Nat) (t : Tb) (e : Ending) (w' : World) : Prop := e = .panicked tshortP ∧ ∃ g c, TPut w rb tb 47 (tbVal { t with mac := zero32, zones := [] } (.slice (some ⟨g, 0, none⟩) 1 c)) w'
/-- The encoding of a table with one zone, without its last byte. -/
def tbShort (t : Tb) (x : Ze) : List UInt8 := le t.issuer 1 ++ (le t.version 1 ++ (le t.withdraws 1 ++ (t.prev ++ (le 1 1 ++ zeShort x))))
set_option maxRecDepth 10000 in
set_option maxHeartbeats 4000000 in
theorem trlistZe_no (M : Nat) (w : World) (rb pb po : Nat) (t : TypeId) (cs : Array Value) (x : Ze) (hxf : ZnFlat x.z ∧ x.name.size ≤ 32) (hr : TRd M w rb (le 1 1 ++ zeShort x)) (hp : w.heap[pb]? = some (.cells cs t (0, 0))) (hpo : cs[po]? = some (.slice none 0 0)) (hMp : M ≤ pb) (hne : pb ≠ rb) :
    Calls Tryz.prog 41 #[.iface 120 (pt rb), .pointer (some ⟨pb, po, none⟩), I 1, .func (.func 42) #[] #[]] w (DiesZ w rb pb po t cs) := by
  have hpl : pb < w.heap.size := (Array.getElem?_eq_some_iff.1 hp).1
  have hlo := hr.lo
  have hrl := hr.lt
  have hcs : cs.setIfInBounds po (.slice none 0 0) = cs := by
    apply Array.ext_getElem?
    intro i
    rw [Array.getElem?_setIfInBounds]
    split
    · rename_i e; subst e
      split
      · exact hpo.symm
      · rename_i e2; rw [Array.getElem?_eq_none (by omega)] at hpo; cases hpo
    · rfl
  have hc0 : w.cell? ⟨pb, po, none⟩ = some (.slice none 0 0) := (cell_of_row w pb po _ _ _ hp).trans hpo
  have hpos : po < cs.size := (Array.getElem?_eq_some_iff.1 hpo).1
  have HC := Lib.hid (trlength_le M w.drew rb 1 0 1 1 (zeShort x) hr.drew (by omega) (rdN_1 _ (by omega) (by omega) _))
  have HP : Hid (TPut w rb pb t (cs.setIfInBounds po (.slice none 0 0)) w) := Lib.hid (by rw [hcs]; exact TPut.refl hp)
  have HXF := Lib.hid hxf
  clear hr hp hpo hcs hxf
  obtain ⟨i0, hi, hz0, hz1, hz2⟩ := info_parts info_ze
  go_enter Tryz.func41, Tryz.ntmps41
  go_wp2_with fail
  go_still_tail 9, (by kernel_rfl)
  go_wp2_with fail
  refine HC.out.mono ?_
  rintro e w1 ⟨rfl, hr1, hk1⟩
  have HR1 := Lib.hid hr1
  have HP1 := Lib.hid (HP.out.drew.mkeep hk1 hpl hne)
  clear hr1 hk1 HC hc0
  go_wp2_with fail
  go_loopw [22] (fun i wr => i = .int .i64 0 ∧ TRd M wr rb (zeShort x) ∧ TPut w rb pb t (cs.setIfInBounds po (.slice none 0 0)) wr) (fun _ _ => 0)
  case atStart => exact ⟨rfl, HR1.out, HP1.out⟩
  case round =>
    obtain ⟨rfl, hr, hp⟩ := hrel
    have HR := Lib.hid hr
    have HPP := Lib.hid hp
    have hcp : wr.cell? ⟨pb, po, none⟩ = some (.slice none 0 0) := (hp.cell po).trans (by simp [hpos])
    have hsw := hp.size
    clear hr hp HR1 HP1 HP
    have HNEW : Hid (∀ j u, zZe.toList[j]? = some u → (((wr.alloc (.cells zZe 73)).alloc (.cells zZe 73)).drew).cell? ((⟨wr.heap.size + 1, 0, none⟩ : Addr).add j) = some u) := Lib.hid fun j u hu => by
      rw [addr_add]
      have h := (Row.new (wr.alloc (.cells zZe 73)) zZe 73).2 j
      rw [World.size_alloc] at h
      exact h.trans (by simpa using hu)
    have HONE : Hid (∀ u ∈ zZe.toList, u.oneCell' = true) := Lib.hid (by
      intro u hu
      have h : zZe.all (·.oneCell') = true := by kernel_rfl
      rw [Array.all_eq_true_iff_forall_mem] at h
      exact h u (by simpa using hu))
    have hplw : pb < wr.heap.size := by omega
    have hmx : 0 + 1 ≤ maxLen := by unfold maxLen; omega
    have hby : (0 + 1) * 144 ≤ 140737488355328 := by omega
    have HBS : Hid (w.heap.size ≤ (((wr.alloc (.cells zZe 73)).alloc (.cells zZe 73)).drew).heap.size) := Lib.hid (by simp; omega)
    have HSZ : Hid ((((wr.alloc (.cells zZe 73)).alloc (.cells zZe 73)).drew).heap.size = wr.heap.size + 2) := Lib.hid (by simp)
    have HOO : Hid ((((wr.alloc (.cells zZe 73)).alloc (.cells zZe 73)).drew).ownsRow w.heap.size 73 9 (.slice none 0 0) 0 []) := Lib.hid (World.ownsRow_nil _ _ _ _)
    have HLOW : Hid (∀ b, b < wr.heap.size → (((wr.alloc (.cells zZe 73)).alloc (.cells zZe 73)).drew).heap[b]? = wr.heap[b]?) := Lib.hid fun b hb => (Below.heap_alloc (wr.alloc (.cells zZe 73)) _ b (by simp; omega)).trans (Below.heap_alloc wr _ b hb)
    go_wp2_with fail
    go_region_law (refine step_append_lies _ (by rfl) _ _ _ (by rfl) w.heap.size 73 i0 (.agg zZe) 9 144 Tryz.underlying45 hi hz0 hz1 hz2 (by rfl) (by omega) (.slice none 0 0) 0 [] (by rfl) HOO.out ⟨wr.heap.size + 1, 0, none⟩ 1 1 zZe.toList (by rfl) (by rfl) HNEW.out HONE.out (by omega) hmx hby HBS.out (wr.heap.size + 2) HSZ.out ?_; intro g2 c2 w2 hown2 hgrow2 hat2 hlt2; have hbw : ∀ b, b < w.heap.size → w2.heap[b]? = wr.heap[b]? := fun b hb => (hgrow2.block b (Nat.lt_of_lt_of_eq (show b < wr.heap.size + 2 by omega) HSZ.out.symm) (by simp [Value.ownBlock])).trans (HLOW.out b (by omega)); have HP2 : Hid (w2.heap[pb]? = some (.cells (cs.setIfInBounds po (.slice none 0 0)) t (0, 0))) := Lib.hid ((hbw pb hpl).trans HPP.out.tgt); have hcp2 : w2.cell? ⟨pb, po, none⟩ = some (.slice none 0 0) := (cell_of_row w2 pb po _ _ _ HP2.out).trans (by simp [hpos]); have hfp2 := frozen_of_row w2 pb po _ _ HP2.out; have HBW := Lib.hid hbw; have HO2 := Lib.hid hown2; have HG2 := Lib.hid hgrow2; have HA2 := Lib.hid hat2; clear hbw hown2 hgrow2 hat2)
    all_goals
      have hs2 : wr.heap.size + 2 ≤ w2.heap.size := Nat.le_trans (Nat.le_of_eq HSZ.out.symm) HG2.out.size
      have hlo2 := own_low HO2.out
      have hP3 : TPut w rb pb t (cs.setIfInBounds po (.slice (some ⟨g2, 0, none⟩) 1 c2)) (w2.setCell ⟨pb, po, none⟩ (.slice (some ⟨g2, 0, none⟩) 1 c2)) := by
        have h : TPut w rb pb t (cs.setIfInBounds po (.slice none 0 0)) w2 := ⟨HG2.out.os.trans HPP.out.os, HG2.out.tape.trans HPP.out.tape, HG2.out.output.trans HPP.out.output, by omega, fun b hb h1 h2 => (HBW.out b hb).trans (HPP.out.block b hb h1 h2), HP2.out⟩
        have h := h.put po (.slice (some ⟨g2, 0, none⟩) 1 c2)
        rwa [Array.setIfInBounds_setIfInBounds] at h
      have hR3 : TRd M (w2.setCell ⟨pb, po, none⟩ (.slice (some ⟨g2, 0, none⟩) 1 c2)) rb (zeShort x) := (HR.out.of (HBW.out rb hrl) fun b hb => HBW.out b (by omega)).put hMp hne _
      have hO3 : (w2.setCell ⟨pb, po, none⟩ (.slice (some ⟨g2, 0, none⟩) 1 c2)).ownsRow w.heap.size 73 9 (.slice (some ⟨g2, 0, none⟩) (0 + 1) c2) (0 + 1) ([] ++ zZe.toList) := ownsRow_far (p := ⟨pb, po, none⟩) HO2.out (by intro e; injection e with e; simp only at e; omega)
      have HP3 := Lib.hid hP3
      have HR3 := Lib.hid hR3
      have HO3 := Lib.hid hO3
      clear hP3 hR3 hO3 HP2 HBW HO2 HG2 HA2 hcp
      go_wp2_with fail
      obtain ⟨w3, hw3⟩ : ∃ W, w2.setCell ⟨pb, po, none⟩ (.slice (some ⟨g2, 0, none⟩) 1 c2) = W := ⟨_, rfl⟩
      (try rw [hw3] at HP3 HR3 HO3 ⊢)
      obtain ⟨cur, q1, q2, q3, q4, q5, q6, q7, _⟩ := own_inv HO3.out
      have hzz : ∀ j, j < 9 → cur[0 + j]? = zZe[j]? := fun j hj => by
        have h : (cur.toList.take ((0 + 1) * 9))[j]? = ([] ++ zZe.toList)[j]? := by rw [q6]
        rw [List.getElem?_take_of_lt (by omega)] at h
        simpa using h
      refine (trentry_no M w3 rb g2 0 73 cur x HXF.out.1 HXF.out.2 HR3.out q1 hzz (by omega) (by omega)).mono ?_
      rintro e w4 ⟨rfl, C, _, hp4⟩
      exact ⟨rfl, rfl, g2, c2, ⟨hp4.os.trans HP3.out.os, hp4.tape.trans HP3.out.tape, hp4.output.trans HP3.out.output, Nat.le_trans HP3.out.size hp4.size, fun b hb h1 h2 => (hp4.block b (Nat.lt_of_lt_of_le hb HP3.out.size) (by omega) h2).trans (HP3.out.block b hb h1 h2), (hp4.block pb (Nat.lt_of_lt_of_le hpl HP3.out.size) (by omega) hne).trans HP3.out.tgt⟩⟩
set_option maxRecDepth 10000 in
set_option maxHeartbeats 2000000 in
theorem trwhole_no (M : Nat) (w : World) (rb tb : Nat) (t : Tb) (x : Ze) (h : TbFlat t) (hxf : ZnFlat x.z ∧ x.name.size ≤ 32) (hr : TRd M w rb (tbShort t x)) (hp : w.heap[tb]? = some (.cells (tbVal zTb (.slice none 0 0)) 47 (0, 0))) (hM : M ≤ tb) (hne : tb ≠ rb) :
    Calls Tryz.prog 26 #[.iface 120 (pt rb), .pointer (some ⟨tb, 0, none⟩)] w (DiesW w rb tb t) := by
  have hel : tb < w.heap.size := (Array.getElem?_eq_some_iff.1 hp).1
  have hrw := hr.lt
  have hz : ∀ (u : Tb) (v : Value), u.prev.length = 32 → u.mac.length = 32 → (tbVal u v).size = 68 := fun u v h1 h2 => tb_size u v h1 h2
  have hr' : TRd M w.drew rb (le t.issuer 1 ++ (le t.version 1 ++ (le t.withdraws 1 ++ (t.prev ++ (le 1 1 ++ zeShort x))))) := hr.drew
  have q1 := h.issuer
  have q2 := h.version
  have q3 := h.withdraws
  have HC1 := Lib.hid (trnum_le M w.drew rb tb 0 1 47 _ t.issuer t.issuer _ hr' (by omega) (rdN_1 _ (by omega) (by omega) _) hp (by rw [hz _ _ rfl rfl]; decide) hM hne)
  have HF := Lib.hid h
  have HZ := Lib.hid hz
  clear h hr hr' hp hz
  go_enter Tryz.func26, Tryz.ntmps26
  go_wp2_with fail
  go_still_tail 7, (by kernel_rfl)
  go_wp2_with fail
  refine HC1.out.mono ?_
  rintro e w1 ⟨rfl, hr1, hp1⟩
  rw [tbVal_issuer] at hp1
  have HP1 := Lib.hid hp1.of_drew
  have HC2 := Lib.hid (trnum_le M w1.drew rb tb 1 1 47 _ t.version t.version _ hr1.drew (by omega) (rdN_1 _ (by omega) (by omega) _) hp1.tgt (by rw [HZ.out _ _ rfl rfl]; decide) hM hne)
  clear hr1 hp1 HC1
  go_wp2_with fail
  go_still_tail 7, (by kernel_rfl)
  go_wp2_with fail
  refine HC2.out.mono ?_
  rintro e w2 ⟨rfl, hr2, hp2⟩
  rw [tbVal_version] at hp2
  have HP2 := Lib.hid (HP1.out.trans hp2.of_drew)
  have HC3 := Lib.hid (trnum_le M w2.drew rb tb 2 1 47 _ t.withdraws t.withdraws _ hr2.drew (by omega) (rdN_1 _ (by omega) (by omega) _) hp2.tgt (by rw [HZ.out _ _ rfl rfl]; decide) hM hne)
  clear hr2 hp2 HC2
  go_wp2_with fail
  go_still_tail 7, (by kernel_rfl)
  go_wp2_with fail
  refine HC3.out.mono ?_
  rintro e w3 ⟨rfl, hr3, hp3⟩
  rw [tbVal_withdraws] at hp3
  have HP3 := Lib.hid (HP2.out.trans hp3.of_drew)
  have HC4 := Lib.hid (trdigest_le M w3.drew rb tb 4 47 _ t.prev _ hr3.drew HF.out.prev hp3.tgt (by rw [HZ.out _ _ rfl rfl]; decide) hM hne)
  clear hr3 hp3 HC3
  go_wp2_with fail
  go_still_tail 7, (by kernel_rfl)
  go_wp2_with fail
  refine HC4.out.mono ?_
  rintro e w4 ⟨rfl, hr4, hp4⟩
  rw [tbVal_prev _ _ _ rfl HF.out.prev] at hp4
  have HP4 := Lib.hid (HP3.out.trans hp4.of_drew)
  have HC5 := Lib.hid (trlistZe_no M w4 rb tb 3 47 _ x hxf hr4 hp4.tgt (tb_get3 _ _) hM hne)
  clear hr4 hp4 HC4
  go_wp2_with fail
  refine HC5.out.mono ?_
  rintro e w5 ⟨rfl, g, c, hp5⟩
  rw [tbVal_zones] at hp5
  exact ⟨rfl, rfl, g, c, HP4.out.trans hp5⟩
end Go.Proofs.YtbdkalpljhpnmaaGreat

/- table.Read without the last byte: ErrForm. -/
namespace Go.Proofs.YtbdkalpljhpnmaaGreat
open Go Go.RowKit

attribute [local go_sem] m_r_number n_r_number m_r_offset n_r_offset m_r_text n_r_text m_r_digest n_r_digest m_r_length n_r_length
set_option maxRecDepth 10000 in
set_option maxHeartbeats 1000000 in
theorem tcatch_short (b : Nat) (w : World) (v : Value) (hq : w.heap[b]? = some (.cells #[v] 4 (0, 0))) :
    CallsD Tryz.prog 43 #[.pointer (some ⟨b, 0, none⟩)] (.panicking tshortP) w fun e u' w' => e = .returned (.tuple #[]) ∧ u' = .panicking [{ v := .iface 118 (.agg #[]), recovered := true }] ∧ MKeep b w w' ∧ w'.heap[b]? = some (.cells #[.bool false] 4 (0, 0)) := by
  have hnn : ∀ w, (binOp .neq 20 (.iface 118 (.agg #[])) .nilIface).run Tryz.prog w = .ok (.bool true) w := by intro w; simp [go_sem]
  have hta : ∀ w, (Instr.typeAssert (.iface 118 (.agg #[])) 20 118 true).run Tryz.prog w = .ok (.tuple #[.agg #[], .bool true]) w := by intro w; kernel_rfl
  have HB1 := Lib.hid (below_var w (.cells #[] 118))
  have hq1 : (w.alloc (.cells #[] 118)).heap[b]? = some (.cells #[v] 4 (0, 0)) := (HB1.out.block _ (lt_of_blk hq)).trans hq
  have hcc := cell_of_row _ b 0 _ _ _ hq1
  have hfc := frozen_of_row _ b 0 _ _ hq1
  have HK : Hid (MKeep b w ((w.alloc (.cells #[] 118)).setCell ⟨b, 0, none⟩ (.bool false))) := Lib.hid ⟨rfl, rfl, rfl, by simp [World.setCell], fun k hk hn => (heap_setCell_other _ ⟨b, 0, none⟩ k _ hn).trans (Below.heap_alloc w _ k hk)⟩
  have HQ : Hid (((w.alloc (.cells #[] 118)).setCell ⟨b, 0, none⟩ (.bool false)).heap[b]? = some (.cells #[.bool false] 4 (0, 0))) := Lib.hid (by rw [heap_setCell_same _ b 0 _ _ _ hq1]; rfl)
  clear hq hq1 HB1
  unfold tshortP
  refine callsD_of_wpS Tryz.func43 rfl fun c₀ cs hu => ?_
  apply wpS_seq
  apply wpS_region
  simp [wpOpsS, go_sem, recoverD, hu, Tryz.ntmps43, Exit.thenS]
  refine wpS_of_wp ?_
  simp only [Array.replicate_succ, Array.replicate_zero, List.push_toArray, List.append_toArray, List.nil_append, List.cons_append, List.setIfInBounds_toArray, List.set_cons_zero, List.set_cons_succ]
  go_wp2_with fail
  simp [bodyPostS, results, Tryz.results43]
  exact ⟨HK.out, HQ.out⟩
set_option maxRecDepth 10000 in
set_option maxHeartbeats 2000000 in
theorem tread_no (w : World) (t : Tb) (x : Ze) (N b off c : Nat) (h : TbFlat t) (hxf : ZnFlat x.z ∧ x.name.size ≤ 32) (hN : (tbShort t x).length = N) (hbl : b < w.heap.size) (hc1 : N ≤ c) (hc2 : c ≤ 9223372036854775807)
    (hA : ∀ j, j < N → w.cell? ⟨b, off + j, none⟩ = some (Extern.Stop.cell ((tbShort t x)[j]?.getD 0))) :
    Calls Tryz.prog 28 #[.slice (some ⟨b, off, none⟩) N c] w fun e w' => (∃ g cz, e = .returned (.tuple #[.agg (tbVal { t with mac := zero32, zones := [] } (.slice (some ⟨g, 0, none⟩) 1 cz)), .bool false])) ∧ Below w.heap.size w w' := by
  have hmf : ∀ (fn : Fn) (first cap : Array Value) (w : World), (Instr.makeFunc fn first cap).run Tryz.prog w = .ok (.func fn first cap) w := fun _ _ _ _ => rfl
  obtain ⟨W, hW⟩ : ∃ W, ((w.alloc (.cells (tbVal zTb (.slice none 0 0)) 47)).alloc (.cells #[.bool false] 4)).alloc (.cells #[.slice (some ⟨b, off, none⟩) N c] 121) = W := ⟨_, rfl⟩
  have hB : Below w.heap.size w W := by rw [← hW]; exact (((Below.refl _ w).alloc (Nat.le_refl _) _).alloc (by simp) _).alloc (by simp; omega) _
  have hs : W.heap.size = w.heap.size + 3 := by rw [← hW]; simp
  have ht : W.heap[w.heap.size]? = some (.cells (tbVal zTb (.slice none 0 0)) 47 (0, 0)) := by rw [← hW]; exact (Below.heap_alloc _ _ _ (by simp; omega)).trans (heap_alloc2_old w _ _)
  have ho : W.heap[w.heap.size + 1]? = some (.cells #[.bool false] 4 (0, 0)) := by rw [← hW]; exact (Below.heap_alloc _ _ _ (by simp)).trans (heap_alloc2_new w _ _)
  have hr : TRd w.heap.size W (w.heap.size + 2) (tbShort t x) := by
    refine ⟨⟨b, off, c, ?_, by rw [hN]; exact hc1, hc2, hbl, fun j hj => (hB.cell (p := ⟨b, off + j, none⟩) hbl).trans (hA j (by omega))⟩, by omega⟩
    rw [← hW, hN]
    have := heap_alloc_last ((w.alloc (.cells (tbVal zTb (.slice none 0 0)) 47)).alloc (.cells #[.bool false] 4)) (.cells #[.slice (some ⟨b, off, none⟩) N c] 121)
    simpa using this
  have HB := Lib.hid hB
  have HS := Lib.hid hs
  have HO := Lib.hid ho
  have HC := Lib.hid (trwhole_no w.heap.size W (w.heap.size + 2) w.heap.size t x h hxf hr ht (Nat.le_refl _) (by omega))
  have hp32 := h.prev
  clear h hN hA hB hs ht ho hr
  go_enter_defers Tryz.func28, Tryz.ntmps28
  go_wp2_with fail
  rw [zTb_cells, hW]
  refine HC.out.mono ?_
  rintro e w2 ⟨rfl, g, cz, hp2⟩
  have hs0 := HS.out
  have ho2 : w2.heap[w.heap.size + 1]? = some (.cells #[.bool false] 4 (0, 0)) := (hp2.block _ (by omega) (by omega) (by omega)).trans HO.out
  have HB2 := Lib.hid (hp2.grown HB.out (Nat.le_refl _) (by omega) (by omega))
  refine leaves_cons (f := 43) (args := #[.pointer (some ⟨w.heap.size + 1, 0, none⟩)]) (by simp) (by simp [go_sem]) ?_
  refine (tcatch_short (w.heap.size + 1) w2 (.bool false) ho2).mono ?_
  rintro e u' w3 ⟨rfl, rfl, hk3, hq3⟩
  have hv3 : w3.heap[w.heap.size]? = some (.cells (tbVal { t with mac := zero32, zones := [] } (.slice (some ⟨g, 0, none⟩) 1 cz)) 47 (0, 0)) := (hk3.block _ (by have := hp2.size; omega) (by omega)).trans hp2.tgt
  have hc3 := cell_of_row _ (w.heap.size + 1) 0 _ _ _ hq3
  refine ⟨_, results_row_cell rfl _ _ w.heap.size (w.heap.size + 1) _ (tbVal { t with mac := zero32, zones := [] } (.slice (some ⟨g, 0, none⟩) 1 cz)) (0, 0) _ (.bool false) rfl hv3 Tryz.underlying47 rfl (tb_info { t with mac := zero32, zones := [] } _ hp32 rfl) rfl (load_boolv _ _ _ hc3), ⟨g, cz, rfl⟩, ?_⟩
  have h1 := HB2.out
  exact ⟨hk3.os.trans h1.os, hk3.tape.trans h1.tape, hk3.output.trans h1.output, Nat.le_trans h1.size hk3.size, fun k hk => (hk3.block k (Nat.lt_of_lt_of_le hk h1.size) (by omega)).trans (h1.block k hk)⟩
set_option maxRecDepth 10000 in
set_option maxHeartbeats 2000000 in
theorem tableRead_no (w : World) (t : Tb) (x : Ze) (N b off c : Nat) (h : TbFlat t) (hxf : ZnFlat x.z ∧ x.name.size ≤ 32) (hN : (tbShort t x).length = N) (hbl : b < w.heap.size) (hc1 : N ≤ c) (hc2 : c ≤ 9223372036854775807)
    (hA : ∀ j, j < N → w.cell? ⟨b, off + j, none⟩ = some (Extern.Stop.cell ((tbShort t x)[j]?.getD 0))) :
    Calls Tryz.prog 12 #[.slice (some ⟨b, off, none⟩) N c] w (Gives (.tuple #[.agg (tbVal zTb (.slice none 0 0)), .int .i64 3]) w) := by
  have HW0 := Lib.hid (AV.new w (tbVal zTb (.slice none 0 0)) 47)
  have HB0 := Lib.hid (below_var w (.cells (tbVal zTb (.slice none 0 0)) 47))
  have HC : Hid (∀ W, Below w.heap.size w W → Calls Tryz.prog 28 #[.slice (some ⟨b, off, none⟩) N c] W fun e w' => (∃ g cz, e = .returned (.tuple #[.agg (tbVal { t with mac := zero32, zones := [] } (.slice (some ⟨g, 0, none⟩) 1 cz)), .bool false])) ∧ Below W.heap.size W w') := Lib.hid (fun W hb => tread_no W t x N b off c h hxf hN (Nat.lt_of_lt_of_le hbl hb.size) hc1 hc2 fun j hj => (hb.cell (p := ⟨b, off + j, none⟩) hbl).trans (hA j hj))
  have hp32 := h.prev
  clear h hN hA
  go_enter Tryz.func12, Tryz.ntmps12
  go_upto_region 1 with ((with_reducible refine g_alloc 47 ?_); go_must (refine wpList_alloc_nm rfl _ rfl (tbVal zTb (.slice none 0 0)) tab_zero ?_))
  go_wp2_with fail
  refine (HC.out _ HB0.out).mono ?_
  rintro e w2 ⟨⟨g, cz, rfl⟩, hb2⟩
  have HR2 := Lib.hid (HW0.out.below hb2)
  have HB2 := Lib.hid (below_trans HB0.out hb2)
  have HSZ : Hid ((Tryz.prog.info? 47).map (·.size) = some (tbVal { t with mac := zero32, zones := [] } (.slice (some ⟨g, 0, none⟩) 1 cz)).size) := Lib.hid (tb_info { t with mac := zero32, zones := [] } _ hp32 rfl)
  have HSE : Hid ((tbVal zTb (.slice none 0 0)).size = (tbVal { t with mac := zero32, zones := [] } (.slice (some ⟨g, 0, none⟩) 1 cz)).size) := Lib.hid ((tb_size zTb _ rfl rfl).trans (tb_size { t with mac := zero32, zones := [] } _ hp32 rfl).symm)
  have hw2 : w.heap.size < w2.heap.size := HR2.out.lt
  have HZI : Hid ((Tryz.prog.info? 47).map (·.size) = some (tbVal zTb (.slice none 0 0)).size) := Lib.hid (tb_info zTb _ rfl rfl)
  clear hb2 HC HW0 HB0
  have HR3 : Hid (AV w.heap.size 47 (tbVal zTb (.slice none 0 0)) ((w2.alloc (.cells (tbVal zTb (.slice none 0 0)) 47)).setRow w2.heap.size (tbVal { t with mac := zero32, zones := [] } (.slice (some ⟨g, 0, none⟩) 1 cz)))) := Lib.hid ((HR2.out.below (below_var w2 _)).rowF (by omega) _)
  have HB3 : Hid (Below w.heap.size w ((w2.alloc (.cells (tbVal zTb (.slice none 0 0)) 47)).setRow w2.heap.size (tbVal { t with mac := zero32, zones := [] } (.slice (some ⟨g, 0, none⟩) 1 cz)))) := Lib.hid (below_setRow' (below_trans HB2.out (below_var w2 _)) (by omega) _)
  go_wp2_with (first
    | ((with_reducible refine g_alloc 47 ?_); go_must (refine wpList_alloc_nm rfl _ rfl (tbVal zTb (.slice none 0 0)) tab_zero ?_))
    | ((with_reducible refine pb_build 47 ?_); go_must (refine wpList_build_as rfl _ rfl (tbVal zTb (.slice none 0 0)) (by kernel_rfl) ?_))
    | ((with_reducible refine g_sto 47 ?_); go_must (first
        | (refine wpList_store_row rfl _ _ _ rfl w2.heap.size (tbVal { t with mac := zero32, zones := [] } (.slice (some ⟨g, 0, none⟩) 1 cz)) rfl rfl 47 (tbVal zTb (.slice none 0 0)) (heap_alloc_last _ _) HSZ.out HSE.out (tbVal_one _ _ _ _) ?_)
        | (refine wpList_store_row rfl _ _ _ rfl w.heap.size (tbVal zTb (.slice none 0 0)) rfl rfl 47 (tbVal zTb (.slice none 0 0)) HR3.out.var HZI.out rfl (tbVal_one _ _ _ _) ?_))))
  refine bodyPost_ret (v := .tuple #[.agg (tbVal zTb (.slice none 0 0)), I 3]) (results_row_tmp rfl _ _ w.heap.size _ (tbVal zTb (.slice none 0 0)) (0, 0) _ rfl (setRow_heap _ _ _ _ _ _ HR3.out.var) Tryz.underlying47 rfl HZI.out _ rfl) rfl ?_
  exact ⟨rfl, below_setRow' HB3.out (Nat.le_refl _) _⟩
end Go.Proofs.YtbdkalpljhpnmaaGreat
