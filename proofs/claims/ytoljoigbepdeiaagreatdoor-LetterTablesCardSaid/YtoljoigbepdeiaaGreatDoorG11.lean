/- The texts LwB, LwC, in this order. -/
import Derived.Test.YtoljoigbepdeiaaGreatDoorG09
import Derived.Test.YtoljoigbepdeiaaGreatDoorG10
import Derived.BigQuiet
import Derived.Deep.AppendLies
import Derived.Deep.CutBlock
import Derived.Deep.DeepCutAuto
import Derived.Deep.DrawnRows
import Derived.Deep.MidRow
import Derived.Deep.QuietTactic
import Derived.Deep.RegionHeld3
import Derived.Deep.RegionLaw
import Derived.Deep.WholeRow
import Derived.Great.BuildSlice
import Derived.Laws.BytesString
import Derived.Laws.CopyOwn
import Derived.Laws.EntriesVeiled
import Derived.Laws.MakeOwn
import Derived.Laws.ResultCell
import Derived.Laws.Rows
import Derived.Laws.Tables
import Derived.Lib.Hide
import Derived.LoopIn
import Derived.LoopNIn
import Derived.Maps.AppendAt
import Derived.Outline
import Derived.OwnWalkIn
import Derived.RangeFuncBound
import Derived.RangeFuncBox
import Derived.RangeFuncCalls
import Derived.RangeFuncLeaves
import Derived.RangeFuncNested
import Derived.Shelf.Abstract
import Derived.Shelf.Bytes.SlSmallAll
import Derived.Shelf.RegionOpen
import Derived.StillTailTactics
import Derived.Stop.BytesEq
import Derived.TacticsInMore
import Derived.WalkKit
import Derived.WalkLawsBesides
import Derived.WalkSpells
/- LetterTables: the law's table is flat, its names rise (plain; the definitions move here from LwA when LwA imports this). -/
namespace Go.Proofs.YtoljoigbepdeiaaGreatDoor
open Go Go.RowKit

def tb0 (iss : Int) (zs : List Ze) : Tb := ⟨iss % 16, 1, 0, zero32, zero32, zs⟩
def lawZe (k : Nat) (o : Int) : Ze := ⟨⟨#[122]⟩ ++ ⟨#[97 + UInt8.ofNat k]⟩, ⟨⟨0, [3], -1, []⟩, o, [], 0, []⟩⟩
def lawZes (os : List Int) : List Ze := os.mapIdx lawZe
theorem lawZe_of {os : List Int} {e : Ze} (h : e ∈ lawZes os) : ∃ k o, k < os.length ∧ os[k]? = some o ∧ e = lawZe k o := by
  unfold lawZes at h
  obtain ⟨k, hk, rfl⟩ := List.mem_mapIdx.1 h
  exact ⟨k, os[k], hk, List.getElem?_eq_getElem hk, rfl⟩
theorem lawZe_flat (k : Nat) (o : Int) (ho : 0 ≤ o ∧ o < 256) : ZnFlat (lawZe k o).z := by
  refine ⟨?_, by show -1080 ≤ o ∧ o ≤ 1080; omega, rfl, by show (-2251799813685248 : Int) ≤ 0 ∧ (0 : Int) ≤ 2251799813685248; omega, rfl⟩
  constructor <;> simp [lawZe]
theorem flat_tb (iss : Int) (os : List Int) (h5 : os.length ≤ 5) (ho : ∀ z ∈ os, 0 ≤ z ∧ z < 256) : TbFlat (tb0 iss (lawZes os)) where
  issuer := by show 0 ≤ iss % 16 ∧ iss % 16 < 16; omega
  version := by show (1 : Int) ≤ 1 ∧ (1 : Int) ≤ 64; omega
  withdraws := by show (0 : Int) ≤ 0 ∧ (0 : Int) < 1; omega
  prev := rfl
  mac := rfl
  first := fun _ => rfl
  num := by show (lawZes os).length ≤ 128; simp [lawZes]; omega
  flat := fun e he => by
    obtain ⟨k, o, hk, hx, rfl⟩ := lawZe_of he
    exact lawZe_flat k o (ho o (List.mem_of_getElem? hx))
  short := fun e he => by
    obtain ⟨k, o, hk, hx, rfl⟩ := lawZe_of he
    show (⟨#[122]⟩ ++ ⟨#[97 + UInt8.ofNat k]⟩ : ByteArray).size ≤ 32
    rw [ByteArray.size_append]
    show 1 + 1 ≤ 32
    decide
def lawNm (k : Nat) : ByteArray := ⟨#[122]⟩ ++ ⟨#[97 + UInt8.ofNat k]⟩
theorem nm_zero : Op.bytesLess (lawNm 0).toList (⟨#[]⟩ : ByteArray).toList = false ∧ ((lawNm 0).toList == (⟨#[]⟩ : ByteArray).toList) = false := by decide +kernel
theorem nm_next : ∀ k, k < 4 → Op.bytesLess (lawNm (k + 1)).toList (lawNm k).toList = false ∧ ((lawNm (k + 1)).toList == (lawNm k).toList) = false := by decide +kernel
theorem nm_at {os : List Int} {ys : List ZeV} (hy : ys.map (·.e) = lawZes os) {k : Nat} {x : ZeV} (hx : ys[k]? = some x) : k < os.length ∧ x.e.name = lawNm k := by
  have h : (ys.map (·.e))[k]? = some x.e := by rw [List.getElem?_map, hx]; rfl
  rw [hy] at h
  unfold lawZes at h
  rw [List.getElem?_mapIdx] at h
  obtain ⟨o, ho, he⟩ := Option.map_eq_some_iff.1 h
  refine ⟨(List.getElem?_eq_some_iff.1 ho).1, ?_⟩
  rw [← he]
  rfl
theorem up_tb {os : List Int} (h5 : os.length ≤ 5) (ys : List ZeV) (hy : ys.map (·.e) = lawZes os) : NamesUp ys := by
  intro k x hx
  obtain ⟨hk, hn⟩ := nm_at hy hx
  rw [hn]
  cases k with
  | zero => exact nm_zero
  | succ k =>
    have hk2 : k < ys.length := by have := (List.getElem?_eq_some_iff.1 hx).1; omega
    obtain ⟨y, hy2⟩ : ∃ y, ys[k]? = some y := ⟨_, List.getElem?_eq_getElem hk2⟩
    obtain ⟨_, hn2⟩ := nm_at hy hy2
    have e : lastName ys (k + 1) = lawNm k := by
      show ((ys[k]?).map (·.e.name)).getD ⟨#[]⟩ = lawNm k
      rw [hy2]
      exact hn2
    rw [e]
    exact nm_next k (by omega)
end Go.Proofs.YtoljoigbepdeiaaGreatDoor

/- LetterTables: what the law's walk keeps in memory. -/
namespace Go.Proofs.YtoljoigbepdeiaaGreatDoor
open Go Go.RowKit

section
variable {P : Program} {ops : Array Oper} {o : Oper} {a : Act} {w : World} {K : Act → World → Prop} {Q : Exit → Act → World → Prop} {E : Prop}
theorem lw_step_alloc (hgd : o.guard = none) (t : TypeId) (ho : o.op = .alloc t) (cells : Array Value) (hz : (P.info? t).map (fun i => (i.zero, i.size)) = some (some (.agg cells), cells.size))
    (h : K (a.put o.dst (.pointer (some ⟨w.heap.size, 0, none⟩))) (w.alloc (.cells cells t))) : if Region.wanted o (yielded ops a.tmps) = true then Oper.wp P o a w K Q else E := by
  have hw : Region.wanted o (yielded ops a.tmps) = true := by simp [Region.wanted, hgd]
  rw [if_pos hw]
  unfold Oper.wp execOp
  simp only [ho, Sem.run_bind, run_alloc_var w t (.agg cells) _ hz, Result.andThen_ok]
  exact h
theorem lw_step_store (hgd : o.guard = none) (ty : TypeId) (x y : Operand) (ho : o.op = .store ty x y) (g : Nat) (cells : Array Value) (hx : a.eval x = .pointer (some ⟨g, 0, none⟩)) (hy : a.eval y = .agg cells)
    (t : TypeId) (old : Array Value) (hg : w.heap[g]? = some (.cells old t (0, 0))) (hi : (P.info? ty).map (·.size) = some cells.size) (hold : old.size = cells.size) (h1 : cells.all (·.oneCell') = true)
    (h : K (a.put o.dst undef) (w.setRow g cells)) : if Region.wanted o (yielded ops a.tmps) = true then Oper.wp P o a w K Q else E := by
  have hw : Region.wanted o (yielded ops a.tmps) = true := by simp [Region.wanted, hgd]
  rw [if_pos hw]
  exact wp_store_row ty x y ho g cells hx hy t old hg hi hold h1 h
theorem yieldsIf_build {S : World → Prop} (hw : Region.wanted o (yielded ops a.tmps) = true) (t : TypeId) (parts : Array (Nat × Operand)) (ho : o.op = .build t parts) (l : List (Nat × Value)) (hl : (parts.map fun (i, x) => (i, a.eval x)).toList = l)
    (cells : Array Value) (hb : P.built t l = some cells) : YieldsIf P ops S o (.agg cells) a :=
  .inl ⟨hw, fun w _ => by
    subst hl
    unfold execOp
    simp only [ho, Sem.run_bind, run_build w t _ cells hb, Result.andThen_ok, Sem.run_pure]⟩
end
section
variable {P : Program} {ops : Array Oper} {Q : Exit → Act → World → Prop} {a : Act} {w : World} {rest : List Oper} {o : Oper}
theorem lw_store_new {ob : Obj} (hgd : o.guard = none) (ty : TypeId) (x y : Operand) (ho : o.op = .store ty x y) (cells : Array Value) (hx : a.eval x = .pointer (some ⟨w.heap.size, 0, none⟩)) (hy : a.eval y = .agg cells) (t : TypeId) (old : Array Value) (hob : ob = .cells old t (0, 0)) (hi : (P.info? ty).map (·.size) = some cells.size) (hold : old.size = cells.size) (h1 : cells.all (·.oneCell') = true)
    (h : ∀ W, Below w.heap.size w W → W.heap.size = w.heap.size + 1 → W.heap[w.heap.size]? = some (.cells cells t (0, 0)) → wpList P ops Q rest (a.put o.dst undef) W) : wpList P ops Q (o :: rest) a (w.alloc ob) := by
  subst hob
  refine wpList_store_row hgd ty x y ho w.heap.size cells hx hy t old (heap_alloc_last w _) hi hold h1 (h _ (below_setRow (below_var w _) (Nat.le_refl _) _) (by simp [World.setRow]) (setRow_heap _ _ _ _ _ _ (heap_alloc_last w _)))
end
def byteInts (bs : List UInt8) : List Int := bs.map fun b => (b.toNat : Int)
theorem byteInts_len (bs : List UInt8) : (byteInts bs).length = bs.length := List.length_map _
theorem byteInts_at {bs : List UInt8} {j : Nat} {z : Int} (h : (byteInts bs)[j]? = some z) : ∃ b, bs[j]? = some b ∧ z = (b.toNat : Int) := by
  unfold byteInts at h
  rw [List.getElem?_map] at h
  obtain ⟨b, hb, rfl⟩ := Option.map_eq_some_iff.1 h
  exact ⟨b, hb, rfl⟩
theorem byteInts_range (bs : List UInt8) : ∀ z ∈ byteInts bs, 0 ≤ z ∧ z < 256 := fun z hz => by
  obtain ⟨b, _, rfl⟩ := List.mem_map.1 hz
  have := b.toNat_lt
  omega
theorem byteInts_u8 (bs : List UInt8) : (byteInts bs).map (Value.int .u8) = bs.map Extern.Stop.cell := by
  unfold byteInts
  rw [List.map_map]
  rfl
theorem byteInts_cells {W : World} {B g : Nat} {bs : List UInt8} (h : BytesAt W B (some ⟨g, 0, none⟩) bs) : ∀ j z, (byteInts bs)[j]? = some z → W.cell? ⟨g, 0 + j, none⟩ = some (.int .u8 z) := fun j z hz => by
  obtain ⟨b, hb, rfl⟩ := byteInts_at hz
  have hj := (List.getElem?_eq_some_iff.1 hb).1
  rcases h with h | ⟨b', off, e, _, hc⟩
  · omega
  · injection e with e
    injection e with e1 e2 e3
    subst e1 e2
    rw [hc j hj, hb]
    rfl
theorem bytesAt_lt {W : World} {B g : Nat} {bs : List UInt8} (h : BytesAt W B (some ⟨g, 0, none⟩) bs) (h0 : 0 < bs.length) : g < B := by
  rcases h with h | ⟨b', off, e, hb, _⟩
  · omega
  · injection e with e
    injection e with e1 e2 e3
    subst e1
    exact hb
theorem bytesAt_cells {W : World} {B g : Nat} {bs : List UInt8} (h : BytesAt W B (some ⟨g, 0, none⟩) bs) : ∀ j, j < bs.length → W.cell? ⟨g, 0 + j, none⟩ = some (Extern.Stop.cell (bs[j]?.getD 0)) := fun j hj => by
  rcases h with h | ⟨b', off, e, _, hc⟩
  · omega
  · injection e with e
    injection e with e1 e2 e3
    subst e1 e2
    exact hc j hj
theorem ints_of_own {W : World} {lo n e : Nat} {C : Option Addr} {zs : List Int} (h : W.ownsRow lo 3 1 (.slice C n e) n (zs.map I)) (hn : zs.length = n) : IntsAt W W.heap.size C zs := by
  by_cases h0 : zs.length = 0
  · exact .inl h0
  · obtain ⟨g, c, hv, hg⟩ := own_form h (by omega)
    injection hv with e1 e2 e3
    rw [e1] at h ⊢
    refine .inr ⟨g, 0, rfl, hg, fun j hj => ?_⟩
    rw [Nat.zero_add]
    have h2 := World.ownsRow.cells h (g := g) rfl j (I (zs[j]?.getD 0)) (by rw [List.getElem?_map, List.getElem?_eq_getElem hj]; rfl)
    rw [addr_add] at h2
    exact h2
theorem IntsAt.other {W W' : World} {g k : Nat} {zs : List Int} (h : IntsAt W W.heap.size (some ⟨g, 0, none⟩) zs) (hk : g ≠ k) (hs : W'.heap.size = W.heap.size) (hb : ∀ j, j ≠ k → W'.heap[j]? = W.heap[j]?) : IntsAt W' W'.heap.size (some ⟨g, 0, none⟩) zs := by
  rcases h with h | ⟨b, off, hA, hl, hc⟩
  · exact .inl h
  · injection hA with e
    injection e with e1 e2 e3
    subst e1 e2
    exact .inr ⟨g, 0, rfl, by rw [hs]; exact hl, fun j hj => (World.cell?_of_block (a := ⟨g, 0 + j, none⟩) (hb g hk)).trans (hc j hj)⟩
theorem ints_cells {W : World} {B g : Nat} {zs : List Int} (h : IntsAt W B (some ⟨g, 0, none⟩) zs) : ∀ j z, zs[j]? = some z → W.cell? ⟨g, 0 + j, none⟩ = some (.int .i64 z) := fun j z hz => by
  have hj := (List.getElem?_eq_some_iff.1 hz).1
  rcases h with h | ⟨b', off, e, _, hc⟩
  · omega
  · injection e with e
    injection e with e1 e2 e3
    subst e1 e2
    rw [hc j hj, hz]
    rfl
/-- The letter's literal. -/
theorem built_lt (iss : Int) (C : Option Addr) (e : Nat) (zs : List Int) (m : List UInt8) (h : m.length = 32) :
    Tryz.prog.built 57 [(0, I 17), (1, I 1), (2, I 2), (5, I iss), (6, I 1), (18, .slice C zs.length e), (19, .agg (refCells m).toArray)] = some (ltVal (tbLt iss zs m) ⟨none, none, C, 0, 0, e⟩) := by
  obtain _ | ⟨m0, m⟩ := m
  · simp at h
  obtain _ | ⟨m1, m⟩ := m
  · simp at h
  obtain _ | ⟨m2, m⟩ := m
  · simp at h
  obtain _ | ⟨m3, m⟩ := m
  · simp at h
  obtain _ | ⟨m4, m⟩ := m
  · simp at h
  obtain _ | ⟨m5, m⟩ := m
  · simp at h
  obtain _ | ⟨m6, m⟩ := m
  · simp at h
  obtain _ | ⟨m7, m⟩ := m
  · simp at h
  obtain _ | ⟨m8, m⟩ := m
  · simp at h
  obtain _ | ⟨m9, m⟩ := m
  · simp at h
  obtain _ | ⟨m10, m⟩ := m
  · simp at h
  obtain _ | ⟨m11, m⟩ := m
  · simp at h
  obtain _ | ⟨m12, m⟩ := m
  · simp at h
  obtain _ | ⟨m13, m⟩ := m
  · simp at h
  obtain _ | ⟨m14, m⟩ := m
  · simp at h
  obtain _ | ⟨m15, m⟩ := m
  · simp at h
  obtain _ | ⟨m16, m⟩ := m
  · simp at h
  obtain _ | ⟨m17, m⟩ := m
  · simp at h
  obtain _ | ⟨m18, m⟩ := m
  · simp at h
  obtain _ | ⟨m19, m⟩ := m
  · simp at h
  obtain _ | ⟨m20, m⟩ := m
  · simp at h
  obtain _ | ⟨m21, m⟩ := m
  · simp at h
  obtain _ | ⟨m22, m⟩ := m
  · simp at h
  obtain _ | ⟨m23, m⟩ := m
  · simp at h
  obtain _ | ⟨m24, m⟩ := m
  · simp at h
  obtain _ | ⟨m25, m⟩ := m
  · simp at h
  obtain _ | ⟨m26, m⟩ := m
  · simp at h
  obtain _ | ⟨m27, m⟩ := m
  · simp at h
  obtain _ | ⟨m28, m⟩ := m
  · simp at h
  obtain _ | ⟨m29, m⟩ := m
  · simp at h
  obtain _ | ⟨m30, m⟩ := m
  · simp at h
  obtain _ | ⟨m31, m⟩ := m
  · simp at h
  obtain _ | ⟨mx, m⟩ := m
  · kernel_rfl
  · simp at h
theorem tb_zero : (Tryz.prog.info? 30).map (fun i => (i.zero, i.size)) = some (some (.agg (tbVal zTb (.slice none 0 0))), (tbVal zTb (.slice none 0 0)).size) := by kernel_rfl
theorem lt_macR {W : World} {b : Nat} {L : Lt} {s : Sl} (hr : Row W b (ltVal L s)) : W.rangeAt b 30 (refCells L.ref) := fun j v hv => by
  rw [hr.2 (30 + j)]
  unfold ltVal
  rw [lt_getRef]
  exact hv
theorem lw_mac_at (t : Tb) (v : Value) (i : Nat) (hp : t.prev.length = 32) (hi : i < t.mac.length) : (tbVal t v)[36 + i]? = some (Extern.Stop.cell (t.mac[i]?.getD 0)) := by
  unfold tbVal tbList
  have hl : (refCells t.prev).length = 32 := by simp [refCells, hp]
  rw [List.getElem?_toArray, List.getElem?_append_right (by simp; omega), List.getElem?_append_right (by simp [hl]; omega)]
  rw [show 36 + i - [I t.issuer, I t.version, I t.withdraws, v].length - (refCells t.prev).length = i by simp [hl]; omega]
  simp [refCells, hi]
/-- As far as the letter. -/
structure LwS (w : World) (wc tc : Array Value) (bt sb g : Nat) (T : Tb) (v3 : Value) (W : World) : Prop where
  lo : Below w.heap.size w W
  wire : Row W w.heap.size wc
  tb : Row W bt tc
  sb : Row W sb (tbVal T v3)
  bys : BytesAt W W.heap.size (some ⟨g, 0, none⟩) (tbBytes T)
section
variable {w W W' : World} {wc tc : Array Value} {bt sb g : Nat} {T : Tb} {v3 : Value}
theorem LwS.below (h : LwS w wc tc bt sb g T v3 W) (hb : Below W.heap.size W W') : LwS w wc tc bt sb g T v3 W' := ⟨below_trans h.lo hb, h.wire.keep hb, h.tb.keep hb, h.sb.keep hb, bytesAt_grow h.bys hb⟩
theorem LwS.drew (h : LwS w wc tc bt sb g T v3 W) : LwS w wc tc bt sb g T v3 W.drew := h.below (Below.refl _ W).drew
theorem LwS.alloc (h : LwS w wc tc bt sb g T v3 W) (o : Obj) : LwS w wc tc bt sb g T v3 (W.alloc o) := h.below (below_var W o)
end
/-- With the letter. -/
structure LwL (w : World) (wc : Array Value) (sb g lb : Nat) (T : Tb) (v3 : Value) (L : Lt) (s : Sl) (W : World) : Prop where
  lo : Below w.heap.size w W
  wire : Row W w.heap.size wc
  sb : Row W sb (tbVal T v3)
  bys : BytesAt W W.heap.size (some ⟨g, 0, none⟩) (tbBytes T)
  lt : Row W lb (ltVal L s)
  ints : IntsAt W W.heap.size s.C L.cells
section
variable {w W W' : World} {wc : Array Value} {sb g lb : Nat} {T : Tb} {v3 : Value} {L : Lt} {s : Sl}
theorem LwL.below (h : LwL w wc sb g lb T v3 L s W) (hb : Below W.heap.size W W') : LwL w wc sb g lb T v3 L s W' := ⟨below_trans h.lo hb, h.wire.keep hb, h.sb.keep hb, bytesAt_grow h.bys hb, h.lt.keep hb, (h.ints.keep hb).more hb.size⟩
/-- Another letter in its place. -/
theorem LwL.next {lb2 : Nat} {L2 : Lt} {s2 : Sl} (h : LwL w wc sb g lb T v3 L s W) (hb : Below W.heap.size W W') (hr : Row W' lb2 (ltVal L2 s2)) (hi : IntsAt W' W'.heap.size s2.C L2.cells) : LwL w wc sb g lb2 T v3 L2 s2 W' :=
  { h.below hb with lt := hr, ints := hi }
end
/-- With the table that was read. -/
structure LwN (w : World) (wc : Array Value) (sb g lb gb : Nat) (T : Tb) (v3 : Value) (L : Lt) (s : Sl) (Tg : Tb) (vg : Value) (ys : List ZeV) (W : World) : Prop where
  lo : Below w.heap.size w W
  wire : Row W w.heap.size wc
  sb : Row W sb (tbVal T v3)
  bys : BytesAt W W.heap.size (some ⟨g, 0, none⟩) (tbBytes T)
  lt : Row W lb (ltVal L s)
  got : W.heap[gb]? = some (.cells (tbVal Tg vg) 30 (0, 0))
  zs : ∃ lo, ZsOwn lo W vg ys
section
variable {w W W' : World} {wc : Array Value} {sb g lb gb : Nat} {T Tg : Tb} {v3 vg : Value} {L : Lt} {s : Sl} {ys : List ZeV}
theorem LwN.below (h : LwN w wc sb g lb gb T v3 L s Tg vg ys W) (hb : Below W.heap.size W W') : LwN w wc sb g lb gb T v3 L s Tg vg ys W' :=
  ⟨below_trans h.lo hb, h.wire.keep hb, h.sb.keep hb, bytesAt_grow h.bys hb, h.lt.keep hb, (hb.block gb (lt_of_blk h.got)).trans h.got, h.zs.elim fun lo hz => ⟨lo, hz.below hb⟩⟩
theorem LwN.drew (h : LwN w wc sb g lb gb T v3 L s Tg vg ys W) : LwN w wc sb g lb gb T v3 L s Tg vg ys W.drew := h.below (Below.refl _ W).drew
theorem LwL.got {A : Option Addr} {n c : Nat} (h : LwL w wc sb g lb T v3 L s W) (hb : Below W.heap.size W W') (hz : ZsOwn W.heap.size W' (.slice A n c) ys) {W2 : World} (hb2 : Below W'.heap.size W' W2) (hg : W2.heap[W'.heap.size]? = some (.cells (tbVal Tg (.slice A n c)) 30 (0, 0))) : LwN w wc sb g lb W'.heap.size T v3 L s Tg (.slice A n c) ys W2 :=
  have h2 := (h.below hb).below hb2
  ⟨h2.lo, h2.wire, h2.sb, h2.bys, h2.lt, hg, ⟨_, hz.below hb2⟩⟩
end
/-- At the law's last statement. -/
def LwZ (w : World) (wc : Array Value) (sb g lb gb g2 : Nat) (T : Tb) (v3 : Value) (L : Lt) (s : Sl) (Tg : Tb) (vg : Value) (ys : List ZeV) (W : World) : Prop :=
  LwN w wc sb g lb gb T v3 L s Tg vg ys W ∧ BytesAt W W.heap.size (some ⟨g2, 0, none⟩) (tbBytes T)
theorem LwZ.below {w W W' : World} {wc : Array Value} {sb g lb gb g2 : Nat} {T Tg : Tb} {v3 vg : Value} {L : Lt} {s : Sl} {ys : List ZeV} (h : LwZ w wc sb g lb gb g2 T v3 L s Tg vg ys W) (hb : Below W.heap.size W W') : LwZ w wc sb g lb gb g2 T v3 L s Tg vg ys W' :=
  ⟨h.1.below hb, bytesAt_grow h.2 hb⟩
theorem Row.other {W W' : World} {b k : Nat} {cs : Array Value} (h : Row W b cs) (hk : b ≠ k) (hs : W'.heap.size = W.heap.size) (hb : ∀ j, j ≠ k → W'.heap[j]? = W.heap[j]?) : Row W' b cs :=
  ⟨by rw [hs]; exact h.1, fun i => (World.cell?_of_block (a := ⟨b, i, none⟩) (hb b hk)).trans (h.2 i)⟩
theorem BytesAt.other {W W' : World} {g k : Nat} {bs : List UInt8} (h : BytesAt W W.heap.size (some ⟨g, 0, none⟩) bs) (hk : g ≠ k) (hs : W'.heap.size = W.heap.size) (hb : ∀ j, j ≠ k → W'.heap[j]? = W.heap[j]?) : BytesAt W' W'.heap.size (some ⟨g, 0, none⟩) bs := by
  rcases h with h | ⟨b, off, hA, hl, hc⟩
  · exact .inl h
  · injection hA with e
    injection e with e1 e2 e3
    subst e1 e2
    exact .inr ⟨g, 0, rfl, by rw [hs]; exact hl, fun j hj => (World.cell?_of_block (a := ⟨g, 0 + j, none⟩) (hb g hk)).trans (hc j hj)⟩
set_option maxRecDepth 10000 in
theorem xb_ne : ∀ x : Fin 256, bits BinOp.xor IntKind.u8 ((x.val : Nat) : Int) 1 ≠ ((x.val : Nat) : Int) := by decide
theorem set_ne (m : List UInt8) (i : Nat) (h : i < m.length) : (!(m.set i (xb 1 (m[i]?.getD 0)) == m)) = true := by
  have hx : xb 1 (m[i]?.getD 0) ≠ m[i]?.getD 0 := fun e => by
    have h2 := congrArg (fun z : UInt8 => Extern.Stop.cell z) e
    simp only [xb_cell] at h2
    have h3 := xb_ne ⟨(m[i]?.getD 0).toNat, (m[i]?.getD 0).toNat_lt⟩
    apply h3
    simpa [Extern.Stop.cell] using h2
  have : m.set i (xb 1 (m[i]?.getD 0)) ≠ m := fun e => by
    apply hx
    have h2 := congrArg (fun l : List UInt8 => l[i]?.getD 0) e
    simpa [h] using h2
  simpa using this
end Go.Proofs.YtoljoigbepdeiaaGreatDoor
