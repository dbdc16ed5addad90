/- kalendsref13.some; what kalendsref13.Made builds. -/
import Derived.Test.YtbdkalpljhpnmaaGreatKf
import Derived.BigQuiet
import Derived.Deep.AppendLies
import Derived.Deep.CutBlock
import Derived.Deep.DeepCutAuto
import Derived.Deep.DrawnRows
import Derived.Deep.MidRow
import Derived.Deep.QuietTactic
import Derived.Deep.RegionHeld3
import Derived.Deep.RegionLaw
import Derived.Deep.WholeRow
import Derived.Great.BuildSlice
import Derived.Handy
import Derived.Laws.BytesString
import Derived.Laws.CopyOwn
import Derived.Laws.EntriesVeiled
import Derived.Laws.MakeOwn
import Derived.Laws.ResultCell
import Derived.Laws.Rows
import Derived.Laws.Tables
import Derived.Lib.Hide
import Derived.LoopIn
import Derived.LoopNIn
import Derived.Maps.AppendAt
import Derived.Outline
import Derived.OwnWalkIn
import Derived.RangeFuncBound
import Derived.RangeFuncBox
import Derived.RangeFuncCalls
import Derived.RangeFuncLeaves
import Derived.RangeFuncNested
import Derived.Shelf.Abstract
import Derived.Shelf.Bytes.SlSmallAll
import Derived.Shelf.RegionOpen
import Derived.StillTailTactics
import Derived.Stop.BytesEq
import Derived.TacticsInMore
import Derived.WalkKit
import Derived.WalkLawsBesides
import Derived.WalkSpells
namespace Go.Proofs.YtbdkalpljhpnmaaGreat
open Go Go.RowKit

def someL : List Int := [0, 60, 120, -90, 30, 1080, -1080, 90]
def someF (n : Nat) : Int := someL.getD (n % 8) 0
theorem someF_bd (n : Nat) : -1080 ≤ someF n ∧ someF n ≤ 1080 := by
  have h : n % 8 < 8 := Nat.mod_lt _ (by omega)
  unfold someF
  generalize n % 8 = k at h
  match k, h with
  | 0, _ => decide
  | 1, _ => decide
  | 2, _ => decide
  | 3, _ => decide
  | 4, _ => decide
  | 5, _ => decide
  | 6, _ => decide
  | 7, _ => decide
set_option maxRecDepth 10000 in
set_option maxHeartbeats 2000000 in
theorem some_any (n : Nat) (w : World) (hn : n < 256) : Calls Tryz.prog 51 #[.int .u8 n] w (Gives (I (someF n)) w) := by
  have hm : Int.tmod (n : Int) 8 = ((n % 8 : Nat) : Int) := by rw [Int.tmod_eq_emod_of_nonneg (by omega)]; omega
  have h : n % 8 < 8 := Nat.mod_lt _ (by omega)
  have HS : Hid (someF n = someL.getD (n % 8) 0) := Lib.hid rfl
  obtain ⟨V, hV⟩ : ∃ v, someF n = v := ⟨_, rfl⟩
  rw [hV] at HS ⊢
  clear hV
  generalize n % 8 = k at hm h HS
  have hk : k = 0 ∨ k = 1 ∨ k = 2 ∨ k = 3 ∨ k = 4 ∨ k = 5 ∨ k = 6 ∨ k = 7 := by omega
  rcases hk with rfl | rfl | rfl | rfl | rfl | rfl | rfl | rfl
  all_goals
    push_cast at hm
    go_enter Tryz.func51, Tryz.ntmps51
    go_wp2_with fail
    go_ret
    exact ⟨by rw [HS.out]; rfl, below_var w _⟩
/-- The data from which kalendsref13.Made builds a zone. -/
structure RwZ where
  st : UInt8
  gaps : List UInt8
  offs : List UInt8
  bh : UInt8
  a0 : UInt8
  a1 : UInt8
  a2 : UInt8
  a3 : UInt8
  b0 : UInt8
  b1 : UInt8
  b2 : UInt8
  b3 : UInt8
  cal : UInt8
  rules : Bool
def atF (gaps : List UInt8) : Nat → Int
  | 0 => 0
  | k + 1 => atF gaps k + 2160 + 20 * ((gaps[k]?.getD 0).toNat : Int)
def mtrs (gaps offs : List UInt8) : Nat → List Tr
  | 0 => []
  | k + 1 => mtrs gaps offs k ++ [⟨atF gaps (k + 1), someF (offs[k]?.getD 0).toNat⟩]
def mcnt (x : RwZ) : Nat := Nat.min (Nat.min x.gaps.length x.offs.length) 3
def mcal (n : UInt8) : Cal := if n.toNat % 2 = 1 then ⟨5, [7, 8], 1, [⟨2, ((n.toNat / 2 % 2 : Nat) : Int), true⟩]⟩ else ⟨2, [7, 6], -1, []⟩
def myr (k : Int) (a b c d : UInt8) : Yr := ⟨1 + k, if d.toNat % 2 = 1 then 5 else 1, ((a.toNat % 3 : Nat) : Int), ((b.toNat * 5 : Nat) : Int), someF (c.toNat % 5)⟩
def zn0 (x : RwZ) : Zn := ⟨mcal x.cal, someF x.st.toNat, mtrs x.gaps x.offs (mcnt x), atF x.gaps (mcnt x) + 2160 + 20 * (x.bh.toNat : Int), []⟩
def zn1 (x : RwZ) : Zn := { zn0 x with yearly := [myr 0 x.a0 x.a1 x.a2 x.a3, myr 1 x.b0 x.b1 x.b2 x.b3] }
def madeZn (x : RwZ) : Zn := if x.rules = true ∧ rvF (zn1 x) = 0 then zn1 x else zn0 x
theorem mtrs_len (g o : List UInt8) (k : Nat) : (mtrs g o k).length = k := by
  induction k with
  | zero => rfl
  | succ k ih => simp [mtrs, ih]
theorem mtrs_get (g o : List UInt8) (k : Nat) : ∀ j, j < k → (mtrs g o k)[j]? = some ⟨atF g (j + 1), someF (o[j]?.getD 0).toNat⟩ := by
  induction k with
  | zero => intro j hj; omega
  | succ k ih =>
    intro j hj
    unfold mtrs
    rcases Nat.lt_succ_iff_lt_or_eq.1 hj with h | rfl
    · rw [List.getElem?_append_left (by rw [mtrs_len]; exact h)]
      exact ih j h
    · rw [List.getElem?_append_right (by rw [mtrs_len]; exact Nat.le_refl _), mtrs_len, Nat.sub_self]
      rfl
theorem byte_lt (b : UInt8) : b.toNat < 256 := UInt8.toNat_lt b
theorem atF_step (g : List UInt8) (k : Nat) : atF g k + 2160 ≤ atF g (k + 1) ∧ atF g (k + 1) ≤ atF g k + 7260 := by
  have h : (g[k]?.getD 0).toNat < 256 := byte_lt _
  rw [show atF g (k + 1) = atF g k + 2160 + 20 * ((g[k]?.getD 0).toNat : Int) from rfl]
  omega
theorem atF_bd (g : List UInt8) : ∀ k : Nat, 0 ≤ atF g k ∧ atF g k ≤ 7260 * (k : Int) := by
  intro k
  induction k with
  | zero => exact ⟨Int.le_refl _, by simp [atF]⟩
  | succ k ih => have := atF_step g k; omega
theorem atF_mono (g : List UInt8) (j k : Nat) (h : j ≤ k) : atF g j ≤ atF g k := by
  induction k with
  | zero => rw [Nat.le_zero.1 h]; exact Int.le_refl _
  | succ k ih =>
    rcases Nat.lt_or_eq_of_le h with h | rfl
    · have := atF_step g k; have := ih (by omega); omega
    · exact Int.le_refl _
theorem mcnt_le (x : RwZ) : mcnt x ≤ 3 ∧ mcnt x ≤ x.gaps.length ∧ mcnt x ≤ x.offs.length := by
  unfold mcnt
  have h1 := Nat.min_le_right (Nat.min x.gaps.length x.offs.length) 3
  have h2 := Nat.min_le_left (Nat.min x.gaps.length x.offs.length) 3
  have h3 := Nat.min_le_left x.gaps.length x.offs.length
  have h4 := Nat.min_le_right x.gaps.length x.offs.length
  exact ⟨h1, Nat.le_trans h2 h3, Nat.le_trans h2 h4⟩
theorem mcal_S (n : UInt8) : CalS (mcal n) := by
  unfold mcal
  split
  · refine ⟨by simp, rfl, by simp, by simp, by simp, by simp, ?_⟩
    intro r hr
    rw [List.mem_singleton.1 hr]
    have : n.toNat / 2 % 2 < 2 := Nat.mod_lt _ (by omega)
    exact ⟨rfl, by simp only; omega, by simp only; omega⟩
  · exact ⟨by simp, rfl, by simp, by simp, by simp, by simp, by simp⟩
theorem myr_S (k : Int) (hk : k = 0 ∨ k = 1) (a b c d : UInt8) : YrS (myr k a b c d) := by
  have h1 : a.toNat % 3 < 3 := Nat.mod_lt _ (by omega)
  have h2 := byte_lt b
  refine ⟨by simp only [myr]; omega, ?_, by simp only [myr]; omega, by simp only [myr]; omega, someF_bd _⟩
  simp only [myr]
  split <;> omega
theorem zn0_M (x : RwZ) : ZnM (zn0 x) := by
  have hc := mcnt_le x
  have hb := atF_bd x.gaps (mcnt x)
  have hy := byte_lt x.bh
  have hl : (zn0 x).trans.length = mcnt x := mtrs_len _ _ _
  refine ⟨mcal_S _, someF_bd _, ?_, by rw [hl]; exact hc.1, ?_, ?_, .inl rfl⟩
  · show 0 ≤ atF x.gaps (mcnt x) + 2160 + 20 * (x.bh.toNat : Int) ∧ atF x.gaps (mcnt x) + 2160 + 20 * (x.bh.toNat : Int) ≤ 1000000
    omega
  · intro t ht
    obtain ⟨j, hj⟩ := List.getElem?_of_mem ht
    have hjl : j < mcnt x := by rw [← hl]; exact (List.getElem?_eq_some_iff.1 hj).1
    have h := mtrs_get x.gaps x.offs (mcnt x) j hjl
    have h' : (zn0 x).trans[j]? = (mtrs x.gaps x.offs (mcnt x))[j]? := rfl
    rw [h', h] at hj
    injection hj with hj
    subst hj
    have h1 := atF_bd x.gaps (j + 1)
    have h2 := atF_mono x.gaps (j + 1) (mcnt x) hjl
    refine ⟨someF_bd _, h1.1, ?_⟩
    show atF x.gaps (j + 1) < atF x.gaps (mcnt x) + 2160 + 20 * (x.bh.toNat : Int)
    omega
  · intro i hi
    rw [hl] at hi
    have h1 := mtrs_get x.gaps x.offs (mcnt x) i (by omega)
    have h2 := mtrs_get x.gaps x.offs (mcnt x) (i + 1) hi
    have e : (zn0 x).trans = mtrs x.gaps x.offs (mcnt x) := rfl
    unfold atI
    rw [e, h1, h2]
    have := atF_step x.gaps (i + 1)
    show atF x.gaps (i + 1) + 2160 ≤ atF x.gaps (i + 1 + 1)
    omega
theorem zn1_M (x : RwZ) : ZnM (zn1 x) := by
  have h := zn0_M x
  exact ⟨h.cal, h.start, h.hor, h.trl, h.tr, h.gap, .inr ⟨_, _, rfl, myr_S 0 (.inl rfl) _ _ _ _, myr_S 1 (.inr rfl) _ _ _ _⟩⟩
theorem madeZn_M (x : RwZ) : ZnM (madeZn x) := by
  unfold madeZn
  split
  · exact zn1_M x
  · exact zn0_M x
theorem ZnM.len {z : Zn} (h : ZnM z) : ZnLen z := by
  have h1 := h.cal.mo
  have h2 := h.cal.ru
  have h3 := h.trl
  refine ⟨by omega, by omega, by omega, ?_⟩
  rcases h.yr with e | ⟨_, _, e, _, _⟩ <;> rw [e] <;> simp
def rwCells (x : RwZ) (G O : Option Addr) (gc oc : Nat) : Array Value := #[Extern.Stop.cell x.st, .slice G x.gaps.length gc, .slice O x.offs.length oc, Extern.Stop.cell x.bh, Extern.Stop.cell x.a0, Extern.Stop.cell x.a1, Extern.Stop.cell x.a2, Extern.Stop.cell x.a3, Extern.Stop.cell x.b0, Extern.Stop.cell x.b1, Extern.Stop.cell x.b2, Extern.Stop.cell x.b3, Extern.Stop.cell x.cal, .bool x.rules]
/-- Cells in a block from lo on that is older than B and is not g. -/
def LZ (lo B g : Nat) (w : World) (A : Option Addr) (cs : List Value) : Prop :=
  cs.length = 0 ∨ ∃ b off, A = some ⟨b, off, none⟩ ∧ lo ≤ b ∧ b < B ∧ b ≠ g ∧ ∀ j u, cs[j]? = some u → w.cell? ⟨b, off + j, none⟩ = some u
theorem LZ.of_blocks {lo B g : Nat} {w w' : World} {A : Option Addr} {cs : List Value} (h : LZ lo B g w A cs) (hb : ∀ k, lo ≤ k → k < B → k ≠ g → w'.heap[k]? = w.heap[k]?) : LZ lo B g w' A cs := by
  rcases h with h | ⟨b, off, h1, h0, h2, h4, h5⟩
  · exact .inl h
  · exact .inr ⟨b, off, h1, h0, h2, h4, fun j u hu => (World.cell?_of_block (a := ⟨b, off + j, none⟩) (hb b h0 h2 h4)).trans (h5 j u hu)⟩
theorem LZ.more {lo B B' g : Nat} {w : World} {A : Option Addr} {cs : List Value} (h : LZ lo B g w A cs) (hB : B ≤ B') : LZ lo B' g w A cs := by
  rcases h with h | ⟨b, off, h1, h0, h2, h4, h5⟩
  · exact .inl h
  · exact .inr ⟨b, off, h1, h0, by omega, h4, h5⟩
theorem LZ.at {lo B g : Nat} {w : World} {A : Option Addr} {cs : List Value} (h : LZ lo B g w A cs) (hB : B ≤ w.heap.size) : CellsAt w w.heap.size A cs := by
  rcases h with h | ⟨b, off, h1, h0, h2, h4, h5⟩
  · exact .inl h
  · exact .inr ⟨b, off, h1, by omega, h5⟩
theorem LZ.nil {lo B g : Nat} {w : World} {A : Option Addr} : LZ lo B g w A [] := .inl rfl
theorem LZ.of_own {lo g e size n c B base : Nat} {A : Option Addr} {w : World} {cs : List Value} (h : w.ownsRow base e size (.slice A n c) n cs) (h0 : lo ≤ base) (hg : g < base) (hB : w.heap.size ≤ B) : LZ lo B g w A cs := by
  rcases h.2 with ⟨hv, hn⟩ | ⟨b, cap, cur, hv, hb, hh, _⟩
  · refine .inl ?_
    rw [h.1, hn, Nat.zero_mul]
  · injection hv with h1 _ _
    subst h1
    have hl := (Array.getElem?_eq_some_iff.1 hh).1
    exact .inr ⟨b, 0, rfl, by omega, by omega, by omega, fun j u hu => by rw [Nat.zero_add, ← addr_add]; exact h.cells (g := b) rfl j u hu⟩
/-- kalendsref13.Made under way: the data, the result's variable, the zone's variable, and the lists that are made. -/
structure MZ (w : World) (xs : Array Value) (zb B : Nat) (zs : Array Value) (A R C : Option Addr) (mo ru tr : List Value) (W : World) : Prop where
  x : Row W w.heap.size xs
  res : W.heap[w.heap.size + 1]? = some (.cells zZn 41 (0, 0))
  z : W.heap[zb]? = some (.cells zs 41 (0, 0))
  lo : w.heap.size + 2 ≤ zb
  hi : zb < B
  sz : B ≤ W.heap.size
  up : Below w.heap.size w W
  mon : LZ (w.heap.size + 2) B zb W A mo
  rul : LZ (w.heap.size + 2) B zb W R ru
  trn : LZ (w.heap.size + 2) B zb W C tr
section
variable {w W W' : World} {xs zs : Array Value} {zb B : Nat} {A R C : Option Addr} {mo ru tr : List Value}
theorem MZ.step (h : MZ w xs zb B zs A R C mo ru tr W) (ho : W'.os = W.os) (ht : W'.tape = W.tape) (hu : W'.output = W.output) (hs : W.heap.size ≤ W'.heap.size) (hb : ∀ k, k < B → k ≠ zb → W'.heap[k]? = W.heap[k]?) {zs' : Array Value} (hz : W'.heap[zb]? = some (.cells zs' 41 (0, 0))) : MZ w xs zb B zs' A R C mo ru tr W' := by
  have h1 := h.lo
  have h2 := h.hi
  refine ⟨⟨Nat.lt_of_lt_of_le h.x.1 hs, fun i => (World.cell?_of_block (a := ⟨w.heap.size, i, none⟩) (hb _ (by show w.heap.size < B; omega) (by show w.heap.size ≠ zb; omega))).trans (h.x.2 i)⟩, (hb _ (by omega) (by omega)).trans h.res, hz, h.lo, h.hi, Nat.le_trans h.sz hs, ?_, h.mon.of_blocks fun k _ => hb k, h.rul.of_blocks fun k _ => hb k, h.trn.of_blocks fun k _ => hb k⟩
  exact ⟨ho.trans h.up.os, ht.trans h.up.tape, hu.trans h.up.output, Nat.le_trans h.up.size hs, fun k hk => (hb k (by omega) (by omega)).trans (h.up.block k hk)⟩
theorem MZ.grow (h : MZ w xs zb B zs A R C mo ru tr W) (hb : Below W.heap.size W W') : MZ w xs zb B zs A R C mo ru tr W' :=
  h.step hb.os hb.tape hb.output hb.size (fun k hk _ => hb.block k (Nat.lt_of_lt_of_le hk h.sz)) ((hb.block _ (Nat.lt_of_lt_of_le h.hi h.sz)).trans h.z)
theorem MZ.store (h : MZ w xs zb B zs A R C mo ru tr W) (o : Nat) (v : Value) : MZ w xs zb B (zs.setIfInBounds o v) A R C mo ru tr (W.setCell ⟨zb, o, none⟩ v) :=
  h.step (W' := W.setCell ⟨zb, o, none⟩ v) rfl rfl rfl (by simp [World.setCell]) (fun k _ hk => heap_setCell_other W ⟨zb, o, none⟩ k v hk) (heap_setCell_same W zb o _ _ _ h.z)
theorem MZ.grown (h : MZ w xs zb B zs A R C mo ru tr W) {row : Option Nat} (hg : W.grownBy W' row) (hr : ∀ g, row = some g → B ≤ g) : MZ w xs zb B zs A R C mo ru tr W' :=
  have hh := h.hi
  have hz := h.sz
  h.step hg.os hg.tape hg.output hg.size (fun k hk _ => hg.block k (by omega) (fun e => by have := hr k e.symm; omega)) ((hg.block _ (by omega) (fun e => by have := hr zb e.symm; omega)).trans h.z)
theorem MZ.drew (h : MZ w xs zb B zs A R C mo ru tr W) : MZ w xs zb B zs A R C mo ru tr W.drew := h.grow (Below.refl _ W).drew
theorem MZ.cell (h : MZ w xs zb B zs A R C mo ru tr W) (i : Nat) : W.cell? ⟨zb, i, none⟩ = zs[i]? := cell_of_row _ _ i _ _ _ h.z
theorem MZ.froz (h : MZ w xs zb B zs A R C mo ru tr W) (i : Nat) : W.frozen? ⟨zb, i, none⟩ = false := frozen_of_row _ _ i _ _ h.z
theorem MZ.done (h : MZ w xs zb B zs A R C mo ru tr W) (vs : Array Value) : CellsAt (W.setRow (w.heap.size + 1) vs) (W.setRow (w.heap.size + 1) vs).heap.size A mo ∧ CellsAt (W.setRow (w.heap.size + 1) vs) (W.setRow (w.heap.size + 1) vs).heap.size R ru ∧ CellsAt (W.setRow (w.heap.size + 1) vs) (W.setRow (w.heap.size + 1) vs).heap.size C tr ∧ Below w.heap.size w (W.setRow (w.heap.size + 1) vs) := by
  have e : ∀ k, w.heap.size + 2 ≤ k → k < B → k ≠ zb → (W.setRow (w.heap.size + 1) vs).heap[k]? = W.heap[k]? := fun k hk _ _ => setRow_other _ _ k _ (by omega)
  have hs : B ≤ (W.setRow (w.heap.size + 1) vs).heap.size := by simpa [World.setRow] using h.sz
  exact ⟨(h.mon.of_blocks e).at hs, (h.rul.of_blocks e).at hs, (h.trn.of_blocks e).at hs, below_setRow h.up (by omega) _⟩
theorem MZ.zlt (h : MZ w xs zb B zs A R C mo ru tr W) : zb < W.heap.size := Nat.lt_of_lt_of_le h.hi h.sz
end
end Go.Proofs.YtbdkalpljhpnmaaGreat
