/- Plain helpers: bytes and numbers in memory, a row, a written number. -/
import Derived.Test.YtbdkalpljhpnmaaGreatProg
import Derived.Test.YtbdkalpljhpnmaaGreatAid
import Derived.Test.YtbdkalpljhpnmaaGreatData
import Derived.BigQuiet
import Derived.Deep.QuietTactic
import Derived.Deep.WholeRow
import Derived.Laws.Rows
import Derived.Laws.Tables
import Derived.Lib.Hide
import Derived.Outline
import Derived.StillTailTactics
import Derived.Stop.BytesEq
import Derived.WalkKit
import Derived.WalkLawsBesides
import Derived.WalkSpells
import Derived.Deep.AppendLies
import Derived.Deep.CutBlock
import Derived.Deep.DeepCutAuto
import Derived.Deep.DrawnRows
import Derived.Deep.MidRow
import Derived.Deep.RegionHeld3
import Derived.Deep.RegionLaw
import Derived.Great.BuildSlice
import Derived.Laws.BytesString
import Derived.Laws.CopyOwn
import Derived.Laws.EntriesVeiled
import Derived.Laws.MakeOwn
import Derived.Laws.ResultCell
import Derived.LoopIn
import Derived.LoopNIn
import Derived.Maps.AppendAt
import Derived.OwnWalkIn
import Derived.RangeFuncBound
import Derived.RangeFuncBox
import Derived.RangeFuncCalls
import Derived.RangeFuncLeaves
import Derived.RangeFuncNested
import Derived.Shelf.Abstract
import Derived.Shelf.Bytes.SlSmallAll
import Derived.Shelf.RegionOpen
import Derived.TacticsInMore
import Derived.Defers
import Derived.Laws.BitsAllLaws
import Derived.Laws.BytesArg
import Derived.Laws.Cover3
import Derived.Lib.AppendStr
import Derived.Lib.ByteType
import Derived.MapKept
import Derived.Recover
namespace Go.Proofs.YtbdkalpljhpnmaaGreat
open Go Go.RowKit

/-- A slice of ints with this address reads as zs, below block B. -/
def IntsAt (w : World) (B : Nat) (A : Option Addr) (zs : List Int) : Prop :=
  zs.length = 0 ∨ ∃ b off, A = some ⟨b, off, none⟩ ∧ b < B ∧ ∀ j, j < zs.length → w.cell? ⟨b, off + j, none⟩ = some (I (zs[j]?.getD 0))
theorem IntsAt.keep {w w' : World} {B : Nat} {A : Option Addr} {zs : List Int} (h : IntsAt w B A zs) (hb : Below B w w') : IntsAt w' B A zs := by
  rcases h with h | ⟨b, off, hA, hbB, hc⟩
  · exact .inl h
  · exact .inr ⟨b, off, hA, hbB, fun j hj => (hb.cell (p := ⟨b, off + j, none⟩) hbB).trans (hc j hj)⟩
theorem IntsAt.more {w : World} {B B' : Nat} {A : Option Addr} {zs : List Int} (h : IntsAt w B A zs) (hB : B ≤ B') : IntsAt w B' A zs := by
  rcases h with h | ⟨b, off, hA, hbB, hc⟩
  · exact .inl h
  · exact .inr ⟨b, off, hA, by omega, hc⟩
theorem neq_dec (a b : Int) : (a != b) = decide (a ≠ b) := by
  rw [Bool.eq_iff_iff]; simp
theorem beq_dec (a b : Int) : (a == b) = decide (a = b) := by
  rw [Bool.eq_iff_iff]; simp
/-- A slice of bytes with this address reads as bs, below block B. -/
def BytesAt (w : World) (B : Nat) (A : Option Addr) (bs : List UInt8) : Prop :=
  bs.length = 0 ∨ ∃ b off, A = some ⟨b, off, none⟩ ∧ b < B ∧ ∀ j, j < bs.length → w.cell? ⟨b, off + j, none⟩ = some (Extern.Stop.cell (bs[j]?.getD 0))
theorem BytesAt.keep {w w' : World} {B : Nat} {A : Option Addr} {bs : List UInt8} (h : BytesAt w B A bs) (hb : Below B w w') : BytesAt w' B A bs := by
  rcases h with h | ⟨b, off, hA, hbB, hc⟩
  · exact .inl h
  · exact .inr ⟨b, off, hA, hbB, fun j hj => (hb.cell (p := ⟨b, off + j, none⟩) hbB).trans (hc j hj)⟩
theorem BytesAt.more {w : World} {B B' : Nat} {A : Option Addr} {bs : List UInt8} (h : BytesAt w B A bs) (hB : B ≤ B') : BytesAt w B' A bs := by
  rcases h with h | ⟨b, off, hA, hbB, hc⟩
  · exact .inl h
  · exact .inr ⟨b, off, hA, by omega, hc⟩
theorem beq_take (xs ys : List UInt8) (hl : xs.length = ys.length) : (∀ j, j < xs.length → xs[j]?.getD 0 = ys[j]?.getD 0) ↔ xs = ys := by
  constructor
  · intro h
    apply List.ext_getElem hl
    intro i h1 h2
    have := h i h1
    simpa [h1, h2] using this
  · rintro rfl _ _; rfl
def SameRel (n : Nat) (xs ys : List UInt8) (i : Value) : Prop := ∃ k : Nat, k ≤ n ∧ i = .int .i64 k ∧ ∀ j, j < k → xs[j]?.getD 0 = ys[j]?.getD 0
theorem cell_int (x : UInt8) : Extern.Stop.cell x = .int .u8 (x.toNat : Int) := rfl
theorem cells_ne {x y : UInt8} (h : x ≠ y) : ((x.toNat : Int) != (y.toNat : Int)) = true := by
  rw [neq_dec]; exact decide_eq_true (fun e => h (UInt8.toNat_inj.1 (by omega)))
theorem cells_same (x : UInt8) : ((x.toNat : Int) != (x.toNat : Int)) = false := by
  rw [neq_dec]; exact decide_eq_false (by omega)
theorem below_drewN' (w : World) (k : Nat) : Below w.heap.size w (w.drewN k) := below_drewN (Below.refl _ _) k
/-- The cells of a block, all of them. -/
def Row (w : World) (b : Nat) (cs : Array Value) : Prop := b < w.heap.size ∧ ∀ i, w.cell? ⟨b, i, none⟩ = cs[i]?
theorem Row.keep {w w' : World} {b : Nat} {cs : Array Value} (h : Row w b cs) (hb : Below w.heap.size w w') : Row w' b cs :=
  ⟨Nat.lt_of_lt_of_le h.1 hb.size, fun i => (hb.cell (p := ⟨b, i, none⟩) h.1).trans (h.2 i)⟩
theorem Row.new (w : World) (cs : Array Value) (t : TypeId) : Row (w.alloc (.cells cs t)) w.heap.size cs :=
  ⟨by simp, fun i => by rw [World.cell?_alloc_at _ _ _ _ rfl]⟩
theorem below_trans {w w1 w2 : World} (h : Below w.heap.size w w1) (h2 : Below w1.heap.size w1 w2) : Below w.heap.size w w2 := h.trans (h2.mono h.size)
def byteOf (n : Int) : UInt8 := UInt8.ofNat (n % 256).toNat
theorem byteOf_cell (n : Int) : Extern.Stop.cell (byteOf n) = .int .u8 (n % 256) := by
  have h0 : 0 ≤ n % 256 := Int.emod_nonneg _ (by omega)
  have h1 : n % 256 < 256 := Int.emod_lt_of_pos _ (by omega)
  have h2 : (n % 256).toNat < 256 := by omega
  have h3 : (UInt8.ofNat (n % 256).toNat).toNat = (n % 256).toNat := by rw [UInt8.toNat_ofNat']; exact Nat.mod_eq_of_lt h2
  show Value.int .u8 (((UInt8.ofNat (n % 256).toNat).toNat : Nat) : Int) = _
  rw [h3, Int.toNat_of_nonneg h0]
def le : Int → Nat → List UInt8
  | _, 0 => []
  | n, s + 1 => byteOf n :: le (n / 256) s
def shiftBy : Int → Nat → Int
  | n, 0 => n
  | n, k + 1 => shiftBy n k / 256
theorem shiftBy_div (n : Int) (k : Nat) : shiftBy (n / 256) k = shiftBy n (k + 1) := by
  induction k with
  | zero => rfl
  | succ k ih => show shiftBy (n / 256) k / 256 = _; rw [ih]; rfl
theorem le_snoc (n : Int) (k : Nat) : le n (k + 1) = le n k ++ [byteOf (shiftBy n k)] := by
  induction k generalizing n with
  | zero => rfl
  | succ k ih => rw [le, ih, shiftBy_div]; rfl
theorem le_length (n : Int) (k : Nat) : (le n k).length = k := by
  induction k generalizing n with
  | zero => rfl
  | succ k ih => simp [le, ih]
theorem shiftBy_bd (n : Int) (k : Nat) (h0 : -9223372036854775808 ≤ n) (h1 : n ≤ 9223372036854775807) : -9223372036854775808 ≤ shiftBy n k ∧ shiftBy n k ≤ 9223372036854775807 := by
  induction k with
  | zero => exact ⟨h0, h1⟩
  | succ k ih => unfold shiftBy; omega
/-- Only the writer, the row of its bytes and new blocks have changed. -/
structure WKeep (g : Nat) (v : Value) (w : World) (v' : Value) (w' : World) : Prop where
  os : w'.os = w.os
  tape : w'.tape = w.tape
  output : w'.output = w.output
  size : w.heap.size ≤ w'.heap.size
  block : ∀ k, k < w.heap.size → k ≠ g → some k ≠ v.ownBlock → w'.heap[k]? = w.heap[k]?
  own : v'.ownBlock = v.ownBlock ∨ ∃ b, v'.ownBlock = some b ∧ w.heap.size ≤ b
theorem WKeep.refl (g : Nat) (v : Value) (w : World) : WKeep g v w v w := ⟨rfl, rfl, rfl, Nat.le_refl _, fun _ _ _ _ => rfl, .inl rfl⟩
theorem WKeep.trans {g : Nat} {v v1 v2 : Value} {w w1 w2 : World} (h : WKeep g v w v1 w1) (k : WKeep g v1 w1 v2 w2) : WKeep g v w v2 w2 := by
  refine ⟨k.os.trans h.os, k.tape.trans h.tape, k.output.trans h.output, Nat.le_trans h.size k.size, fun b hb hg hv => ?_, ?_⟩
  · refine (k.block b (Nat.lt_of_lt_of_le hb h.size) hg ?_).trans (h.block b hb hg hv)
    rcases h.own with e | ⟨b1, e, hb1⟩
    · rw [e]; exact hv
    · rw [e]; intro h'; injection h' with h'; omega
  · rcases k.own with e | ⟨b, e, hb⟩
    · rcases h.own with e1 | ⟨b1, e1, hb1⟩
      · exact .inl (e.trans e1)
      · exact .inr ⟨b1, e.trans e1, hb1⟩
    · exact .inr ⟨b, e, Nat.le_trans h.size hb⟩
theorem ownsRow_far {w : World} {base e size n : Nat} {v u : Value} {xs : List Value} {p : Addr} (h : w.ownsRow base e size v n xs) (hp : some p.block ≠ v.ownBlock) : (w.setCell p u).ownsRow base e size v n xs := by
  refine ⟨h.1, ?_⟩
  rcases h.2 with h | ⟨g, cap, cur, rfl, hg, hh, h1, h2, h3, h4⟩
  · exact .inl h
  · refine .inr ⟨g, cap, cur, rfl, hg, ?_, h1, h2, h3, h4⟩
    rw [heap_setCell_other w p g u (fun e => hp (by rw [← e]; rfl))]
    exact hh
theorem own_ge {w : World} {base e size n : Nat} {v : Value} {xs : List Value} (h : w.ownsRow base e size v n xs) (b : Nat) (hb : b < base) : some b ≠ v.ownBlock := by
  rcases h.2 with ⟨rfl, _⟩ | ⟨g, cap, cur, rfl, hg, _⟩
  · simp [Value.ownBlock]
  · intro e; have : b = g := by simpa [Value.ownBlock] using e
    omega
theorem own_form {w : World} {base e size n : Nat} {v : Value} {xs : List Value} (h : w.ownsRow base e size v n xs) (hn : 0 < n) : ∃ g cap, v = .slice (some ⟨g, 0, none⟩) n cap ∧ g < w.heap.size := by
  rcases h.2 with ⟨_, h0⟩ | ⟨g, cap, cur, rfl, _, hh, _⟩
  · omega
  · exact ⟨g, cap, rfl, (Array.getElem?_eq_some_iff.1 hh).1⟩
theorem own_lt {w : World} {base e size n : Nat} {v : Value} {xs : List Value} (h : w.ownsRow base e size v n xs) : ∀ b, v.ownBlock = some b → b < w.heap.size := by
  intro b hb
  rcases h.2 with ⟨rfl, _⟩ | ⟨g, cap, cur, rfl, _, hh, _⟩
  · simp [Value.ownBlock] at hb
  · have : g = b := by simpa [Value.ownBlock] using hb
    subst this; exact (Array.getElem?_eq_some_iff.1 hh).1
theorem info_u8 : (Tryz.prog.info? 5).map (fun i => (i.zero, i.size, i.bytes)) = some (some (.int .u8 0), 1, 1) := by kernel_rfl
abbrev pt (b : Nat) : Value := .pointer (some ⟨b, 0, none⟩)
def fits (n : Int) : Prop := -9223372036854775808 ≤ n ∧ n ≤ 9223372036854775807
def zero32 : List UInt8 := List.replicate 32 0
theorem zero32_cells : (refCells zero32).toArray = #[Value.int .u8 0, Value.int .u8 0, Value.int .u8 0, Value.int .u8 0, Value.int .u8 0, Value.int .u8 0, Value.int .u8 0, Value.int .u8 0, Value.int .u8 0, Value.int .u8 0, Value.int .u8 0, Value.int .u8 0, Value.int .u8 0, Value.int .u8 0, Value.int .u8 0, Value.int .u8 0, Value.int .u8 0, Value.int .u8 0, Value.int .u8 0, Value.int .u8 0, Value.int .u8 0, Value.int .u8 0, Value.int .u8 0, Value.int .u8 0, Value.int .u8 0, Value.int .u8 0, Value.int .u8 0, Value.int .u8 0, Value.int .u8 0, Value.int .u8 0, Value.int .u8 0, Value.int .u8 0] := rfl
theorem size_u8 (w : World) : (sizeOf 5).run Tryz.prog w = .ok 1 w := by kernel_rfl
theorem below_setCells {B : Nat} {w W : World} (h : Below B w W) (b : Nat) (hb : B ≤ b) : ∀ (vs : List Value) (o : Nat), Below B w (W.setCells b o vs) := by
  intro vs
  induction vs generalizing W with
  | nil => intro o; exact h
  | cons v vs ih => intro o; exact ih (h.setCell (p := ⟨b, o, none⟩) hb v) (o + 1)
theorem cell_setCells {W : World} (b : Nat) (p : Addr) (hp : p.block ≠ b) : ∀ (vs : List Value) (o : Nat), (W.setCells b o vs).cell? p = W.cell? p := by
  intro vs
  induction vs generalizing W with
  | nil => intro o; rfl
  | cons v vs ih => intro o; exact (ih (o + 1)).trans (World.cell?_setCell_other _ _ _ _ (fun e => hp (by rw [← e])))
theorem size_setCells {W : World} (b : Nat) : ∀ (vs : List Value) (o : Nat), (W.setCells b o vs).heap.size = W.heap.size := by
  intro vs
  induction vs generalizing W with
  | nil => intro o; rfl
  | cons v vs ih => intro o; exact (ih (o + 1)).trans (by simp [World.setCell])
theorem range_keep {w w' : World} {g : Nat} {zs : List Value} (h : w.rangeAt g 0 zs) (hg : g < w.heap.size) (hb : Below w.heap.size w w') : w'.rangeAt g 0 zs := fun j v hv => (hb.cell (p := ⟨g, 0 + j, none⟩) hg).trans (h j v hv)
theorem ref_one2 (r : List UInt8) : ∀ v ∈ refCells r, v.oneCell' = true := by
  intro v hv; simp only [refCells, List.mem_map] at hv; obtain ⟨x, _, rfl⟩ := hv; rfl
theorem below_var (w : World) (o : Obj) : Below w.heap.size w (w.alloc o) := (Below.refl _ _).alloc (Nat.le_refl _) _
section
variable {P : Program} {ops : Array Oper} {Q : Exit → Act → World → Prop} {a : Act} {w : World} {rest : List Oper} {o : Oper}
/-- A whole struct loaded out of its variable, under a guard that is met. -/
theorem wpList_load_Row (hw : Region.wanted o (yielded ops a.tmps) = true) (ty : TypeId) (x : Operand) (ho : o.op = .load ty x) (g : Nat) (hx : a.eval x = .pointer (some ⟨g, 0, none⟩)) (cs : Array Value) (hr : Row w g cs)
    (d : TypeDesc) (hu : P.underlying ty = some d) (hd : d.isRow = true) (hi : (P.info? ty).map (·.size) = some cs.size)
    (h : wpList P ops Q rest (a.put o.dst (.agg cs)) w) : wpList P ops Q (o :: rest) a w := by
  unfold wpList
  rw [if_pos hw]
  have hc : w.rangeAt g 0 cs.toList := fun j v hv => by rw [Nat.zero_add, hr.2 j]; simpa using hv
  refine .inl (wp_load_mid ty x ho g 0 hx cs.toList d hc hu hd (by rw [hi]; simp) ?_)
  simpa using h
end
def cellBytes (zs : List Int) : List UInt8 := zs.flatMap fun z => le z 1
theorem cellBytes_snoc (zs : List Int) (z : Int) : cellBytes (zs ++ [z]) = cellBytes zs ++ le z 1 := by simp [cellBytes]
theorem cellBytes_length (zs : List Int) : (cellBytes zs).length = zs.length := by
  induction zs with
  | nil => rfl
  | cons z zs ih => simp only [cellBytes, List.flatMap_cons, List.length_append, le_length] at ih ⊢; rw [ih]; simp; omega
section
variable {P : Program} {ops : Array Oper} {Q : Exit → Act → World → Prop} {a : Act} {w : World} {rest : List Oper} {d : Option Tmp} {t : TypeId} {pos : String} {af : Array Edge} {g : Option (Nat × Bool)}
theorem g_alloc (ty : TypeId) (h : wpList P ops Q (⟨d, .alloc ty, t, pos, af, g⟩ :: rest) a w) : wpList P ops Q (⟨d, .alloc ty, t, pos, af, g⟩ :: rest) a w := h
end
theorem yieldsIf_load_Row {P : Program} {ops : Array Oper} {S : World → Prop} {op : Oper} {a : Act} (hw : Region.wanted op (yielded ops a.tmps) = true) (ty : TypeId) (x : Operand) (ho : op.op = .load ty x)
    (b : Nat) (hx : a.eval x = .pointer (some ⟨b, 0, none⟩)) (cs : Array Value) (d : TypeDesc) (hS : ∀ w, S w → Row w b cs)
    (hu : P.underlying ty = some d) (hd : d.isRow = true) (hi : (P.info? ty).map (·.size) = some cs.size) : YieldsIf P ops S op (.agg cs) a := by
  have := yieldsIf_load_mid (P := P) (S := S) hw ty x ho b 0 hx cs.toList d (fun w h => fun j v hv => by rw [Nat.zero_add, (hS w h).2 j]; simpa using hv) hu hd (by rw [hi]; simp)
  simpa using this
theorem lt_of_blk {w : World} {b : Nat} {o : Obj} (h : w.heap[b]? = some o) : b < w.heap.size := (Array.getElem?_eq_some_iff.1 h).1
theorem Row.of_blk {w : World} {b : Nat} {cs : Array Value} {t : TypeId} {fr : Nat × Nat} (h : w.heap[b]? = some (.cells cs t fr)) : Row w b cs :=
  ⟨lt_of_blk h, fun i => cell_of_row w b i cs t fr h⟩
section
variable {P : Program} {ops : Array Oper} {Q : Exit → Act → World → Prop} {a : Act} {w : World} {rest : List Oper} {o : Oper}
/-- 'var x T' of a struct whose zero's cells have a name. -/
theorem wpList_alloc_as (hg : o.guard = none) (t : TypeId) (ho : o.op = .alloc t) (cells : Array Value) (hz : (P.info? t).map (fun i => (i.zero, i.size)) = some (some (.agg cells), cells.size))
    (h : wpList P ops Q rest (a.put o.dst (.pointer (some ⟨w.heap.size, 0, none⟩))) (w.alloc (.cells cells t))) : wpList P ops Q (o :: rest) a w := by
  refine wpList_plain hg fun K hK => ?_
  unfold Oper.wp execOp
  simp only [ho, Sem.run_bind, run_alloc_var w t (.agg cells) _ hz, Result.andThen_ok]
  exact hK _ _ h
end
/-- copy into a row, as one step of a region that draws its order. -/
theorem step_copy_row {P : Program} {ops : Array Oper} {o : Oper} {a : Act} {w : World} {K : Act → World → Prop} {Q : Exit → Act → World → Prop} {E : Prop} (hgd : o.guard = none) (d s : Operand) (dT sT : TypeId)
    (ho : o.op = .call { callee := .builtin .copy, args := #[d, s], argTypes := #[dT, sT] }) (elem : TypeId) (hu : P.underlying dT = some (.slice elem)) (hsz : (P.info? elem).map (·.size) = some 1)
    (g off dLen dCap : Nat) (ad : Addr) (sLen sCap : Nat) (hd : a.eval d = .slice (some ⟨g, off, none⟩) dLen dCap) (hs : a.eval s = .slice (some ad) sLen sCap)
    (cur : Array Value) (t : TypeId) (hg : w.heap[g]? = some (.cells cur t (0, 0))) (cs : List Value) (hn : cs.length = Nat.min sLen dLen)
    (hsrc : ∀ j v, cs[j]? = some v → w.cell? (ad.add j) = some v) (hfit : off + cs.length ≤ cur.size) (h1 : ∀ v ∈ cs, v.oneCell' = true)
    (new : Array Value) (hnew : new = (splice cur.toList off cs).toArray) (h : K (a.put o.dst (goInt cs.length)) (w.setRow g new)) :
    if Region.wanted o (yielded ops a.tmps) = true then Oper.wp P o a w K Q else E := by
  have hw : Region.wanted o (yielded ops a.tmps) = true := by simp [Region.wanted, hgd]
  rw [if_pos hw]
  have hrun := run_copy_row (P := P) w dT sT o.type elem g off dLen dCap ad sLen sCap cur t cs hu hsz hg hn hsrc hfit h1
  have e : (cur.toList.take off ++ cs ++ cur.toList.drop (off + cs.length)).toArray = new := by rw [hnew]; simp [splice]
  rw [e] at hrun
  unfold Oper.wp
  simp [execOp, ho, resolve, invoke, builtin, hd, hs, hrun, Result.andThen]
  exact h
theorem ref_ones (xs : List UInt8) : ∀ v ∈ refCells xs, v.oneCell' = true := ref_one2 xs
theorem results_row_tmp {P : Program} {fn : Func} {p u : Tmp} {ty : TypeId} (h : fn.results = #[.cell p ty, .tmp u]) (tmps : Array Value) (w : World) (g : Nat) (t : TypeId) (cs : Array Value) (fr : Nat × Nat) (d : TypeDesc)
    (hp : tmps.getD p undef = .pointer (some ⟨g, 0, none⟩)) (hg : w.heap[g]? = some (.cells cs t fr))
    (hu : P.underlying ty = some d) (hd : (match d with | .struct _ | .array _ _ => true | _ => false) = true) (hi : (P.info? ty).map (·.size) = some cs.size) (v : Value) (hv : tmps.getD u undef = v) :
    (results fn tmps).run P w = .ok (.tuple #[.agg cs, v]) w := by
  rw [results_cell_tmp h, hp, hv]
  simp [asAddr, Result.andThen, run_loadVar_row w g t ty cs fr d hg hu hd hi]
theorem bytesAt_own {w : World} {B : Nat} {v : Value} {bs : List UInt8} (h : w.ownsRow B 5 1 v bs.length (bs.map Extern.Stop.cell)) :
    ∃ A c, v = .slice A bs.length c ∧ bs.length ≤ c ∧ c ≤ maxLen ∧ (A = none → c = 0) ∧ BytesAt w w.heap.size A bs := by
  obtain ⟨h0, ⟨rfl, h⟩ | ⟨g, cap, cur, rfl, hg, hb, h1, h2, h3, h4⟩⟩ := h
  · exact ⟨none, 0, by rw [h], by omega, Nat.zero_le _, fun _ => rfl, .inl h⟩
  · refine ⟨some ⟨g, 0, none⟩, cap, rfl, h1, h2, (fun e => nomatch e), .inr ⟨g, 0, rfl, lt_of_blk hb, fun j hj => ?_⟩⟩
    have h5 : (cur.toList.take (bs.length * 1))[j]? = (bs.map Extern.Stop.cell)[j]? := by rw [h4]
    rw [Nat.mul_one, List.getElem?_take_of_lt hj, List.getElem?_map] at h5
    rw [Nat.zero_add, cell_of_row w g j _ _ _ hb]
    simp only [Array.getElem?_toList] at h5
    rw [h5]
    simp [hj]
end Go.Proofs.YtbdkalpljhpnmaaGreat
