/- math/bits.RotateLeft32 at the numbers that package digest calls it with. -/
import Derived.Test.YtenbgpcdoljkgaaGreatDoorUses
import Derived.Deep.MidRow
import Derived.Laws.ResultCell
namespace Go.Proofs.YtenbgpcdoljkgaaGreatDoor
open Go Go.RowKit

/-- x rotated to the left by s bits. -/
def rotv (x s : Int) : Int := bits BinOp.or IntKind.u32 (x * 2 ^ s.toNat % 4294967296) (x / 2 ^ (32 - s).toNat)
set_option maxRecDepth 10000 in
set_option maxHeartbeats 1000000 in
theorem rot_any (x k s : Int) (w : World) (hk : bits BinOp.and IntKind.u64 (IntKind.u64.wrap k) 31 = s) (h0 : 0 ≤ s) (h1 : s ≤ 31) :
    Calls Tryz.prog 105 #[.int .u32 x, I k] w fun e w' => e = .returned (.int .u32 (rotv x s)) ∧ w' = w := by
  have hd : IntKind.u64.wrap (32 - s) = 32 - s := by rw [IntKind.wrap_u64]; omega
  go_enter Tryz.func105, Tryz.ntmps105
  go_wp2_with fail
  go_ret
  exact ⟨rfl, rfl⟩
/-- The amounts of package digest. -/
def amt (k : Int) : Int := bits BinOp.and IntKind.u64 (IntKind.u64.wrap k) 31
theorem rot_at (x k : Int) (w : World) (h : (decide (0 ≤ amt k) && decide (amt k ≤ 31)) = true) :
    Calls Tryz.prog 105 #[.int .u32 x, I k] w fun e w' => e = .returned (.int .u32 (rotv x (amt k))) ∧ w' = w := by
  rw [Bool.and_eq_true, decide_eq_true_eq, decide_eq_true_eq] at h
  exact rot_any x k (amt k) w rfl h.1 h.2
/-- Numbers of 32 bits, as they lie. -/
def cellsU (zs : List Int) : Array Value := (zs.map fun z => Value.int .u32 z).toArray
theorem cellsU_size (zs : List Int) : (cellsU zs).size = zs.length := by simp [cellsU]
theorem cellsU_get (zs : List Int) (i : Nat) (h : i < zs.length) : (cellsU zs)[i]? = some (.int .u32 (zs[i]?.getD 0)) := by
  simp [cellsU, h]
theorem cellsU_set (zs : List Int) (i : Nat) (z : Int) : (cellsU zs).setIfInBounds i (.int .u32 z) = cellsU (zs.set i z) := by
  simp [cellsU, List.map_set]
theorem cellsU_one (zs : List Int) : (cellsU zs).all (·.oneCell') = true := by
  rw [Array.all_eq_true_iff_forall_mem]
  intro v hv
  simp [cellsU] at hv
  obtain ⟨z, _, rfl⟩ := hv
  rfl
section
variable {P : Program} {ops : Array Oper} {Q : Exit → Act → World → Prop} {a : Act} {w : World} {rest : List Oper} {o : Oper}
/-- 'var x T' of an array or a struct whose zero's cells have a name. -/
theorem wpList_alloc_nm (hg : o.guard = none) (t : TypeId) (ho : o.op = .alloc t) (cells : Array Value) (hz : (P.info? t).map (fun i => (i.zero, i.size)) = some (some (.agg cells), cells.size))
    (h : wpList P ops Q rest (a.put o.dst (.pointer (some ⟨w.heap.size, 0, none⟩))) (w.alloc (.cells cells t))) : wpList P ops Q (o :: rest) a w := by
  refine wpList_plain hg fun K hK => ?_
  unfold Oper.wp execOp
  simp only [ho, Sem.run_bind, run_alloc_var w t (.agg cells) _ hz, Result.andThen_ok]
  exact hK _ _ h
end
/-- The cells of a block, all of them. -/
def RowU (w : World) (b : Nat) (cs : Array Value) : Prop := b < w.heap.size ∧ ∀ i, w.cell? ⟨b, i, none⟩ = cs[i]?
section
variable {P : Program} {ops : Array Oper} {Q : Exit → Act → World → Prop} {a : Act} {w : World} {rest : List Oper} {o : Oper}
theorem wpList_load_nm (hw : Region.wanted o (yielded ops a.tmps) = true) (ty : TypeId) (x : Operand) (ho : o.op = .load ty x) (g : Nat) (hx : a.eval x = .pointer (some ⟨g, 0, none⟩)) (cs : Array Value) (hr : RowU w g cs)
    (d : TypeDesc) (hu : P.underlying ty = some d) (hd : d.isRow = true) (hi : (P.info? ty).map (·.size) = some cs.size)
    (h : wpList P ops Q rest (a.put o.dst (.agg cs)) w) : wpList P ops Q (o :: rest) a w := by
  unfold wpList
  rw [if_pos hw]
  have hc : w.rangeAt g 0 cs.toList := fun j v hv => by rw [Nat.zero_add, hr.2 j]; simpa using hv
  refine .inl (wp_load_mid ty x ho g 0 hx cs.toList d hc hu hd (by rw [hi]; simp) ?_)
  simpa using h
end
theorem below_setRow' {B g : Nat} {w0 w : World} (hb : Below B w0 w) (hBg : B ≤ g) (cs : Array Value) : Below B w0 (w.setRow g cs) :=
  hb.trans ⟨rfl, rfl, rfl, by simp [World.setRow], fun k hk => setRow_other w g k cs (by omega)⟩
/-- An array's variable, whole. -/
structure AV (b : Nat) (t : TypeId) (cs : Array Value) (W : World) : Prop where
  var : W.heap[b]? = some (.cells cs t (0, 0))
section
variable {b g : Nat} {t : TypeId} {cs : Array Value} {W W' : World}
theorem AV.lt (h : AV b t cs W) : b < W.heap.size := (Array.getElem?_eq_some_iff.1 h.var).1
theorem AV.cell (h : AV b t cs W) : ∀ i, W.cell? ⟨b, i, none⟩ = cs[i]? := fun i => cell_of_row W _ i _ _ _ h.var
theorem AV.froz (h : AV b t cs W) : ∀ i, W.frozen? ⟨b, i, none⟩ = false := fun i => frozen_of_row W _ i _ _ h.var
theorem AV.below (h : AV b t cs W) (hb : Below W.heap.size W W') : AV b t cs W' := ⟨(hb.block _ h.lt).trans h.var⟩
theorem AV.put (h : AV b t cs W) (o : Nat) (v : Value) : AV b t (cs.setIfInBounds o v) (W.setCell ⟨b, o, none⟩ v) := ⟨heap_setCell_same W _ o _ _ _ h.var⟩
theorem AV.far (h : AV b t cs W) (hn : b ≠ g) (o : Nat) (v : Value) : AV b t cs (W.setCell ⟨g, o, none⟩ v) := ⟨(heap_setCell_other W _ b v hn).trans h.var⟩
theorem AV.drew (h : AV b t cs W) : AV b t cs W.drew := ⟨h.var⟩
theorem AV.new (W : World) (cs : Array Value) (t : TypeId) : AV W.heap.size t cs (W.alloc (.cells cs t)) := ⟨heap_alloc_last W _⟩
end
theorem zero64_info : (Tryz.prog.info? 176).map (fun i => (i.zero, i.size)) = some (some (.agg (cellsU (List.replicate 64 0))), (cellsU (List.replicate 64 0)).size) := by kernel_rfl
end Go.Proofs.YtenbgpcdoljkgaaGreatDoor
