/- The texts Made, NdEq, RlEq, MvEq, UnP, SvA, SvB, in this order. -/
import Derived.Test.YtenbgpcdoljkgaaGreatDoorG03
import Derived.Deep.DeepCutAuto
import Derived.Deep.CutBlock
import Derived.Deep.RegionLaw
/- kalendsref20.Made: the letters that are made. -/
namespace Go.Proofs.YtenbgpcdoljkgaaGreatDoor
open Go Go.RowKit

def bareF (f : Int) : Bool := (f == 4) || (f == 5) || (f == 6) || (f == 12) || (f == 10)
def skipB (k : Int) (bare : Bool) (f : Nat) : Bool := !(usesB k f) || (bare && bareF f)
/-- The letter behind the fields below j. -/
inductive MadeTo (bare : Bool) (l0 : Lt) : Nat → Lt → List NdV → Prop
  | zero : MadeTo bare l0 0 l0 []
  | skip {j : Nat} {l : Lt} {ns : List NdV} : MadeTo bare l0 j l ns → skipB l0.kind bare j = true → MadeTo bare l0 (j + 1) l ns
  | step {j : Nat} {l l' : Lt} {ns ns' : List NdV} : MadeTo bare l0 j l ns → skipB l0.kind bare j = false → MadeF l ns j l' ns' → MadeTo bare l0 (j + 1) l' ns'
def adjust (l : Lt) : Lt := if l.kind = 6 ∧ l.scope = 3 then { l with day := 0 } else if l.kind = 5 ∧ l.other = l.person then { l with other := l.other + 1 } else l
/-- The result's variable (zero), the maker behind it, the letter's variable at lb. -/
structure MS (w0 : World) (xs : List Int) (a nd lb : Nat) (cs : Array Value) (W : World) : Prop where
  mkr : MkSt W (w0.heap.size + 1) xs a nd
  keep : Below w0.heap.size w0 W
  hb : w0.heap.size + 1 < lb
  var : W.heap[lb]? = some (.cells cs 36 (0, 0))
  res : W.heap[w0.heap.size]? = some (.cells (ltVal zLt zSl) 36 (0, 0))
section
variable {w0 W W' : World} {a a' nd nd' lb : Nat} {xs : List Int} {cs : Array Value}
theorem MS.lt (h : MS w0 xs a nd lb cs W) : lb < W.heap.size := (Array.getElem?_eq_some_iff.1 h.var).1
theorem MS.cell (h : MS w0 xs a nd lb cs W) : ∀ i, W.cell? ⟨lb, i, none⟩ = cs[i]? := fun i => cell_of_row W _ i _ _ _ h.var
theorem MS.froz (h : MS w0 xs a nd lb cs W) : ∀ i, W.frozen? ⟨lb, i, none⟩ = false := fun i => frozen_of_row W _ i _ _ h.var
theorem MS.row (h : MS w0 xs a nd lb cs W) : Row W lb cs := ⟨h.lt, h.cell⟩
theorem MS.step (h : MS w0 xs a nd lb cs W) (hm : MkSt W' (w0.heap.size + 1) xs a' nd') (hk : MKeep (w0.heap.size + 1) W W') : MS w0 xs a' nd' lb cs W' := by
  have h1 := h.hb
  have h2 := h.lt
  refine ⟨hm, ?_, h.hb, (hk.block _ (by omega) (by omega)).trans h.var, (hk.block _ (by omega) (by omega)).trans h.res⟩
  exact ⟨hk.os.trans h.keep.os, hk.tape.trans h.keep.tape, hk.output.trans h.keep.output, Nat.le_trans h.keep.size hk.size, fun k hk' => (hk.block k (by omega) (by omega)).trans (h.keep.block k hk')⟩
theorem MS.below (h : MS w0 xs a nd lb cs W) (hb : Below W.heap.size W W') : MS w0 xs a nd lb cs W' := h.step (h.mkr.grow hb) (MKeep.of_below hb)
theorem MS.drew (h : MS w0 xs a nd lb cs W) : MS w0 xs a nd lb cs W.drew := ⟨h.mkr, ⟨h.keep.os, h.keep.tape, h.keep.output, h.keep.size, h.keep.block⟩, h.hb, h.var, h.res⟩
theorem MS.pick (h : MS w0 xs a nd lb cs W) (hx : XsOK xs) (n : Int) (ha : a ≤ 1000000000) (hn : 0 < n) (hn2 : n ≤ 1000000000000000000) :
    Calls Tryz.prog 26 #[pt (w0.heap.size + 1), I n] W fun e W' => ∃ r, e = .returned (I r) ∧ 0 ≤ r ∧ r < n ∧ MKeep (w0.heap.size + 1) W W' ∧ MS w0 xs (a + 1) nd lb cs W' :=
  (pick_any W _ xs a nd n h.mkr hx ha hn hn2).mono fun _ _ ⟨r, h1, h2, h3, h4, h5⟩ => ⟨r, h1, h2, h3, h5, h.step h4 h5⟩
theorem MS.store (h : MS w0 xs a nd lb cs W) (o : Nat) (v : Value) : MS w0 xs a nd lb (cs.setIfInBounds o v) (W.setCell ⟨lb, o, none⟩ v) := by
  have h1 := h.hb
  refine ⟨h.mkr.far _ _ (by show w0.heap.size + 1 < lb; omega), h.keep.setCell (p := ⟨lb, o, none⟩) (by show w0.heap.size ≤ lb; omega) _, h.hb, heap_setCell_same W _ o _ _ _ h.var, (heap_setCell_other W _ _ v (by show w0.heap.size ≠ lb; omega)).trans h.res⟩
/-- The whole letter stored. -/
theorem MS.put (h : MS w0 xs a nd lb cs W) (ds : Array Value) : MS w0 xs a nd lb ds (W.setRow lb ds) := by
  have h1 := h.hb
  have hb : Below w0.heap.size w0 (W.setRow lb ds) := below_setRow h.keep (by omega) ds
  refine ⟨?_, hb, h.hb, setRow_heap _ _ _ _ _ _ h.var, (setRow_other W _ _ _ (by omega)).trans h.res⟩
  obtain ⟨A', c', g1, g2⟩ := h.mkr
  exact ⟨A', c', (setRow_other W _ _ _ (by omega)).trans g1, g2.keep (below_setRow (Below.refl _ W) (by omega) _)⟩
end
theorem LtMem.put {lo lb : Nat} {W : World} {l : Lt} {s : Sl} {ns : List NdV} (h : LtMem lo W l s ns) (hb : lb < lo) (ds : Array Value) : LtMem lo (W.setRow lb ds) l s ns :=
  ⟨h.rule.of_blocks (by simp) fun k hk _ => setRow_other _ _ k _ (by omega), h.names, ownsRow_blocks h.moves fun k hk _ => setRow_other _ _ k _ (by omega), ownsRow_blocks h.cells fun k hk _ => setRow_other _ _ k _ (by omega)⟩
theorem LtMem.set {lo lb : Nat} {W : World} {l l' : Lt} {s : Sl} {ns : List NdV} (h : LtMem lo W l s ns) (hb : lb < lo) (o : Nat) (u : Value) (h1 : l'.series = l.series) (h2 : l'.cells = l.cells) : LtMem lo (W.setCell ⟨lb, o, none⟩ u) l' s ns :=
  ⟨by rw [h1]; exact h.rule.put lb o u hb, by rw [h1]; exact h.names, by rw [h1]; exact ownsRow_setCell_below (a := ⟨lb, o, none⟩) h.moves hb u, by rw [h2]; exact ownsRow_setCell_below (a := ⟨lb, o, none⟩) h.cells hb u⟩
def startLt (k f t : Int) : Lt := { zLt with kind := k, src := f, dst := t }
/-- What 'Made' gives. -/
structure MadeLt (l : Lt) (ns : List NdV) : Prop where
  made : ∃ bare k f t l1, 1 ≤ k ∧ k ≤ 18 ∧ 0 ≤ f ∧ f ≤ 15 ∧ 0 ≤ t ∧ t ≤ 15 ∧ f ≠ t ∧ (bare = true → k = 8) ∧ MadeTo bare (startLt k f t) 17 l1 ns ∧ l = adjust l1
  ref : l.ref.length = 32
def MadeQ (w : World) (e : Ending) (w' : World) : Prop := ∃ l s ns, e = .returned (.agg (ltVal l s)) ∧ MadeLt l ns ∧ LtMem (w.heap.size + 2) w' l s ns ∧ Below w.heap.size w w'
attribute [local go_sem] ltVal_get lt_get0 lt_get1 lt_get7 lt_get8 lt_get10
theorem put_src (l : Lt) (s : Sl) (x : Int) : (ltVal l s).setIfInBounds 1 (I x) = ltVal { l with src := x } s := by simp [ltVal, ltCells]
theorem put_dst (l : Lt) (s : Sl) (x : Int) : (ltVal l s).setIfInBounds 2 (I x) = ltVal { l with dst := x } s := by simp [ltVal, ltCells]
theorem ints_take {w : World} {B : Nat} {A : Option Addr} {xs : List Int} (h : IntsAt w B A xs) (n : Nat) : IntsAt w B A (xs.take n) := by
  rcases h with h | ⟨b, off, hA, hbB, hc⟩
  · exact .inl (by simp [h])
  · refine .inr ⟨b, off, hA, hbB, fun j hj => ?_⟩
    rw [List.length_take] at hj
    rw [hc j (by omega), List.getElem?_take_of_lt (by omega)]
theorem startMk {w : World} {A : Option Addr} {xs : List Int} {m c : Nat} (hA : IntsAt w w.heap.size A xs) (hm : (xs.take 60).length = m) (z : Array Value) (t : TypeId) :
    MkSt ((w.alloc (.cells z t)).alloc (.cells #[.slice A m c, .int .i64 0, .int .i64 2, .int .i64 0] 56)) (w.heap.size + 1) (xs.take 60) 0 0 := by
  subst hm
  have h2 := heap_alloc2_new w (.cells z t) (.cells #[.slice A (xs.take 60).length c, .int .i64 0, .int .i64 2, .int .i64 0] 56)
  refine ⟨A, c, h2, ?_⟩
  have hb := below_trans (below_var w (.cells z t)) (below_var _ (.cells #[.slice A (xs.take 60).length c, .int .i64 0, .int .i64 2, .int .i64 0] 56))
  rcases (ints_take hA 60).keep hb with h | ⟨b, off, h1, h3, h4⟩
  · exact .inl h
  · exact .inr ⟨b, off, h1, by omega, h4⟩
theorem MS.start {w w1 : World} {xs : List Int} {a nd : Nat} {o : Obj} {cs : Array Value} (hm : MkSt w1 (w.heap.size + 1) xs a nd) (hk : MKeep (w.heap.size + 1) ((w.alloc (.cells (ltVal zLt zSl) 36)).alloc o) w1) :
    MS w xs a nd w1.heap.size cs (w1.alloc (.cells cs 36)) := by
  have hs := hk.size
  simp only [World.size_alloc] at hs
  have hb0 := below_trans (below_var w (.cells (ltVal zLt zSl) 36)) (below_var _ o)
  have hb1 := below_var w1 (.cells cs 36)
  refine ⟨hm.grow hb1, ?_, by omega, heap_alloc_last w1 _, ?_⟩
  · exact ⟨hb1.os.trans (hk.os.trans hb0.os), hb1.tape.trans (hk.tape.trans hb0.tape), hb1.output.trans (hk.output.trans hb0.output), by simp; omega, fun k hk' => by rw [hb1.block k (by omega), hk.block k (by simp; omega) (by omega), hb0.block k hk']⟩
  · rw [hb1.block _ (by omega), hk.block _ (by simp; omega) (by omega)]
    exact heap_alloc2_old w _ _
def MCut1 (w : World) (ys : List Int) (k0 f0 : Int) (lb : Nat) (p q r : Value) (wx : World) : Prop :=
  p = .pointer (some ⟨w.heap.size, 0, none⟩) ∧ q = pt (w.heap.size + 1) ∧ r = .pointer (some ⟨lb, 0, none⟩) ∧ ∃ t, 0 ≤ t ∧ t ≤ 15 ∧ f0 ≠ t ∧ MS w ys 3 0 lb (ltVal (startLt (1 + k0) f0 t) zSl) wx
def MCut2 (w : World) (ys : List Int) (k0 f0 t : Int) (lb : Nat) (p q r b : Value) (wx : World) : Prop :=
  p = .pointer (some ⟨w.heap.size, 0, none⟩) ∧ q = pt (w.heap.size + 1) ∧ r = .pointer (some ⟨lb, 0, none⟩) ∧ ∃ a bare, b = .bool bare ∧ (bare = true → 1 + k0 = 8) ∧ a ≤ 4 ∧ MS w ys a 0 lb (ltVal (startLt (1 + k0) f0 t) zSl) wx
theorem MadeF.kind {l l' : Lt} {ns ns' : List NdV} {f : Nat} (h : MadeF l ns f l' ns') : l'.kind = l.kind := by
  rcases h with ⟨_, x, _, _, _, rfl, _⟩ | ⟨_, _, ⟨_, m, rfl, _⟩ | ⟨_, _, rfl⟩⟩ | ⟨_, ⟨_, se, rfl, _⟩ | ⟨_, _, rfl, _⟩⟩ | ⟨_, _, a, b, _, _, _, rfl⟩ | ⟨_, _, zs, rfl, _⟩ | ⟨_, _, r, _, rfl⟩
  · unfold setNum; split <;> rfl
  all_goals rfl
theorem MadeTo.kind {bare : Bool} {l0 l : Lt} {j : Nat} {ns : List NdV} (h : MadeTo bare l0 j l ns) : l.kind = l0.kind := by
  induction h with
  | zero => rfl
  | skip _ _ ih => exact ih
  | step _ _ hf ih => exact hf.kind.trans ih
theorem MadeF.ref {l l' : Lt} {ns ns' : List NdV} {f : Nat} (h : MadeF l ns f l' ns') (hr : l.ref.length = 32) : l'.ref.length = 32 := by
  rcases h with ⟨_, x, _, _, _, rfl, _⟩ | ⟨_, _, ⟨_, m, rfl, _⟩ | ⟨_, _, rfl⟩⟩ | ⟨_, ⟨_, se, rfl, _⟩ | ⟨_, _, rfl, _⟩⟩ | ⟨_, _, a, b, _, _, _, rfl⟩ | ⟨_, _, zs, rfl, _⟩ | ⟨_, _, r, h, rfl⟩
  · rw [setNum_ref]; exact hr
  all_goals first | exact hr | exact h
theorem MadeF.cells {l l' : Lt} {ns ns' : List NdV} {f : Nat} (h : MadeF l ns f l' ns') (hf : f ≠ 15) : l'.cells = l.cells := by
  rcases h with ⟨_, x, _, _, _, rfl, _⟩ | ⟨_, _, ⟨_, m, rfl, _⟩ | ⟨_, _, rfl⟩⟩ | ⟨_, ⟨_, se, rfl, _⟩ | ⟨_, _, rfl, _⟩⟩ | ⟨_, _, a, b, _, _, _, rfl⟩ | ⟨h, _, zs, rfl, _⟩ | ⟨_, _, r, h, rfl⟩
  · rw [setNum_cellsL]
  all_goals first | rfl | exact absurd h hf
theorem setNum_other (l : Lt) (f : Nat) (x : Int) (hf : f ≠ 5) : (setNum l f x).other = l.other := by
  unfold setNum; split <;> first | rfl | (exact absurd rfl hf)
theorem bnd_five (k : Int) : (bnd k 5).2 ≤ 511 := by
  unfold bnd; simp only; split <;> simp
theorem MadeF.other {l l' : Lt} {ns ns' : List NdV} {f : Nat} (h : MadeF l ns f l' ns') (ho : 0 ≤ l.other ∧ l.other ≤ 511) : 0 ≤ l'.other ∧ l'.other ≤ 511 := by
  rcases h with ⟨_, x, h1, h2, _, rfl, _⟩ | ⟨_, _, ⟨_, m, rfl, _⟩ | ⟨_, _, rfl⟩⟩ | ⟨_, ⟨_, se, rfl, _⟩ | ⟨_, _, rfl, _⟩⟩ | ⟨_, _, a, b, _, _, _, rfl⟩ | ⟨h, _, zs, rfl, _⟩ | ⟨_, _, r, h, rfl⟩
  · by_cases h5 : f = 5
    · subst h5
      have := bnd_ok l.kind 5
      have h3 := bnd_five l.kind
      show 0 ≤ x ∧ x ≤ 511
      omega
    · rw [setNum_other _ _ _ h5]; exact ho
  all_goals exact ho
theorem MadeTo.other {bare : Bool} {l0 l : Lt} {j : Nat} {ns : List NdV} (h : MadeTo bare l0 j l ns) (h0 : l0.other = 0) : 0 ≤ l.other ∧ l.other ≤ 511 := by
  induction h with
  | zero => omega
  | skip _ _ ih => exact ih
  | step _ _ hf ih => exact hf.other ih
theorem put_day (l : Lt) (s : Sl) (x : Int) : (ltVal l s).setIfInBounds 11 (I x) = ltVal { l with day := x } s := by simp [ltVal, ltCells]
theorem put_other (l : Lt) (s : Sl) (x : Int) : (ltVal l s).setIfInBounds 8 (I x) = ltVal { l with other := x } s := by simp [ltVal, ltCells]
theorem adjust_ref (l : Lt) : (adjust l).ref = l.ref := by unfold adjust; split <;> (try split) <;> rfl
theorem MS.done {w wr : World} {ys : List Int} {a nd lb : Nat} {l : Lt} {s : Sl} {ns : List NdV} (h : MS w ys a nd lb (ltVal l s) wr) (hm : LtMem (lb + 1) wr l s ns) (hl : MadeLt l ns) : MadeQ w (.returned (.agg (ltVal l s))) (wr.setRow w.heap.size (ltVal l s)) := by
  have hb := h.hb
  have m := hm.put (Nat.lt_succ_of_lt (Nat.lt_of_succ_lt hb)) (ltVal l s)
  refine ⟨l, s, ns, rfl, hl, ⟨m.rule.lower (by omega), m.names, ownsRow_base' m.moves (by omega), ownsRow_base' m.cells (by omega)⟩, below_setRow h.keep (Nat.le_refl _) _⟩
def MaRel (w : World) (ys : List Int) (lb : Nat) (bare : Bool) (l0 : Lt) (f : Value) (wr : World) : Prop :=
  ∃ (j : Nat) (l : Lt) (s : Sl) (ns : List NdV) (a nd : Nat), j ≤ 17 ∧ f = I j ∧ MS w ys a nd lb (ltVal l s) wr ∧ LtMem (lb + 1) wr l s ns ∧ MadeTo bare l0 j l ns ∧ l.ref.length = 32 ∧ (j ≤ 15 → l.cells = [] ∧ s.C = none ∧ s.e = 0) ∧ a ≤ 4 + 400 * j ∧ nd ≤ 16 * j
set_option maxRecDepth 10000 in
set_option maxHeartbeats 4000000 in
theorem refMade_any (w : World) (A : Option Addr) (n c : Nat) (xs : List Int) (hn : xs.length = n) (hA : IntsAt w w.heap.size A xs) (hfit : ∀ j, j < xs.length → fits (xs[j]?.getD 0)) (hc : n ≤ c) (_hbig : c ≤ 9223372036854775807) :
    Calls Tryz.prog 7 #[.slice A n c] w (MadeQ w) := by
  have HX : Hid (XsOK (xs.take 60)) := Lib.hid ⟨by rw [List.length_take]; omega, fun j hj => by rw [List.length_take] at hj; rw [List.getElem?_take_of_lt (by omega)]; exact hfit j (by omega)⟩
  have HA := Lib.hid hA
  have hlen : (xs.take 60).length = (min (n : Int) 60).toNat := by rw [List.length_take, hn]; omega
  have HLN := Lib.hid hlen
  clear hA hfit hn hlen
  go_enter Tryz.func7, Tryz.ntmps7
  go_wp2_with (with_reducible refine g_alloc 36 ?_; refine wpList_alloc_as rfl _ rfl (ltVal zLt zSl) lt_zero ?_)
  have HM0 := Lib.hid (startMk (c := c) HA.out HLN.out (ltVal zLt zSl) 36)
  obtain ⟨ys, hys⟩ : ∃ ys, xs.take 60 = ys := ⟨_, rfl⟩
  rw [hys] at HX HM0
  refine (pick_any _ (w.heap.size + 1) ys 0 0 18 HM0.out HX.out (by omega) (by omega) (by omega)).mono ?_
  rintro e w1 ⟨k0, rfl, k1, k2, hm1, hk1⟩
  have G0 : Hid (MS w ys 1 0 w1.heap.size (ltVal (startLt (1 + k0) 0 0) zSl) (w1.alloc (.cells (ltVal (startLt (1 + k0) 0 0) zSl) 36))) := Lib.hid (MS.start hm1 hk1)
  have hlb : w.heap.size + 1 < w1.heap.size := G0.out.hb
  clear hm1 hk1 HM0 HLN HA hys
  go_wp2_with (first
      | (with_reducible refine at_build 36 ?_; refine wpList_build_as rfl _ rfl (ltVal (startLt (1 + k0) 0 0) zSl) (by kernel_rfl) ?_)
      | (with_reducible refine at_alloc 36 ?_; refine wpList_var_row rfl rfl _ _ _ rfl rfl rfl rfl _ (ltVal (startLt (1 + k0) 0 0) zSl) (lt_info' _ zSl rfl) rfl rfl rfl (ltVal_one _ _) ?_))
  refine (G0.out.pick HX.out 16 (by omega) (by omega) (by omega)).mono ?_
  rintro e w2 ⟨f0, rfl, f1, f2, -, g2⟩
  have g2c := g2.cell
  have g2f := g2.froz
  have G2 : Hid (MS w ys (1 + 1) 0 w1.heap.size (ltVal (startLt (1 + k0) f0 0) zSl) (w2.setCell ⟨w1.heap.size, 1, none⟩ (I f0))) := Lib.hid (by have := g2.store 1 (I f0); rw [put_src] at this; exact this)
  clear g2 G0
  go_wp2_with fail
  clear g2c g2f
  have HGD := Lib.hid G2.out.drew
  have hc1 : (w2.setCell ⟨w1.heap.size, 1, none⟩ (I f0)).cell? ⟨w1.heap.size, 1, none⟩ = some (I f0) := HGD.out.cell 1
  have hwf : IntKind.i64.wrap (f0 + 1) = f0 + 1 := by rw [IntKind.wrap_i64]; omega
  go_cut [2, 3, 4] (fun p q r wx => MCut1 w ys k0 f0 w1.heap.size p q r wx)
  case first =>
    go_region_law (go_simp; go_at_call 26; refine (HGD.out.pick HX.out 15 (by omega) (by omega) (by omega)).mono ?_; rintro e w5 ⟨t0, rfl, t1, t2, -, g5⟩; have hc5 : w5.cell? ⟨w1.heap.size, 1, none⟩ = some (I f0) := g5.cell 1; have hc52 : w5.cell? ⟨w1.heap.size, 2, none⟩ = some (I 0) := g5.cell 2; have hf52 := g5.froz 2; have hw2 : IntKind.i64.wrap (f0 + 1 + t0) = f0 + 1 + t0 := (by rw [IntKind.wrap_i64]; omega); have hw3 : (f0 + 1 + t0).tmod 16 = (f0 + 1 + t0) % 16 := Int.tmod_eq_emod_of_nonneg (by omega); have G5 : Hid (MS w ys (1 + 1 + 1) 0 w1.heap.size (ltVal (startLt (1 + k0) f0 ((f0 + 1 + t0) % 16)) zSl) (w5.setCell ⟨w1.heap.size, 2, none⟩ (I ((f0 + 1 + t0) % 16)))) := Lib.hid (by have := g5.store 2 (I ((f0 + 1 + t0) % 16)); rw [put_dst] at this; exact this); clear g5)
    all_goals
      go_wp2_with fail
      go_meet
      exact ⟨rfl, rfl, rfl, _, by omega, by omega, by omega, G5.out⟩
  case rest =>
    obtain ⟨rfl, rfl, rfl, t0, t1, t2, t3, g5⟩ := hcut
    have G5 := Lib.hid g5
    have hc0 : wc.cell? ⟨w1.heap.size, 0, none⟩ = some (I (1 + k0)) := g5.cell 0
    clear g5 HGD G2 hc1 hwf
    go_upto_region 5 with fail
    go_cut [2, 3, 4, 5] (fun p q r b wx => MCut2 w ys k0 f0 t0 w1.heap.size p q r b wx)
    case first =>
      by_cases hk8 : 1 + k0 = 8
      · go_wp2_with fail
        refine (G5.out.pick HX.out 3 (by omega) (by omega) (by omega)).mono ?_
        rintro e w6 ⟨z, rfl, z1, z2, -, g6⟩
        have G6 := Lib.hid g6
        clear g6
        go_wp2_with fail
        go_meet
        exact ⟨rfl, rfl, rfl, _, (z == 0), rfl, (fun _ => hk8), by omega, G6.out⟩
      · go_wp2_with fail
        go_meet
        exact ⟨rfl, rfl, rfl, _, false, rfl, (fun h => nomatch h), by omega, G5.out⟩
    case rest =>
      rename_i wc1 _
      obtain ⟨rfl, rfl, rfl, a0, bare, rfl, hb8, ha0, g6⟩ := hcut
      have G6 := Lib.hid g6
      have HB8 := Lib.hid hb8
      obtain ⟨kn, hkn⟩ : ∃ kn : Nat, 1 + k0 = (kn : Int) := ⟨(1 + k0).toNat, by omega⟩
      rw [hkn] at G6 HB8
      have hkn1 : 1 ≤ kn := by omega
      have hkn2 : kn ≤ 18 := by omega
      clear g6 hb8 G5 hc0
      go_wp2_with fail
      go_loopw [6] (fun i wr => MaRel w ys w1.heap.size bare (startLt kn f0 t0) i wr) (fun i _ => (17 - intOf i).toNat)
      case atStart => exact ⟨0, startLt kn f0 t0, zSl, [], a0, 0, by omega, rfl, G6.out, ⟨⟨World.ownsRow_nil _ _ _ _, (fun x hx => nomatch hx)⟩, rfl, World.ownsRow_nil _ _ _ _, World.ownsRow_nil _ _ _ _⟩, .zero, rfl, (fun _ => ⟨rfl, rfl, rfl⟩), by omega, by omega⟩
      case round =>
        obtain ⟨j, l, s, ns, a, nd, hj, rfl, hms, hmem, hmt, href, hC, ha, hnd⟩ := hrel
        have HG := Lib.hid hms
        have HM := Lib.hid hmem
        have HT := Lib.hid hmt
        have HR := Lib.hid href
        have HC := Lib.hid hC
        have hlt1 := hms.lt
        have hkk : l.kind = kn := hmt.kind
        have hcc := hms.cell
        have hc0 : wr.cell? ⟨w1.heap.size, 0, none⟩ = some (I kn) := by rw [hcc, ← hkk]; rfl
        have HCC := Lib.hid hcc
        have HKK := Lib.hid hkk
        clear hms hmem hmt href hC G6 hcc hkk
        by_cases hlt : (j : Int) < 17
        · go_wp2_with fail
          refine (refUses_any kn hkn1 hkn2 j wr).mono ?_
          rintro e w4 ⟨rfl, hb4⟩
          have G4 := Lib.hid (HG.out.below hb4)
          have M4 : Hid (LtMem (w1.heap.size + 1) w4 l s ns) := Lib.hid (HM.out.mkeep (MKeep.of_below (mb := w.heap.size + 1) hb4) (by omega))
          obtain ⟨u, hu⟩ : ∃ u, (fieldsL kn).contains (j : Int) = u := ⟨_, rfl⟩
          have HU : Hid (usesB kn j = u) := Lib.hid (by rw [← fields_uses kn (by omega) j (by omega)]; exact hu)
          rw [hu]
          clear hb4 hu HG HM
          cases u with
          | false =>
            have HSK : Hid (skipB (startLt kn f0 t0).kind bare j = true) := Lib.hid (by show skipB kn bare j = true; unfold skipB; rw [HU.out]; rfl)
            go_wp2_with fail
            go_roundw
            case rel => exact ⟨j + 1, l, s, ns, a, nd, by omega, by go_num, G4.out, M4.out, .skip HT.out HSK.out, HR.out, (fun h => HC.out (by omega)), by omega, by omega⟩
            case measure => simp [intOf]; omega
          | true =>
            cases bare with
            | false =>
              have HSK : Hid (skipB (startLt kn f0 t0).kind false j = false) := Lib.hid (by show skipB kn false j = false; unfold skipB; rw [HU.out]; rfl)
              go_wp2_with (with_reducible refine g_load 36 ?_; refine wpList_load_Row rfl _ _ rfl w1.heap.size rfl (ltVal l s) G4.out.row _ Tryz.underlying36 rfl (size62 _ _ HR.out) ?_)
              refine (made_any w4 (w1.heap.size + 1) (w.heap.size + 1) ys a nd l s ns j G4.out.mkr HX.out (by omega) (by omega) M4.out (by omega) (by have := G4.out.lt; omega) HR.out (by omega) (fun e => HC.out (by omega))).mono ?_
              rintro e w5 ⟨l', s', ns', a', n', rfl, hmf, hmem5, hC5, hm5, ha5, hn5, hk5⟩
              have G5 := Lib.hid (G4.out.step hm5 hk5)
              have HR5 := Lib.hid (hmf.ref HR.out)
              have HF := Lib.hid hmf
              have HM5 := Lib.hid hmem5
              have HC5 : Hid (j + 1 ≤ 15 → l'.cells = [] ∧ s'.C = none ∧ s'.e = 0) := Lib.hid (fun h => by have h1 := HC.out (by omega); have h2 := hC5 (by omega); exact ⟨(hmf.cells (by omega)).trans h1.1, h2.1.trans h1.2.1, h2.2.trans h1.2.2⟩)
              have G6 := Lib.hid (G5.out.put (ltVal l' s'))
              have HM6 := Lib.hid (HM5.out.put (Nat.lt_succ_self _) (ltVal l' s'))
              clear hm5 hk5 hmf hmem5 hC5
              go_wp2_with (with_reducible refine g_store 36 ?_; refine wpList_store_row rfl _ _ _ rfl w1.heap.size (ltVal l' s') rfl rfl 36 (ltVal l s) G5.out.var (size62 _ _ HR5.out) (by rw [ltVal_size _ _ HR5.out, ltVal_size _ _ HR.out]) (ltVal_one _ _) ?_)
              go_roundw
              case rel => exact ⟨j + 1, l', s', ns', a', n', by omega, by go_num, G6.out, HM6.out, .step HT.out HSK.out HF.out, HR5.out, HC5.out, by omega, by omega⟩
              case measure => simp [intOf]; omega
            | true =>
              by_cases hbf : j = 4 ∨ j = 5 ∨ j = 6 ∨ j = 12 ∨ j = 10
              · have HSK : Hid (skipB (startLt kn f0 t0).kind true j = true) := Lib.hid (by show skipB kn true j = true; unfold skipB; rcases hbf with rfl | rfl | rfl | rfl | rfl <;> rw [HU.out] <;> rfl)
                rcases hbf with rfl | rfl | rfl | rfl | rfl
                · go_wp2_with fail
                  go_roundw
                  case rel => exact ⟨5, l, s, ns, a, nd, by omega, by go_num, G4.out, M4.out, .skip HT.out HSK.out, HR.out, (fun h => HC.out (by omega)), by omega, by omega⟩
                  case measure => simp [intOf]
                · go_wp2_with fail
                  go_roundw
                  case rel => exact ⟨6, l, s, ns, a, nd, by omega, by go_num, G4.out, M4.out, .skip HT.out HSK.out, HR.out, (fun h => HC.out (by omega)), by omega, by omega⟩
                  case measure => simp [intOf]
                · go_wp2_with fail
                  go_roundw
                  case rel => exact ⟨7, l, s, ns, a, nd, by omega, by go_num, G4.out, M4.out, .skip HT.out HSK.out, HR.out, (fun h => HC.out (by omega)), by omega, by omega⟩
                  case measure => simp [intOf]
                · go_wp2_with fail
                  go_roundw
                  case rel => exact ⟨13, l, s, ns, a, nd, by omega, by go_num, G4.out, M4.out, .skip HT.out HSK.out, HR.out, (fun h => HC.out (by omega)), by omega, by omega⟩
                  case measure => simp [intOf]
                · go_wp2_with fail
                  go_roundw
                  case rel => exact ⟨11, l, s, ns, a, nd, by omega, by go_num, G4.out, M4.out, .skip HT.out HSK.out, HR.out, (fun h => HC.out (by omega)), by omega, by omega⟩
                  case measure => simp [intOf]
              · have n4 : ((j : Int) == 4) = false := by simp; omega
                have n5 : ((j : Int) == 5) = false := by simp; omega
                have n6 : ((j : Int) == 6) = false := by simp; omega
                have n12 : ((j : Int) == 12) = false := by simp; omega
                have n10 : ((j : Int) == 10) = false := by simp; omega
                have HSK : Hid (skipB (startLt kn f0 t0).kind true j = false) := Lib.hid (by show skipB kn true j = false; unfold skipB bareF; rw [HU.out, n4, n5, n6, n12, n10]; rfl)
                clear hbf
                go_wp2_with (with_reducible refine g_load 36 ?_; refine wpList_load_Row rfl _ _ rfl w1.heap.size rfl (ltVal l s) G4.out.row _ Tryz.underlying36 rfl (size62 _ _ HR.out) ?_)
                refine (made_any w4 (w1.heap.size + 1) (w.heap.size + 1) ys a nd l s ns j G4.out.mkr HX.out (by omega) (by omega) M4.out (by omega) (by have := G4.out.lt; omega) HR.out (by omega) (fun e => HC.out (by omega))).mono ?_
                rintro e w5 ⟨l', s', ns', a', n', rfl, hmf, hmem5, hC5, hm5, ha5, hn5, hk5⟩
                have G5 := Lib.hid (G4.out.step hm5 hk5)
                have HR5 := Lib.hid (hmf.ref HR.out)
                have HF := Lib.hid hmf
                have HM5 := Lib.hid hmem5
                have HC5 : Hid (j + 1 ≤ 15 → l'.cells = [] ∧ s'.C = none ∧ s'.e = 0) := Lib.hid (fun h => by have h1 := HC.out (by omega); have h2 := hC5 (by omega); exact ⟨(hmf.cells (by omega)).trans h1.1, h2.1.trans h1.2.1, h2.2.trans h1.2.2⟩)
                have G6 := Lib.hid (G5.out.put (ltVal l' s'))
                have HM6 := Lib.hid (HM5.out.put (Nat.lt_succ_self _) (ltVal l' s'))
                clear hm5 hk5 hmf hmem5 hC5
                go_wp2_with (with_reducible refine g_store 36 ?_; refine wpList_store_row rfl _ _ _ rfl w1.heap.size (ltVal l' s') rfl rfl 36 (ltVal l s) G5.out.var (size62 _ _ HR5.out) (by rw [ltVal_size _ _ HR5.out, ltVal_size _ _ HR.out]) (ltVal_one _ _) ?_)
                go_roundw
                case rel => exact ⟨j + 1, l', s', ns', a', n', by omega, by go_num, G6.out, HM6.out, .step HT.out HSK.out HF.out, HR5.out, HC5.out, by omega, by omega⟩
                case measure => simp [intOf]; omega
        · have hj17 : j = 17 := by omega
          subst hj17
          have HO := Lib.hid (HT.out.other rfl)
          obtain ⟨ho1, ho2⟩ := HT.out.other rfl
          have hc10 : wr.cell? ⟨w1.heap.size, 10, none⟩ = some (I l.scope) := HCC.out 10
          have hc7 : wr.cell? ⟨w1.heap.size, 7, none⟩ = some (I l.person) := HCC.out 7
          have hc8 : wr.cell? ⟨w1.heap.size, 8, none⟩ = some (I l.other) := HCC.out 8
          have hc11 : wr.cell? ⟨w1.heap.size, 11, none⟩ = some (I l.day) := HCC.out 11
          have hf8 := HG.out.froz 8
          have hf11 := HG.out.froz 11
          have hwo : IntKind.i64.wrap (l.other + 1) = l.other + 1 := by rw [IntKind.wrap_i64]; omega
          by_cases hk6 : kn = 6
          · subst hk6
            by_cases hs3 : l.scope = 3
            · have HS3 := Lib.hid hs3
              rw [hs3] at hc10
              clear hs3
              have G7 : Hid (MS w ys a nd w1.heap.size (ltVal { l with day := 0 } s) (wr.setCell ⟨w1.heap.size, 11, none⟩ (I 0))) := Lib.hid (by have := HG.out.store 11 (I 0); rw [put_day] at this; exact this)
              have M7 : Hid (LtMem (w1.heap.size + 1) (wr.setCell ⟨w1.heap.size, 11, none⟩ (I 0)) { l with day := 0 } s ns) := Lib.hid (HM.out.set (Nat.lt_succ_self _) 11 (I 0) rfl rfl)
              have hq0 : (wr.setCell ⟨w1.heap.size, 11, none⟩ (I 0)).cell? ⟨w1.heap.size, 0, none⟩ = some (I l.kind) := G7.out.cell 0
              rw [HKK.out] at hq0
              go_wp2_with (first
                | (with_reducible refine g_load 36 ?_; refine wpList_load_Row rfl _ _ rfl w1.heap.size rfl (ltVal { l with day := 0 } s) G7.out.row _ Tryz.underlying36 rfl (size62 _ _ HR.out) ?_)
                | (with_reducible refine g_store 36 ?_; refine wpList_store_row rfl _ _ _ rfl w.heap.size (ltVal { l with day := 0 } s) rfl rfl 36 (ltVal zLt zSl) G7.out.res (size62 _ _ HR.out) (sz_eq _ _ HR.out) (ltVal_one _ _) ?_))
              exact bodyPost_ret (v := .agg (ltVal { l with day := 0 } s)) (results_cell_row rfl _ _ w.heap.size _ (ltVal { l with day := 0 } s) (0, 0) _ rfl (setRow_heap _ _ _ _ _ _ G7.out.res) Tryz.underlying36 rfl (size62 _ _ HR.out)) rfl (G7.out.done M7.out ⟨⟨bare, _, f0, t0, l, by omega, by omega, by omega, by omega, by omega, by omega, by omega, HB8.out, HT.out, by unfold adjust; rw [if_pos ⟨HKK.out, HS3.out⟩]⟩, HR.out⟩)
            · go_wp2_with (first
                | (with_reducible refine g_load 36 ?_; refine wpList_load_Row rfl _ _ rfl w1.heap.size rfl (ltVal l s) HG.out.row _ Tryz.underlying36 rfl (size62 _ _ HR.out) ?_)
                | (with_reducible refine g_store 36 ?_; refine wpList_store_row rfl _ _ _ rfl w.heap.size (ltVal l s) rfl rfl 36 (ltVal zLt zSl) HG.out.res (size62 _ _ HR.out) (sz_eq _ _ HR.out) (ltVal_one _ _) ?_))
              exact bodyPost_ret (v := .agg (ltVal l s)) (results_cell_row rfl _ _ w.heap.size _ (ltVal l s) (0, 0) _ rfl (setRow_heap _ _ _ _ _ _ HG.out.res) Tryz.underlying36 rfl (size62 _ _ HR.out)) rfl (HG.out.done HM.out ⟨⟨bare, _, f0, t0, l, by omega, by omega, by omega, by omega, by omega, by omega, by omega, HB8.out, HT.out, by unfold adjust; rw [if_neg (fun h => hs3 h.2), if_neg (fun h => by have := HKK.out; omega)]⟩, HR.out⟩)
          · have hk6' : ¬ (kn : Int) = 6 := by omega
            by_cases hk5 : kn = 5
            · subst hk5
              by_cases hop : l.other = l.person
              · have HOP := Lib.hid hop
                rw [← hop] at hc7
                clear hop
                have G7 : Hid (MS w ys a nd w1.heap.size (ltVal { l with other := l.other + 1 } s) (wr.setCell ⟨w1.heap.size, 8, none⟩ (I (l.other + 1)))) := Lib.hid (by have := HG.out.store 8 (I (l.other + 1)); rw [put_other] at this; exact this)
                have M7 : Hid (LtMem (w1.heap.size + 1) (wr.setCell ⟨w1.heap.size, 8, none⟩ (I (l.other + 1))) { l with other := l.other + 1 } s ns) := Lib.hid (HM.out.set (Nat.lt_succ_self _) 8 (I (l.other + 1)) rfl rfl)
                go_wp2_with (first
                  | (with_reducible refine g_load 36 ?_; refine wpList_load_Row rfl _ _ rfl w1.heap.size rfl (ltVal { l with other := l.other + 1 } s) G7.out.row _ Tryz.underlying36 rfl (size62 _ _ HR.out) ?_)
                  | (with_reducible refine g_store 36 ?_; refine wpList_store_row rfl _ _ _ rfl w.heap.size (ltVal { l with other := l.other + 1 } s) rfl rfl 36 (ltVal zLt zSl) G7.out.res (size62 _ _ HR.out) (sz_eq _ _ HR.out) (ltVal_one _ _) ?_))
                exact bodyPost_ret (v := .agg (ltVal { l with other := l.other + 1 } s)) (results_cell_row rfl _ _ w.heap.size _ (ltVal { l with other := l.other + 1 } s) (0, 0) _ rfl (setRow_heap _ _ _ _ _ _ G7.out.res) Tryz.underlying36 rfl (size62 _ _ HR.out)) rfl (G7.out.done M7.out ⟨⟨bare, _, f0, t0, l, by omega, by omega, by omega, by omega, by omega, by omega, by omega, HB8.out, HT.out, by unfold adjust; rw [if_neg (fun h => by have := HKK.out; omega), if_pos ⟨HKK.out, HOP.out⟩]⟩, HR.out⟩)
              · go_wp2_with (first
                  | (with_reducible refine g_load 36 ?_; refine wpList_load_Row rfl _ _ rfl w1.heap.size rfl (ltVal l s) HG.out.row _ Tryz.underlying36 rfl (size62 _ _ HR.out) ?_)
                  | (with_reducible refine g_store 36 ?_; refine wpList_store_row rfl _ _ _ rfl w.heap.size (ltVal l s) rfl rfl 36 (ltVal zLt zSl) HG.out.res (size62 _ _ HR.out) (sz_eq _ _ HR.out) (ltVal_one _ _) ?_))
                exact bodyPost_ret (v := .agg (ltVal l s)) (results_cell_row rfl _ _ w.heap.size _ (ltVal l s) (0, 0) _ rfl (setRow_heap _ _ _ _ _ _ HG.out.res) Tryz.underlying36 rfl (size62 _ _ HR.out)) rfl (HG.out.done HM.out ⟨⟨bare, _, f0, t0, l, by omega, by omega, by omega, by omega, by omega, by omega, by omega, HB8.out, HT.out, by unfold adjust; rw [if_neg (fun h => by have := HKK.out; omega), if_neg (fun h => hop h.2)]⟩, HR.out⟩)
            · have hk5' : ¬ (kn : Int) = 5 := by omega
              go_wp2_with (first
                | (with_reducible refine g_load 36 ?_; refine wpList_load_Row rfl _ _ rfl w1.heap.size rfl (ltVal l s) HG.out.row _ Tryz.underlying36 rfl (size62 _ _ HR.out) ?_)
                | (with_reducible refine g_store 36 ?_; refine wpList_store_row rfl _ _ _ rfl w.heap.size (ltVal l s) rfl rfl 36 (ltVal zLt zSl) HG.out.res (size62 _ _ HR.out) (sz_eq _ _ HR.out) (ltVal_one _ _) ?_))
              exact bodyPost_ret (v := .agg (ltVal l s)) (results_cell_row rfl _ _ w.heap.size _ (ltVal l s) (0, 0) _ rfl (setRow_heap _ _ _ _ _ _ HG.out.res) Tryz.underlying36 rfl (size62 _ _ HR.out)) rfl (HG.out.done HM.out ⟨⟨bare, _, f0, t0, l, by omega, by omega, by omega, by omega, by omega, by omega, by omega, HB8.out, HT.out, by unfold adjust; rw [if_neg (fun h => by have := HKK.out; omega), if_neg (fun h => by have := HKK.out; omega)]⟩, HR.out⟩)
end Go.Proofs.YtenbgpcdoljkgaaGreatDoor

/- Equality of nodes, of rules and of moves, where the contents are the same; kalendsref20.number. -/
namespace Go.Proofs.YtenbgpcdoljkgaaGreatDoor
open Go Go.RowKit

section
attribute [local go_sem] ndCells
set_option maxRecDepth 10000 in
set_option maxHeartbeats 2000000 in
theorem sameNode_eq (d : Nd) (A B : Option Addr) (c e : Nat) (w : World) (hA : IntsAt w w.heap.size A d.list) (hB : IntsAt w w.heap.size B d.list) (hn : d.list.length ≤ 140737488355328) :
    Calls Tryz.prog 40 #[.agg (ndCells d A c), .agg (ndCells d B e)] w (Gives (.bool true) w) := by
  have HE : Hid (∀ w', Below w.heap.size w w' → Calls Tryz.prog 37 #[.slice A d.list.length c, .slice B d.list.length e] w' (Gives (.bool (d.list == d.list)) w')) := Lib.hid fun w' hb => eqInts_any A B c e d.list d.list w' ((hA.keep hb).more hb.size) ((hB.keep hb).more hb.size) hn
  have HB := Lib.hid (below_trans (below_var w (.cells (ndCells d A c) 85)) (below_var _ (.cells (ndCells d B e) 85)))
  clear hA hB
  go_enter Tryz.func40, Tryz.ntmps40
  go_wp2_with fail
  refine (HE.out _ HB.out).mono ?_
  rintro x w1 ⟨rfl, hb1⟩
  have HB1 := Lib.hid hb1
  rw [beq_self_eq_true]
  clear hb1 HE
  go_wp2_with fail
  go_ret
  exact ⟨rfl, below_trans HB.out HB1.out⟩
set_option maxRecDepth 10000 in
set_option maxHeartbeats 2000000 in
theorem refNode_eq (d : Nd) (A B : Option Addr) (c e : Nat) (w : World) (hA : IntsAt w w.heap.size A d.list) (hB : IntsAt w w.heap.size B d.list) (hn : d.list.length ≤ 140737488355328) :
    Calls Tryz.prog 106 #[.agg (ndCells d A c), .agg (ndCells d B e)] w (Gives (.bool true) w) := by
  have h1 := ints_same d.kind
  have h2 := ints_same d.cal
  have h3 := ints_same d.l
  have h4 := ints_same d.r
  have h5 := ints_same d.n
  have h6 := ints_same d.m
  have HB := Lib.hid (below_trans (below_var w (.cells (ndCells d A c) 85)) (below_var _ (.cells (ndCells d B e) 85)))
  have HA := Lib.hid (hA.keep HB.out)
  have HBB := Lib.hid (hB.keep HB.out)
  have HR1 := Lib.hid ((Row.new w (ndCells d A c) 85).keep (below_var _ (.cells (ndCells d B e) 85)))
  have HR2 : Hid (Row ((w.alloc (.cells (ndCells d A c) 85)).alloc (.cells (ndCells d B e) 85)) (w.heap.size + 1) (ndCells d B e)) := Lib.hid (by have := Row.new (w.alloc (.cells (ndCells d A c) 85)) (ndCells d B e) 85; rwa [World.size_alloc] at this)
  have h8 := ints_same d.list.length
  obtain ⟨W, hW⟩ : ∃ W, (w.alloc (.cells (ndCells d A c) 85)).alloc (.cells (ndCells d B e) 85) = W := ⟨_, rfl⟩
  rw [hW] at HB HA HBB HR1 HR2
  have HW := Lib.hid hW
  clear hA hB hW
  go_enter Tryz.func106, Tryz.ntmps106
  go_wp2_with fail
  go_loopw [5] (fun i wr => (∃ k : Nat, k ≤ d.list.length ∧ i = I k) ∧ ∃ q, wr = W.drewN q) (fun i _ => d.list.length - (intOf i).toNat)
  case atStart => exact ⟨⟨0, Nat.zero_le _, rfl⟩, 0, HW.out⟩
  case round =>
    obtain ⟨⟨k, hk, rfl⟩, q, rfl⟩ := hrel
    have hc1 : W.cell? ⟨w.heap.size, 6, none⟩ = some (.slice A d.list.length c) := HR1.out.2 6
    have hc2 : W.cell? ⟨w.heap.size + 1, 6, none⟩ = some (.slice B d.list.length e) := HR2.out.2 6
    by_cases hlt : k < d.list.length
    · obtain ⟨b1, o1, rfl, -, ha⟩ : ∃ b off, A = some ⟨b, off, none⟩ ∧ b < w.heap.size ∧ ∀ j, j < d.list.length → W.cell? ⟨b, off + j, none⟩ = some (I (d.list[j]?.getD 0)) := by
        rcases HA.out with h | h
        · omega
        · exact h
      obtain ⟨b2, o2, rfl, -, hb⟩ : ∃ b off, B = some ⟨b, off, none⟩ ∧ b < w.heap.size ∧ ∀ j, j < d.list.length → W.cell? ⟨b, off + j, none⟩ = some (I (d.list[j]?.getD 0)) := by
        rcases HBB.out with h | h
        · omega
        · exact h
      obtain ⟨x, hx⟩ : ∃ x, d.list[k]?.getD 0 = x := ⟨_, rfl⟩
      have q1 : W.cell? ⟨b1, o1 + k, none⟩ = some (I x) := by rw [← hx]; exact ha k hlt
      have q2 : W.cell? ⟨b2, o2 + k, none⟩ = some (I x) := by rw [← hx]; exact hb k hlt
      clear ha hb hx
      have hne := ints_same x
      have i0 : (0 : Int) ≤ (k : Int) := by omega
      have i1 : (k : Int) < (d.list.length : Int) := by omega
      go_wp2_with fail
      go_quiet (fail)
      go_wp2_with fail
      go_roundw
      case rel => exact ⟨⟨k + 1, by omega, by go_num⟩, _, rfl⟩
      case measure => simp [intOf]; omega
    · go_wp2_with fail
      go_ret
      exact ⟨rfl, below_trans HB.out (below_drewN' _ _)⟩
end
section
attribute [local go_sem] ltVal_get lt_get3 lt_get4 lt_get5 lt_get6 lt_get7 lt_get8 lt_get9 lt_get10 lt_get11 lt_get24 lt_get25 lt_get26
set_option maxRecDepth 10000 in
set_option maxHeartbeats 8000000 in
theorem refNumber_any (l : Lt) (s : Sl) (f : Nat) (hf : f < 17) (hn : numB f = true) (w : World) :
    Calls Tryz.prog 44 #[.agg (ltVal l s), I f] w (Gives (I (numF l f)) w) := by
  have HB := Lib.hid (below_var w (.cells (ltVal l s) 36))
  have hk' : f = 0 ∨ f = 1 ∨ f = 2 ∨ f = 3 ∨ f = 4 ∨ f = 5 ∨ f = 6 ∨ f = 7 ∨ f = 8 ∨ f = 11 ∨ f = 12 ∨ f = 13 := by simp [numB] at hn; omega
  clear hf hn
  rcases hk' with rfl | rfl | rfl | rfl | rfl | rfl | rfl | rfl | rfl | rfl | rfl | rfl
  all_goals
    go_enter Tryz.func44, Tryz.ntmps44
    go_wp2_with fail
    go_ret
    exact ⟨rfl, HB.out⟩
end
end Go.Proofs.YtenbgpcdoljkgaaGreatDoor

/- Equality of rules and of moves, where the contents are the same. -/
namespace Go.Proofs.YtenbgpcdoljkgaaGreatDoor
open Go Go.RowKit

theorem rcells_get (ns : List NdV) (k i : Nat) (hi : i < 8) : (rcells ns)[k * 8 + i]? = (ns[k]?).bind fun x => x.cells[i]? := by
  induction ns generalizing k with
  | nil => simp [rcells]
  | cons x r ih =>
    rw [show rcells (x :: r) = x.cells ++ rcells r by simp [rcells]]
    cases k with
    | zero => rw [List.getElem?_append_left (by rw [x.len]; omega)]; simp
    | succ k => rw [List.getElem?_append_right (by rw [x.len]; omega), x.len, show (k + 1) * 8 + i - 8 = k * 8 + i by omega, ih k]; simp
theorem mvs_get (ms : List Mv) (k i : Nat) (hi : i < 5) : (mvsCells ms)[k * 5 + i]? = (ms[k]?).bind fun x => (mvCells x).toList[i]? := by
  induction ms generalizing k with
  | nil => simp [mvsCells]
  | cons x r ih =>
    have hl : (mvCells x).toList.length = 5 := rfl
    rw [show mvsCells (x :: r) = (mvCells x).toList ++ mvsCells r by simp [mvsCells]]
    cases k with
    | zero => rw [List.getElem?_append_left (by rw [hl]; omega)]; simp
    | succ k => rw [List.getElem?_append_right (by rw [hl]; omega), hl, show (k + 1) * 5 + i - 5 = k * 5 + i by omega, ih k]; simp
/-- A rule as it may be read. -/
def RulesAt (w : World) (B : Nat) (A : Option Addr) (ns : List NdV) : Prop :=
  ns.length = 0 ∨ ∃ b, A = some ⟨b, 0, none⟩ ∧ b < B ∧ ∀ k x, ns[k]? = some x → w.rangeAt b (k * 8) x.cells ∧ IntsAt w B x.A x.d.list ∧ x.d.list.length ≤ 140737488355328
def MovesAt (w : World) (B : Nat) (A : Option Addr) (ms : List Mv) : Prop :=
  ms.length = 0 ∨ ∃ b, A = some ⟨b, 0, none⟩ ∧ b < B ∧ ∀ k x, ms[k]? = some x → w.rangeAt b (k * 5) (mvCells x).toList
theorem rangeAt_keep {w w' : World} {B b o : Nat} {cs : List Value} (h : w.rangeAt b o cs) (hb : Below B w w') (hB : b < B) : w'.rangeAt b o cs := fun j v hv => (World.cell?_of_block (a := ⟨b, o + j, none⟩) (hb.block b hB)).trans (h j v hv)
theorem RulesAt.keep {w w' : World} {B : Nat} {A : Option Addr} {ns : List NdV} (h : RulesAt w B A ns) (hb : Below B w w') : RulesAt w' B A ns := by
  rcases h with h | ⟨b, h1, h2, h3⟩
  · exact .inl h
  · exact .inr ⟨b, h1, h2, fun k x hx => ⟨rangeAt_keep (h3 k x hx).1 hb h2, (h3 k x hx).2.1.keep hb, (h3 k x hx).2.2⟩⟩
theorem RulesAt.more {w : World} {B B' : Nat} {A : Option Addr} {ns : List NdV} (h : RulesAt w B A ns) (hB : B ≤ B') : RulesAt w B' A ns := by
  rcases h with h | ⟨b, h1, h2, h3⟩
  · exact .inl h
  · exact .inr ⟨b, h1, by omega, fun k x hx => ⟨(h3 k x hx).1, (h3 k x hx).2.1.more hB, (h3 k x hx).2.2⟩⟩
theorem MovesAt.keep {w w' : World} {B : Nat} {A : Option Addr} {ns : List Mv} (h : MovesAt w B A ns) (hb : Below B w w') : MovesAt w' B A ns := by
  rcases h with h | ⟨b, h1, h2, h3⟩
  · exact .inl h
  · exact .inr ⟨b, h1, h2, fun k x hx => rangeAt_keep (h3 k x hx) hb h2⟩
theorem MovesAt.more {w : World} {B B' : Nat} {A : Option Addr} {ns : List Mv} (h : MovesAt w B A ns) (hB : B ≤ B') : MovesAt w B' A ns := by
  rcases h with h | ⟨b, h1, h2, h3⟩
  · exact .inl h
  · exact .inr ⟨b, h1, by omega, h3⟩
theorem below_drew' {w w' : World} (h : Below w.drew.heap.size w.drew w') : Below w.heap.size w w' := ⟨h.os, h.tape, h.output, h.size, h.block⟩
/-- The k-th nodes of two rules with the same contents, as they lie. -/
structure TwoNd (wr : World) (b1 b2 k : Nat) (d : Nd) (A B : Option Addr) (c e : Nat) : Prop where
  ra : wr.rangeAt b1 (k * 8) (ndCells d A c).toList
  rb : wr.rangeAt b2 (k * 8) (ndCells d B e).toList
  ia : IntsAt wr wr.heap.size A d.list
  ib : IntsAt wr wr.heap.size B d.list
  len : d.list.length ≤ 140737488355328
  la : b1 < wr.heap.size
  lb : b2 < wr.heap.size
theorem two_nd {w wr : World} {A B : Option Addr} {ns ms : List NdV} {n k : Nat} (hd : ns.map (·.d) = ms.map (·.d)) (hA : RulesAt w w.heap.size A ns) (hB : RulesAt w w.heap.size B ms) (hl : ns.length = n) (hm : ms.length = n) (hb : Below w.heap.size w wr) (hk : k < n) :
    ∃ b1 b2 d A' B' c e, A = some ⟨b1, 0, none⟩ ∧ B = some ⟨b2, 0, none⟩ ∧ TwoNd wr b1 b2 k d A' B' c e := by
  rcases (hA.keep hb) with h | ⟨b1, h1, h2, h3⟩
  · omega
  rcases (hB.keep hb) with h | ⟨b2, g1, g2, g3⟩
  · omega
  have hx : ns[k]? = some ns[k] := List.getElem?_eq_getElem (by omega)
  have hy : ms[k]? = some ms[k] := List.getElem?_eq_getElem (by omega)
  have hxy : (ns[k]).d = (ms[k]).d := by
    have := congrArg (fun l => l[k]?) hd
    simp only [List.getElem?_map, hx, hy, Option.map_some] at this
    exact Option.some.inj this
  obtain ⟨p1, p2, p3⟩ := h3 k _ hx
  obtain ⟨q1, q2, q3⟩ := g3 k _ hy
  refine ⟨b1, b2, (ns[k]).d, (ns[k]).A, (ms[k]).A, (ns[k]).c, (ms[k]).c, h1, g1, ⟨p1, ?_, p2.more hb.size, ?_, p3, Nat.lt_of_lt_of_le h2 hb.size, Nat.lt_of_lt_of_le g2 hb.size⟩⟩
  · rw [hxy]; exact q1
  · rw [hxy]; exact q2.more hb.size
set_option maxRecDepth 10000 in
set_option maxHeartbeats 2000000 in
theorem refRule_eq (A B : Option Addr) (c e : Nat) (ns ms : List NdV) (w : World) (hd : ns.map (·.d) = ms.map (·.d)) (hA : RulesAt w w.heap.size A ns) (hB : RulesAt w w.heap.size B ms) (hn : ns.length ≤ 1000000) (n : Nat) (hl : ns.length = n) :
    Calls Tryz.prog 74 #[.slice A n c, .slice B n e] w (Gives (.bool true) w) := by
  have hm : ms.length = n := by rw [← hl]; have := congrArg List.length hd; simpa using this.symm
  have h8 := ints_same n
  have HD := Lib.hid hd
  have HA := Lib.hid hA
  have HB := Lib.hid hB
  have HL := Lib.hid hl
  have HM := Lib.hid hm
  rw [hl] at hn
  clear hd hA hB hl hm
  go_enter Tryz.func74, Tryz.ntmps74
  go_wp2_with fail
  go_loopw [5] (fun i wr => ∃ k : Nat, k ≤ n ∧ i = I k ∧ Below w.heap.size w wr) (fun i _ => n - (intOf i).toNat)
  case atStart => exact ⟨0, Nat.zero_le _, rfl, Below.refl _ _⟩
  case round =>
    obtain ⟨k, hk, rfl, hbe⟩ := hrel
    have HBE := Lib.hid hbe
    clear hbe
    by_cases hlt : k < n
    · have i0 : (0 : Int) ≤ (k : Int) := by omega
      have i1 : (k : Int) < (n : Int) := by omega
      obtain ⟨b1, b2, d, A', B', c', e', rfl, rfl, htw⟩ := two_nd HD.out HA.out HB.out HL.out HM.out HBE.out hlt
      have HTW := Lib.hid htw
      have f0 : wr.cell? ⟨b1, k * 8, none⟩ = some (I d.kind) := htw.ra 0 _ rfl
      have g0 : wr.cell? ⟨b2, k * 8, none⟩ = some (I d.kind) := htw.rb 0 _ rfl
      have f1 : wr.cell? ⟨b1, k * 8 + 1, none⟩ = some (I d.cal) := htw.ra 1 _ rfl
      have g1 : wr.cell? ⟨b2, k * 8 + 1, none⟩ = some (I d.cal) := htw.rb 1 _ rfl
      have f2 : wr.cell? ⟨b1, k * 8 + 2, none⟩ = some (I d.l) := htw.ra 2 _ rfl
      have g2 : wr.cell? ⟨b2, k * 8 + 2, none⟩ = some (I d.l) := htw.rb 2 _ rfl
      have f3 : wr.cell? ⟨b1, k * 8 + 3, none⟩ = some (I d.r) := htw.ra 3 _ rfl
      have g3 : wr.cell? ⟨b2, k * 8 + 3, none⟩ = some (I d.r) := htw.rb 3 _ rfl
      have f4 : wr.cell? ⟨b1, k * 8 + 4, none⟩ = some (I d.n) := htw.ra 4 _ rfl
      have g4 : wr.cell? ⟨b2, k * 8 + 4, none⟩ = some (I d.n) := htw.rb 4 _ rfl
      have f5 : wr.cell? ⟨b1, k * 8 + 5, none⟩ = some (I d.m) := htw.ra 5 _ rfl
      have g5 : wr.cell? ⟨b2, k * 8 + 5, none⟩ = some (I d.m) := htw.rb 5 _ rfl
      have f6 : wr.cell? ⟨b1, k * 8 + 6, none⟩ = some (.slice A' d.list.length c') := htw.ra 6 _ rfl
      have g6 : wr.cell? ⟨b2, k * 8 + 6, none⟩ = some (.slice B' d.list.length e') := htw.rb 6 _ rfl
      have f7 : wr.cell? ⟨b1, k * 8 + 7, none⟩ = some (.string d.name) := htw.ra 7 _ rfl
      have g7 : wr.cell? ⟨b2, k * 8 + 7, none⟩ = some (.string d.name) := htw.rb 7 _ rfl
      clear htw
      have HC : Hid (Calls Tryz.prog 106 #[.agg (ndCells d A' c'), .agg (ndCells d B' e')] wr.drew (Gives (.bool true) wr.drew)) := Lib.hid (refNode_eq d A' B' c' e' wr.drew HTW.out.ia HTW.out.ib HTW.out.len)
      go_wp2_with fail
      go_region_law (go_simp; go_at_call 106; refine HC.out.mono ?_; rintro v w5 ⟨rfl, hb5⟩; have HB5 : Hid (Below wr.heap.size wr w5) := Lib.hid (below_drew' hb5); clear hb5)
      all_goals
        go_wp2_with fail
        go_roundw
        case rel => exact ⟨k + 1, by omega, by go_num, below_trans HBE.out HB5.out⟩
        case measure => simp [intOf]; omega
    · go_wp2_with fail
      go_ret
      exact ⟨rfl, HBE.out⟩
set_option maxRecDepth 10000 in
set_option maxHeartbeats 2000000 in
theorem eqRule_eq (A B : Option Addr) (c e : Nat) (ns ms : List NdV) (w : World) (hd : ns.map (·.d) = ms.map (·.d)) (hA : RulesAt w w.heap.size A ns) (hB : RulesAt w w.heap.size B ms) (hn : ns.length ≤ 1000000) (n : Nat) (hl : ns.length = n) :
    Calls Tryz.prog 39 #[.slice A n c, .slice B n e, .func (.func 40) #[] #[]] w (Gives (.bool true) w) := by
  have hm : ms.length = n := by rw [← hl]; have := congrArg List.length hd; simpa using this.symm
  have h8 := ints_same n
  have HD := Lib.hid hd
  have HA := Lib.hid hA
  have HB := Lib.hid hB
  have HL := Lib.hid hl
  have HM := Lib.hid hm
  rw [hl] at hn
  clear hd hA hB hl hm
  go_enter Tryz.func39, Tryz.ntmps39
  go_wp2_with fail
  go_loopw [17] (fun i wr => ∃ k : Nat, k ≤ n ∧ i = I k ∧ Below w.heap.size w wr) (fun i _ => n - (intOf i).toNat)
  case atStart => exact ⟨0, Nat.zero_le _, rfl, Below.refl _ _⟩
  case round =>
    obtain ⟨k, hk, rfl, hbe⟩ := hrel
    have HBE := Lib.hid hbe
    clear hbe
    by_cases hlt : k < n
    · have i0 : (0 : Int) ≤ (k : Int) := by omega
      have i1 : (k : Int) < (n : Int) := by omega
      obtain ⟨b1, b2, d, A', B', c', e', rfl, rfl, htw⟩ := two_nd HD.out HA.out HB.out HL.out HM.out HBE.out hlt
      have HTW := Lib.hid htw
      have f0 : wr.cell? ⟨b1, k * 8, none⟩ = some (I d.kind) := htw.ra 0 _ rfl
      have g0 : wr.cell? ⟨b2, k * 8, none⟩ = some (I d.kind) := htw.rb 0 _ rfl
      have f1 : wr.cell? ⟨b1, k * 8 + 1, none⟩ = some (I d.cal) := htw.ra 1 _ rfl
      have g1 : wr.cell? ⟨b2, k * 8 + 1, none⟩ = some (I d.cal) := htw.rb 1 _ rfl
      have f2 : wr.cell? ⟨b1, k * 8 + 2, none⟩ = some (I d.l) := htw.ra 2 _ rfl
      have g2 : wr.cell? ⟨b2, k * 8 + 2, none⟩ = some (I d.l) := htw.rb 2 _ rfl
      have f3 : wr.cell? ⟨b1, k * 8 + 3, none⟩ = some (I d.r) := htw.ra 3 _ rfl
      have g3 : wr.cell? ⟨b2, k * 8 + 3, none⟩ = some (I d.r) := htw.rb 3 _ rfl
      have f4 : wr.cell? ⟨b1, k * 8 + 4, none⟩ = some (I d.n) := htw.ra 4 _ rfl
      have g4 : wr.cell? ⟨b2, k * 8 + 4, none⟩ = some (I d.n) := htw.rb 4 _ rfl
      have f5 : wr.cell? ⟨b1, k * 8 + 5, none⟩ = some (I d.m) := htw.ra 5 _ rfl
      have g5 : wr.cell? ⟨b2, k * 8 + 5, none⟩ = some (I d.m) := htw.rb 5 _ rfl
      have f6 : wr.cell? ⟨b1, k * 8 + 6, none⟩ = some (.slice A' d.list.length c') := htw.ra 6 _ rfl
      have g6 : wr.cell? ⟨b2, k * 8 + 6, none⟩ = some (.slice B' d.list.length e') := htw.rb 6 _ rfl
      have f7 : wr.cell? ⟨b1, k * 8 + 7, none⟩ = some (.string d.name) := htw.ra 7 _ rfl
      have g7 : wr.cell? ⟨b2, k * 8 + 7, none⟩ = some (.string d.name) := htw.rb 7 _ rfl
      have hl1 := htw.la
      have hl2 := htw.lb
      have hne1 : ¬ b1 = wr.heap.size := by omega
      have hne2 : ¬ b2 = wr.heap.size := by omega
      clear htw
      have HB2 := Lib.hid (below_trans (below_var wr (.cells (ndCells d A' c') 85)) (below_var _ (.cells (ndCells d B' e') 85)))
      go_wp2_with fail
      refine (sameNode_eq d A' B' c' e' _ ((HTW.out.ia.keep HB2.out).more HB2.out.size) ((HTW.out.ib.keep HB2.out).more HB2.out.size) HTW.out.len).mono ?_
      rintro v w5 ⟨rfl, hb5⟩
      have HB5 := Lib.hid (below_trans HB2.out hb5)
      clear hb5
      go_wp2_with fail
      go_roundw
      case rel => exact ⟨k + 1, by omega, by go_num, below_trans HBE.out HB5.out⟩
      case measure => simp [intOf]; omega
    · go_wp2_with fail
      go_ret
      exact ⟨rfl, HBE.out⟩
end Go.Proofs.YtenbgpcdoljkgaaGreatDoor

/- Equality of lists of moves and of series, where the contents are the same. -/
namespace Go.Proofs.YtenbgpcdoljkgaaGreatDoor
open Go Go.RowKit

theorem mv_at {w wr : World} {A B : Option Addr} {ms : List Mv} {n k : Nat} (hA : MovesAt w w.heap.size A ms) (hB : MovesAt w w.heap.size B ms) (hl : ms.length = n) (hb : Below w.heap.size w wr) (hk : k < n) :
    ∃ b1 b2 m, A = some ⟨b1, 0, none⟩ ∧ B = some ⟨b2, 0, none⟩ ∧ b1 < wr.heap.size ∧ b2 < wr.heap.size ∧ wr.rangeAt b1 (k * 5) (mvCells m).toList ∧ wr.rangeAt b2 (k * 5) (mvCells m).toList := by
  rcases (hA.keep hb) with h | ⟨b1, h1, h2, h3⟩
  · omega
  rcases (hB.keep hb) with h | ⟨b2, g1, g2, g3⟩
  · omega
  have hx : ms[k]? = some ms[k] := List.getElem?_eq_getElem (by omega)
  exact ⟨b1, b2, ms[k], h1, g1, Nat.lt_of_lt_of_le h2 hb.size, Nat.lt_of_lt_of_le g2 hb.size, h3 k _ hx, g3 k _ hx⟩
theorem neq_mv_same (m : Mv) (W : World) : (binOp .neq 25 (.agg #[I m.day, .bool m.drop, I m.toDay, I m.minute, I m.length]) (.agg #[I m.day, .bool m.drop, I m.toDay, I m.minute, I m.length])).run Tryz.prog W = .ok (.bool false) W := by
  simp [go_sem]
attribute [local go_sem] neq_mv_same seC
set_option maxRecDepth 10000 in
set_option maxHeartbeats 2000000 in
theorem eqMoves_eq (A B : Option Addr) (c e : Nat) (ms : List Mv) (w : World) (hA : MovesAt w w.heap.size A ms) (hB : MovesAt w w.heap.size B ms) (hn : ms.length ≤ 1000000) (n : Nat) (hl : ms.length = n) :
    Calls Tryz.prog 38 #[.slice A n c, .slice B n e] w (Gives (.bool true) w) := by
  have h8 := ints_same n
  have HA := Lib.hid hA
  have HB := Lib.hid hB
  have HL := Lib.hid hl
  rw [hl] at hn
  clear hA hB hl
  go_enter Tryz.func38, Tryz.ntmps38
  go_wp2_with fail
  go_loopw [13] (fun i wr => ∃ k : Nat, k ≤ n ∧ i = I k ∧ Below w.heap.size w wr) (fun i _ => n - (intOf i).toNat)
  case atStart => exact ⟨0, Nat.zero_le _, rfl, Below.refl _ _⟩
  case round =>
    obtain ⟨k, hk, rfl, hbe⟩ := hrel
    have HBE := Lib.hid hbe
    by_cases hlt : k < n
    · have i0 : (0 : Int) ≤ (k : Int) := by omega
      have i1 : (k : Int) < (n : Int) := by omega
      obtain ⟨b1, b2, m, rfl, rfl, hl1, hl2, hr1, hr2⟩ := mv_at HA.out HB.out HL.out hbe hlt
      have f0 : wr.cell? ⟨b1, k * 5, none⟩ = some (I m.day) := hr1 0 _ rfl
      have g0 : wr.cell? ⟨b2, k * 5, none⟩ = some (I m.day) := hr2 0 _ rfl
      have f1 : wr.cell? ⟨b1, k * 5 + 1, none⟩ = some (.bool m.drop) := hr1 1 _ rfl
      have g1 : wr.cell? ⟨b2, k * 5 + 1, none⟩ = some (.bool m.drop) := hr2 1 _ rfl
      have f2 : wr.cell? ⟨b1, k * 5 + 2, none⟩ = some (I m.toDay) := hr1 2 _ rfl
      have g2 : wr.cell? ⟨b2, k * 5 + 2, none⟩ = some (I m.toDay) := hr2 2 _ rfl
      have f3 : wr.cell? ⟨b1, k * 5 + 3, none⟩ = some (I m.minute) := hr1 3 _ rfl
      have g3 : wr.cell? ⟨b2, k * 5 + 3, none⟩ = some (I m.minute) := hr2 3 _ rfl
      have f4 : wr.cell? ⟨b1, k * 5 + 4, none⟩ = some (I m.length) := hr1 4 _ rfl
      have g4 : wr.cell? ⟨b2, k * 5 + 4, none⟩ = some (I m.length) := hr2 4 _ rfl
      clear hr1 hr2 hbe
      go_wp2_with fail
      go_quiet (fail)
      go_wp2_with fail
      go_roundw
      case rel => exact ⟨k + 1, by omega, by go_num, below_trans HBE.out (below_drewN' _ _)⟩
      case measure => simp [intOf]; omega
    · go_wp2_with fail
      go_ret
      exact ⟨rfl, HBE.out⟩
set_option maxRecDepth 10000 in
set_option maxHeartbeats 2000000 in
theorem refSeries_eq (s : Ser) (A A' B B' : Option Addr) (c c' e e' : Nat) (ns ns' : List NdV) (w : World) (hs : s.rule = ns.map (·.d)) (hs' : s.rule = ns'.map (·.d)) (hA : RulesAt w w.heap.size A ns) (hA' : RulesAt w w.heap.size A' ns') (hB : MovesAt w w.heap.size B s.moves) (hB' : MovesAt w w.heap.size B' s.moves) (hn : s.rule.length ≤ 1000000) (hm : s.moves.length ≤ 1000000) :
    Calls Tryz.prog 46 #[.agg (seC s A B c e), .agg (seC s A' B' c' e')] w (Gives (.bool true) w) := by
  have h8 := ints_same s.moves.length
  have h1 := ints_same s.minute
  have h2 := ints_same s.length
  have h3 := ints_same s.gap
  have h4 := ints_same s.fold
  have HR := Lib.hid (fun w' (hb : Below w.heap.size w w') => refRule_eq A A' c c' ns ns' w' (hs.symm.trans hs') ((hA.keep hb).more hb.size) ((hA'.keep hb).more hb.size) (by rw [hs, List.length_map] at hn; exact hn) s.rule.length (by rw [hs, List.length_map]))
  have HB1 := Lib.hid hB
  have HB2 := Lib.hid hB'
  have HB0 := Lib.hid (below_trans (below_var w (.cells (seC s A B c e) 30)) (below_var _ (.cells (seC s A' B' c' e') 30)))
  clear hs hs' hA hA' hB hB' hn
  go_enter Tryz.func46, Tryz.ntmps46
  go_wp2_with fail
  refine (HR.out _ HB0.out).mono ?_
  rintro v w1 ⟨rfl, hb1⟩
  have HRA : Hid (Row w1 w.heap.size (seC s A B c e)) := Lib.hid (((Row.new w (seC s A B c e) 30).keep (below_var _ (.cells (seC s A' B' c' e') 30))).keep hb1)
  have HRB : Hid (Row w1 (w.heap.size + 1) (seC s A' B' c' e')) := Lib.hid (by have := (Row.new (w.alloc (.cells (seC s A B c e) 30)) (seC s A' B' c' e') 30).keep hb1; rwa [World.size_alloc] at this)
  have HBW := Lib.hid (below_trans HB0.out hb1)
  clear hb1 HR HB0
  go_wp2_with fail
  go_loopw [5] (fun i wr => ∃ k : Nat, k ≤ s.moves.length ∧ i = I k ∧ ∃ q, wr = w1.drewN q) (fun i _ => s.moves.length - (intOf i).toNat)
  case atStart => exact ⟨0, Nat.zero_le _, rfl, 0, rfl⟩
  case round =>
    obtain ⟨k, hk, rfl, q, rfl⟩ := hrel
    have hc1 : w1.cell? ⟨w.heap.size, 6, none⟩ = some (.slice B s.moves.length e) := HRA.out.2 6
    have hc2 : w1.cell? ⟨w.heap.size + 1, 6, none⟩ = some (.slice B' s.moves.length e') := HRB.out.2 6
    by_cases hlt : k < s.moves.length
    · have i0 : (0 : Int) ≤ (k : Int) := by omega
      have i1 : (k : Int) < (s.moves.length : Int) := by omega
      obtain ⟨b1, b2, mv, rfl, rfl, hl1, hl2, hr1, hr2⟩ := mv_at HB1.out HB2.out rfl HBW.out hlt
      have f0 : w1.cell? ⟨b1, k * 5, none⟩ = some (I mv.day) := hr1 0 _ rfl
      have g0 : w1.cell? ⟨b2, k * 5, none⟩ = some (I mv.day) := hr2 0 _ rfl
      have f1 : w1.cell? ⟨b1, k * 5 + 1, none⟩ = some (.bool mv.drop) := hr1 1 _ rfl
      have g1 : w1.cell? ⟨b2, k * 5 + 1, none⟩ = some (.bool mv.drop) := hr2 1 _ rfl
      have f2 : w1.cell? ⟨b1, k * 5 + 2, none⟩ = some (I mv.toDay) := hr1 2 _ rfl
      have g2 : w1.cell? ⟨b2, k * 5 + 2, none⟩ = some (I mv.toDay) := hr2 2 _ rfl
      have f3 : w1.cell? ⟨b1, k * 5 + 3, none⟩ = some (I mv.minute) := hr1 3 _ rfl
      have g3 : w1.cell? ⟨b2, k * 5 + 3, none⟩ = some (I mv.minute) := hr2 3 _ rfl
      have f4 : w1.cell? ⟨b1, k * 5 + 4, none⟩ = some (I mv.length) := hr1 4 _ rfl
      have g4 : w1.cell? ⟨b2, k * 5 + 4, none⟩ = some (I mv.length) := hr2 4 _ rfl
      clear hr1 hr2
      go_wp2_with fail
      go_quiet (fail)
      go_wp2_with fail
      go_roundw
      case rel => exact ⟨k + 1, by omega, by go_num, _, rfl⟩
      case measure => simp [intOf]; omega
    · go_wp2_with fail
      go_ret
      exact ⟨rfl, below_trans HBW.out (below_drewN' _ _)⟩
end Go.Proofs.YtenbgpcdoljkgaaGreatDoor

/- What a letter that was made is, in plain words: its head, its lengths, the numbers that its kind does not use. -/
namespace Go.Proofs.YtenbgpcdoljkgaaGreatDoor
open Go Go.RowKit

theorem MRule.lists {cals : Int} {ns : List NdV} (h : MRule cals ns) : ∀ x ∈ ns, x.d.list.length ≤ 4 := by
  induction h with
  | leaf x h =>
    intro y hy
    rw [List.mem_singleton.1 hy]
    obtain ⟨_, h⟩ := h
    rcases h with h | h | h | h | h | h | h | h
    · rw [h.2.2.2.2.2.2.2.1]; simp
    · rw [h.2.2.2.2.2.2.2.2.1]; simp
    · exact h.2.2.2.2.2.2.1.2.1
    · exact h.2.2.2.2.2.2.1.2.1
    · exact h.2.2.2.2.2.1.2.1
    · exact h.2.2.2.2.2.2.1.2.1
    · rw [h.2.2.2.2.2.2.2.2.1]; simp
    · rw [h.2.2.2.2.2.1]; simp
  | one ns x _ h ih =>
    intro y hy
    rcases List.mem_append.1 hy with hy | hy
    · exact ih y hy
    · rw [List.mem_singleton.1 hy]
      show x.d.list.length ≤ 4
      rcases h.2.2 with h | h | h | h
      · rw [h.2.2.2.2.2]; simp
      · rw [h.2.2.2.2.2]; simp
      · exact h.2.2.2.2.2.1
      · exact h.2.2.2.2.2.2.2.1
  | two ns ms x _ _ h ih1 ih2 =>
    intro y hy
    rcases List.mem_append.1 hy with hy | hy
    · rcases List.mem_append.1 hy with hy | hy
      · exact ih1 y hy
      · obtain ⟨z, hz, rfl⟩ := List.mem_map.1 hy
        exact ih2 z hz
    · rw [List.mem_singleton.1 hy]
      show x.d.list.length ≤ 4
      rw [h.2.2.1]; simp
theorem numF_ne (l : Lt) (x : Int) (f k : Nat) (hk : k < 17) (h : f ≠ k) : numF (setNum l f x) k = numF l k :=
  all17 (p := fun k => f ≠ k → numF (setNum l f x) k = numF l k) (by
    refine ⟨?_, ?_, ?_, ?_, ?_, ?_, ?_, ?_, ?_, ?_, ?_, ?_, ?_, ?_, ?_, ?_, ?_⟩ <;> (intro h; unfold setNum; split <;> first | rfl | exact absurd rfl h)) k hk h
theorem numF_same (l : Lt) (x : Int) (k : Nat) (hk : k < 17) (h : (numOff k).isSome = true) : numF (setNum l k x) k = x :=
  all17 (p := fun k => (numOff k).isSome = true → numF (setNum l k x) k = x) (by
    refine ⟨?_, ?_, ?_, ?_, ?_, ?_, ?_, ?_, ?_, ?_, ?_, ?_, ?_, ?_, ?_, ?_, ?_⟩ <;> (intro h; first | rfl | cases h)) k hk h
theorem setNum_none (l : Lt) (x : Int) (k : Nat) (hk : k < 17) (h : numOff k = none) : setNum l k x = l :=
  all17 (p := fun k => numOff k = none → setNum l k x = l) (by
    refine ⟨?_, ?_, ?_, ?_, ?_, ?_, ?_, ?_, ?_, ?_, ?_, ?_, ?_, ?_, ?_, ?_, ?_⟩ <;> (intro h; first | rfl | cases h)) k hk h
theorem setNum_src (l : Lt) (k : Nat) (x : Int) : (setNum l k x).src = l.src := by unfold setNum; split <;> rfl
theorem setNum_dst (l : Lt) (k : Nat) (x : Int) : (setNum l k x).dst = l.dst := by unfold setNum; split <;> rfl
theorem setNum_move (l : Lt) (k : Nat) (x : Int) : (setNum l k x).move = l.move := by unfold setNum; split <;> rfl
theorem setNum_wfrom (l : Lt) (k : Nat) (x : Int) : (setNum l k x).wfrom = l.wfrom := by unfold setNum; split <;> rfl
theorem setNum_wto (l : Lt) (k : Nat) (x : Int) : (setNum l k x).wto = l.wto := by unfold setNum; split <;> rfl
theorem MadeF.numF {l l' : Lt} {ns ns' : List NdV} {f : Nat} (h : MadeF l ns f l' ns') (k : Nat) (hk : k < 17) (hf : f ≠ k) : numF l' k = numF l k := by
  rcases h with ⟨_, x, _, _, _, rfl, _⟩ | ⟨_, _, ⟨_, m, rfl, _⟩ | ⟨_, _, rfl⟩⟩ | ⟨_, ⟨_, se, rfl, _⟩ | ⟨_, _, rfl, _⟩⟩ | ⟨_, _, a, b, _, _, _, rfl⟩ | ⟨_, _, zs, rfl, _⟩ | ⟨_, _, r, _, rfl⟩
  · exact numF_ne l x f k hk hf
  all_goals rfl
theorem MadeTo.unused {bare : Bool} {l0 l : Lt} {j : Nat} {ns : List NdV} (h : MadeTo bare l0 j l ns) (k : Nat) (hk : k < 17) (hu : usesB l0.kind k = false) : numF l k = numF l0 k := by
  induction h with
  | zero => rfl
  | skip _ _ ih => exact ih
  | @step j l l' ns ns' _ hs hf ih =>
    refine (hf.numF k hk ?_).trans ih
    rintro rfl
    unfold skipB at hs
    rw [hu] at hs
    cases hs
theorem start_numF (k f t : Int) (i : Nat) (hi : i < 17) : numF (startLt k f t) i = 0 :=
  all17 (p := fun i => numF (startLt k f t) i = 0) (by refine ⟨?_, ?_, ?_, ?_, ?_, ?_, ?_, ?_, ?_, ?_, ?_, ?_, ?_, ?_, ?_, ?_, ?_⟩ <;> rfl) i hi
theorem adjust_unused (l : Lt) (k : Nat) (hk : k < 17) (hu : usesB l.kind k = false) : numF (adjust l) k = numF l k := by
  unfold adjust
  split
  · rename_i h
    rw [h.1] at hu
    have : k ≠ 8 := by rintro rfl; revert hu; decide
    exact numF_ne l 0 8 k hk (fun e => this e.symm)
  · split
    · rename_i h
      rw [h.1] at hu
      have : k ≠ 5 := by rintro rfl; revert hu; decide
      exact numF_ne l (l.other + 1) 5 k hk (fun e => this e.symm)
    · rfl
theorem adjust_kind (l : Lt) : (adjust l).kind = l.kind := by unfold adjust; split <;> (try split) <;> rfl
theorem adjust_src (l : Lt) : (adjust l).src = l.src := by unfold adjust; split <;> (try split) <;> rfl
theorem adjust_dst (l : Lt) : (adjust l).dst = l.dst := by unfold adjust; split <;> (try split) <;> rfl
theorem adjust_series (l : Lt) : (adjust l).series = l.series := by unfold adjust; split <;> (try split) <;> rfl
theorem adjust_cells (l : Lt) : (adjust l).cells = l.cells := by unfold adjust; split <;> (try split) <;> rfl
/-- What every letter under way keeps. -/
structure Inv (l0 l : Lt) (ns : List NdV) : Prop where
  kind : l.kind = l0.kind
  src : l.src = l0.src
  dst : l.dst = l0.dst
  ser : (l.series = zSer ∧ ns = []) ∨ SerOK ns l.series
  cells : l.cells = [] ∨ CellsOK l.cells
theorem MadeF.inv {l0 l l' : Lt} {ns ns' : List NdV} {f : Nat} (h : MadeF l ns f l' ns') (i : Inv l0 l ns) : Inv l0 l' ns' := by
  rcases h with ⟨_, x, _, _, _, rfl, rfl⟩ | ⟨_, rfl, ⟨_, m, rfl, _⟩ | ⟨_, _, rfl⟩⟩ | ⟨_, ⟨_, se, rfl, h⟩ | ⟨_, _, rfl, rfl⟩⟩ | ⟨_, rfl, a, b, _, _, _, rfl⟩ | ⟨_, rfl, zs, rfl, h⟩ | ⟨_, rfl, r, _, rfl⟩
  · exact ⟨by rw [setNum_kind]; exact i.kind, by rw [setNum_src]; exact i.src, by rw [setNum_dst]; exact i.dst, by rw [setNum_series]; exact i.ser, by rw [setNum_cellsL]; exact i.cells⟩
  · exact ⟨i.kind, i.src, i.dst, i.ser, i.cells⟩
  · exact i
  · exact ⟨i.kind, i.src, i.dst, .inr h, i.cells⟩
  · exact i
  · exact ⟨i.kind, i.src, i.dst, i.ser, i.cells⟩
  · exact ⟨i.kind, i.src, i.dst, i.ser, .inr h⟩
  · exact ⟨i.kind, i.src, i.dst, i.ser, i.cells⟩
theorem MadeTo.inv {bare : Bool} {l0 l : Lt} {j : Nat} {ns : List NdV} (h : MadeTo bare l0 j l ns) (h0 : Inv l0 l0 []) : Inv l0 l ns := by
  induction h with
  | zero => exact h0
  | skip _ _ ih => exact ih
  | step _ _ hf ih => exact hf.inv ih
theorem MadeLt.inv {l : Lt} {ns : List NdV} (h : MadeLt l ns) : ∃ k f t, 1 ≤ k ∧ k ≤ 18 ∧ 0 ≤ f ∧ f ≤ 15 ∧ 0 ≤ t ∧ t ≤ 15 ∧ f ≠ t ∧ Inv (startLt k f t) l ns ∧ ∀ i : Nat, i < 17 → usesB k i = false → numF l i = 0 := by
  obtain ⟨bare, k, f, t, l1, h1, h2, h3, h4, h5, h6, h7, _, hm, rfl⟩ := h.made
  have i := hm.inv ⟨rfl, rfl, rfl, .inl ⟨rfl, rfl⟩, .inl rfl⟩
  refine ⟨k, f, t, h1, h2, h3, h4, h5, h6, h7, ⟨by rw [adjust_kind]; exact i.kind, by rw [adjust_src]; exact i.src, by rw [adjust_dst]; exact i.dst, by rw [adjust_series]; exact i.ser, by rw [adjust_cells]; exact i.cells⟩, fun j hj hu => ?_⟩
  have hk : l1.kind = k := i.kind
  rw [adjust_unused l1 j hj (by rw [hk]; exact hu), hm.unused j hj hu, start_numF k f t j hj]
theorem MadeLt.unused {l : Lt} {ns : List NdV} (h : MadeLt l ns) (i : Nat) (hi : i < 17) (hu : usesB l.kind i = false) : numF l i = 0 := by
  obtain ⟨k, f, t, _, _, _, _, _, _, _, hv, hz⟩ := h.inv
  exact hz i hi (by rw [hv.kind] at hu; exact hu)
theorem MadeLt.kinds {l : Lt} {ns : List NdV} (h : MadeLt l ns) : 1 ≤ l.kind ∧ l.kind ≤ 18 := by
  obtain ⟨k, f, t, h1, h2, _, _, _, _, _, hv, _⟩ := h.inv
  have : l.kind = k := hv.kind
  omega
theorem MadeLt.head {l : Lt} {ns : List NdV} (h : MadeLt l ns) : headOK l = true := by
  obtain ⟨k, f, t, h1, h2, h3, h4, h5, h6, h7, hv, _⟩ := h.inv
  have e1 : l.kind = k := hv.kind
  have e2 : l.src = f := hv.src
  have e3 : l.dst = t := hv.dst
  unfold headOK srvIn
  rw [e1, e2, e3]
  simp only [Bool.and_eq_true, decide_eq_true_eq]
  omega
theorem MadeLt.ok {l : Lt} {ns : List NdV} (h : MadeLt l ns) : LtOK l := by
  obtain ⟨k, f, t, _, _, _, _, _, _, _, hv, _⟩ := h.inv
  have hc : l.cells.length ≤ 140737488355328 := by
    rcases hv.cells with h | h
    · rw [h]; simp
    · have := h.len; omega
  rcases hv.ser with ⟨hs, _⟩ | hs
  · exact ⟨by rw [hs]; simp [zSer], by rw [hs]; simp [zSer], by rw [hs]; simp [zSer], h.ref, hc⟩
  · refine ⟨?_, ?_, ?_, h.ref, hc⟩
    · rw [hs.names, List.length_map]; have := hs.len; omega
    · have := hs.mlen; omega
    · rcases hs.zone with h | h | h | h <;> rw [h] <;> decide
theorem MadeLt.lens {l : Lt} {ns : List NdV} (h : MadeLt l ns) : l.series.rule.length ≤ 16 ∧ l.series.moves.length ≤ 2 ∧ l.cells.length ≤ 5 ∧ ∀ x ∈ ns, x.d.list.length ≤ 4 := by
  obtain ⟨k, f, t, _, _, _, _, _, _, _, hv, _⟩ := h.inv
  have hc : l.cells.length ≤ 5 := by
    rcases hv.cells with h | h
    · rw [h]; simp
    · exact h.len
  rcases hv.ser with ⟨hs, hn⟩ | hs
  · exact ⟨by rw [hs]; simp [zSer], by rw [hs]; simp [zSer], hc, by rw [hn]; simp⟩
  · exact ⟨by rw [hs.names, List.length_map]; exact hs.len, hs.mlen, hc, hs.made.lists⟩
theorem LtOK.num {l : Lt} (h : LtOK l) (k : Nat) (x : Int) : LtOK (setNum l k x) := ⟨by rw [setNum_series]; exact h.rule, by rw [setNum_series]; exact h.moves, by rw [setNum_series]; exact h.zone, by rw [setNum_ref]; exact h.ref, by rw [setNum_cellsL]; exact h.cells⟩
theorem head_num (l : Lt) (k : Nat) (x : Int) : headOK (setNum l k x) = headOK l := by unfold headOK; rw [setNum_kind, setNum_src, setNum_dst]
/-- A number that the kind does not use is not zero: the letter is not valid. -/
theorem unused_bad {l : Lt} (k : Nat) (hk : k < 17) (hu : usesB l.kind k = false) (x : Int) (hx : x ≠ 0) (ho : (numOff k).isSome = true) : bodyOK (setNum l k x) = false := by
  unfold bodyOK
  rw [vNums_no hk, Bool.false_and]
  unfold numOK numLow numHigh
  rw [setNum_kind, hu, numF_same l x k hk ho]
  obtain ⟨o, ho⟩ := Option.isSome_iff_exists.1 ho
  rw [ho]
  simp
  omega
theorem numsEq_num (l : Lt) (k : Nat) (hk : k < 17) (x : Int) : numsEq l (setNum l k x) = ((numOff k).isNone || (numF l k == x)) := by
  cases h : (numOff k).isNone || (numF l k == x) with
  | true =>
    apply numsEq_yes
    intro j hj
    by_cases e : j = k
    · subst e
      cases h2 : numOff j with
      | none => rfl
      | some o =>
        rw [h2] at h
        rw [numF_same l x j hj (by rw [h2]; rfl)]
        exact h
    · rw [numF_ne l x k j hj (fun h => e h.symm)]
      simp
  | false =>
    rw [Bool.or_eq_false_iff] at h
    obtain ⟨o, ho⟩ : ∃ o, numOff k = some o := by
      cases h2 : numOff k with
      | none => rw [h2] at h; cases h.1
      | some o => exact ⟨o, rfl⟩
    exact numsEq_no hk ho (by rw [numF_same l x k hk (by rw [ho]; rfl)]; exact h.2)
theorem headEq_num (l : Lt) (k : Nat) (x : Int) : headEq l (setNum l k x) = true := by
  unfold headEq moveEq
  rw [setNum_kind, setNum_src, setNum_dst, setNum_move, setNum_wfrom, setNum_wto, setNum_ref]
  simp
theorem serEq_same (s : Ser) : serEq s s = true := by unfold serEq; simp
/-- The lists, as the laws of equality ask for them. -/
theorem LtMem.rules {lo : Nat} {w : World} {l : Lt} {s : Sl} {ns : List NdV} (h : LtMem lo w l s ns) (hl : ∀ x ∈ ns, x.d.list.length ≤ 4) : RulesAt w w.heap.size s.A ns := by
  by_cases hn : ns = []
  · exact .inl (by rw [hn]; rfl)
  obtain ⟨g, cap, h1, h2, h3, h4⟩ := h.rule.form hn
  injection h1 with h1 _ _
  refine .inr ⟨g, h1, h3, fun k x hx => ⟨fun j v hv => ?_, (h.rule.lists x (List.mem_of_getElem? hx)).ints, by have := hl x (List.mem_of_getElem? hx); omega⟩⟩
  have hj : j < 8 := by have := (List.getElem?_eq_some_iff.1 hv).1; rw [x.len] at this; exact this
  exact h4 _ _ (by rw [rcells_get ns k j hj, hx]; exact hv)
theorem LtMem.mvs {lo : Nat} {w : World} {l : Lt} {s : Sl} {ns : List NdV} (h : LtMem lo w l s ns) : MovesAt w w.heap.size s.B l.series.moves := by
  obtain ⟨h0, ⟨_, h1⟩ | ⟨g, cap, cur, hv, hg, hb, h1, h2, h3, h4⟩⟩ := h.moves
  · exact .inl h1
  injection hv with hv _ _
  refine .inr ⟨g, hv, (Array.getElem?_eq_some_iff.1 hb).1, fun k x hx j v hj => ?_⟩
  have h5 : j < 5 := (List.getElem?_eq_some_iff.1 hj).1
  rw [cell_of_row w g _ _ _ _ hb]
  have h6 : (mvsCells l.series.moves)[k * 5 + j]? = some v := by rw [mvs_get _ k j h5, hx]; exact hj
  rw [← h4, List.getElem?_take] at h6
  split at h6
  · simpa using h6
  · cases h6
theorem LtMem.ints {lo : Nat} {w : World} {l : Lt} {s : Sl} {ns : List NdV} (h : LtMem lo w l s ns) : IntsAt w w.heap.size s.C l.cells := by
  obtain ⟨A, c, h1, h2⟩ := LI.of_owns h.cells
  injection h1 with h1 _ _
  rw [h1]
  exact h2.ints
end Go.Proofs.YtenbgpcdoljkgaaGreatDoor

/- The rule's and the series' small tests: within, numbersOK, listOK, shapes, moveOK (where they answer yes). -/
namespace Go.Proofs.YtenbgpcdoljkgaaGreatDoor
open Go Go.RowKit

set_option maxRecDepth 10000 in
theorem ruWithin_yes (n lo hi : Int) (w : World) (h1 : lo ≤ n) (h2 : n ≤ hi) : Calls Tryz.prog 122 #[I n, I lo, I hi] w fun e w' => e = .returned (.bool true) ∧ w' = w := by
  go_enter Tryz.func122, Tryz.ntmps122
  go_wp2
  go_ret
  exact ⟨rfl, rfl⟩
set_option maxRecDepth 10000 in
theorem seWithin_yes (n lo hi : Int) (w : World) (h1 : lo ≤ n) (h2 : n ≤ hi) : Calls Tryz.prog 89 #[I n, I lo, I hi] w fun e w' => e = .returned (.bool true) ∧ w' = w := by
  go_enter Tryz.func89, Tryz.ntmps89
  go_wp2
  go_ret
  exact ⟨rfl, rfl⟩
/-- The numbers of a node are as its kind requires. -/
def NumsOK (d : Nd) : Prop :=
  (d.kind = 1 ∧ 1 ≤ d.n ∧ d.n ≤ 1099511627776 ∧ 0 ≤ d.m ∧ d.m ≤ 1099511627776) ∨
  (d.kind = 2 ∧ 1 ≤ d.n ∧ d.n ≤ 400 ∧ 0 ≤ d.m ∧ d.m ≤ d.n - 1) ∨
  (d.kind = 7 ∧ -60 ≤ d.n ∧ d.n ≤ 60 ∧ d.n ≠ 0 ∧ 0 ≤ d.m ∧ d.m ≤ 6 ∧ 0 ≤ d.l ∧ d.l ≤ 1) ∨
  (d.kind = 11 ∧ -1099511627776 ≤ d.n ∧ d.n ≤ 1099511627776 ∧ d.m = 0) ∨
  ((d.kind = 12 ∨ d.kind = 13) ∧ 0 ≤ d.n ∧ d.n ≤ 1099511627776 ∧ d.m = 0) ∨
  (d.kind = 16 ∧ d.n = 0 ∧ 0 ≤ d.m ∧ d.m ≤ 1) ∨
  (d.kind = 17 ∧ 1 ≤ d.n ∧ d.n ≤ 400 ∧ d.m = 0) ∨
  (d.kind ≠ 1 ∧ d.kind ≠ 2 ∧ d.kind ≠ 7 ∧ d.kind ≠ 11 ∧ d.kind ≠ 12 ∧ d.kind ≠ 13 ∧ d.kind ≠ 16 ∧ d.kind ≠ 17 ∧ d.n = 0 ∧ d.m = 0)
section
attribute [local go_sem] ndCells
set_option maxRecDepth 10000 in
set_option maxHeartbeats 4000000 in
theorem numbersOK_yes (d : Nd) (A : Option Addr) (c : Nat) (w : World) (h : NumsOK d) : Calls Tryz.prog 125 #[.agg (ndCells d A c)] w (Gives (.bool true) w) := by
  have HB := Lib.hid (below_var w (.cells (ndCells d A c) 85))
  obtain ⟨kind, cal, l, r, n, m, list, name⟩ := d
  unfold NumsOK at h
  simp only at h
  rcases h with ⟨rfl, h1, h2, h3, h4⟩ | ⟨rfl, h1, h2, h3, h4⟩ | ⟨rfl, h1, h2, h3, h4, h5, h6, h7⟩ | ⟨rfl, h1, h2, rfl⟩ | ⟨rfl | rfl, h1, h2, rfl⟩ | ⟨rfl, rfl, h1, h2⟩ | ⟨rfl, h1, h2, rfl⟩ | ⟨k1, k2, k3, k4, k5, k6, k7, k8, rfl, rfl⟩
  case' inr.inr.inl =>
    have n0 : (n != 0) = true := by simp [h3]
    have n1 : (n == 0) = false := by simp [h3]
    clear h3
  all_goals
    go_enter Tryz.func125, Tryz.ntmps125
    go_wp2_with (go_at_call 122; refine (ruWithin_yes _ _ _ _ (by omega) (by first | omega | (rw [IntKind.wrap_i64]; omega))).mono ?_; rintro e w1 ⟨rfl, rfl⟩)
    go_ret
    exact ⟨rfl, HB.out⟩
end
/-- A list within bounds, rising, without zero if the bounds have unlike signs. -/
structure UpIn (lo hi : Int) (zs : List Int) : Prop where
  ne : 0 < zs.length
  rng : ∀ z ∈ zs, lo ≤ z ∧ z ≤ hi
  up : zs.Pairwise (· < ·)
  nz : lo < 0 → ∀ z ∈ zs, z ≠ 0
theorem UpIn.at {lo hi : Int} {zs : List Int} (h : UpIn lo hi zs) (k : Nat) (hk : k < zs.length) : lo ≤ zs[k]?.getD 0 ∧ zs[k]?.getD 0 ≤ hi ∧ (0 < k → zs[k - 1]?.getD 0 < zs[k]?.getD 0) ∧ (lo < 0 → zs[k]?.getD 0 ≠ 0) := by
  have e : zs[k]? = some zs[k] := List.getElem?_eq_getElem hk
  have hm : zs[k] ∈ zs := List.getElem_mem hk
  rw [e]
  refine ⟨(h.rng _ hm).1, (h.rng _ hm).2, fun h0 => ?_, fun hl => h.nz hl _ hm⟩
  have hk1 : k - 1 < zs.length := by omega
  rw [List.getElem?_eq_getElem hk1]
  exact List.pairwise_iff_getElem.1 h.up (k - 1) k hk1 hk (by omega)
set_option maxRecDepth 10000 in
set_option maxHeartbeats 4000000 in
theorem listOK_none (A : Option Addr) (c : Nat) (w : World) : Calls Tryz.prog 124 #[.slice A 0 c, .agg #[I 0, I 0]] w (Gives (.bool true) w) := by
  have HB := Lib.hid (below_var w (.cells #[I 0, I 0] 161))
  go_enter Tryz.func124, Tryz.ntmps124
  go_wp2
  go_ret
  exact ⟨rfl, HB.out⟩
set_option maxRecDepth 10000 in
set_option maxHeartbeats 4000000 in
theorem listOK_yes (A : Option Addr) (c n : Nat) (lo hi : Int) (zs : List Int) (w : World) (hA : IntsAt w w.heap.size A zs) (h : UpIn lo hi zs) (hlh : lo ≠ 0 ∨ hi ≠ 0) (hn : zs.length = n) (hn2 : n ≤ 1000000) : Calls Tryz.prog 124 #[.slice A n c, .agg #[I lo, I hi]] w (Gives (.bool true) w) := by
  have HB := Lib.hid (below_var w (.cells #[I lo, I hi] 161))
  have h0 := h.ne
  obtain ⟨b, off, rfl, hb, hc⟩ : ∃ b off, A = some ⟨b, off, none⟩ ∧ b < w.heap.size ∧ ∀ j, j < zs.length → w.cell? ⟨b, off + j, none⟩ = some (I (zs[j]?.getD 0)) := by
    rcases hA with h | h
    · omega
    · exact h
  have HC := Lib.hid hc
  have HU := Lib.hid (fun k (hk : k < n) => h.at k (by omega))
  have hne : ¬ b = w.heap.size := by omega
  rw [hn] at h0
  have heq : ∀ W, (binOp .eql 161 (.agg #[I lo, I hi]) (.agg #[.int .i64 0, .int .i64 0])).run Tryz.prog W = .ok (.bool false) W := fun W => by
    rcases hlh with h | h <;> simp [go_sem, h]
  have HN := Lib.hid hn
  clear hc h hA hn hlh
  go_enter Tryz.func124, Tryz.ntmps124
  go_wp2
  go_loopw [15] (fun i wr => ∃ k : Nat, k ≤ n ∧ i = I k ∧ wr = w.alloc (.cells #[I lo, I hi] 161)) (fun i _ => n - (intOf i).toNat)
  case atStart => exact ⟨0, Nat.zero_le _, rfl, rfl⟩
  case round =>
    obtain ⟨k, hk, rfl, rfl⟩ := hrel
    clear heq
    by_cases hlt : k < n
    · have i0 : (0 : Int) ≤ (k : Int) := by omega
      have i1 : (k : Int) < (n : Int) := by omega
      obtain ⟨u1, u2, u3, u4⟩ := HU.out k hlt
      have c1 := HC.out k (by rw [HN.out]; exact hlt)
      have c2 := HC.out (k - 1) (by rw [HN.out]; omega)
      obtain ⟨z, hz⟩ : ∃ z, zs[k]?.getD 0 = z := ⟨_, rfl⟩
      obtain ⟨p, hp⟩ : ∃ p, zs[k - 1]?.getD 0 = p := ⟨_, rfl⟩
      rw [hz] at c1 u1 u2 u3 u4
      rw [hp] at c2 u3
      clear hz hp
      cases k with
      | zero =>
        have c4 : w.cell? ⟨b, off, none⟩ = some (I z) := c1
        clear u3 c2 c1
        by_cases hz0 : z = 0
        · have hl0 : ¬ lo < 0 := fun h => u4 h hz0
          subst hz0
          clear u4
          go_wp2_with (go_at_call 122; refine (ruWithin_yes _ _ _ _ u1 u2).mono ?_; rintro e w1 ⟨rfl, rfl⟩)
          go_roundw
          case rel => exact ⟨1, by omega, by go_num, by first | trivial | rfl⟩
          case measure => simp [intOf]; omega
        · have hz1 : (z == 0) = false := by simp [hz0]
          clear hz0 u4
          go_wp2_with (go_at_call 122; refine (ruWithin_yes _ _ _ _ u1 u2).mono ?_; rintro e w1 ⟨rfl, rfl⟩)
          go_roundw
          case rel => exact ⟨1, by omega, by go_num, by first | trivial | rfl⟩
          case measure => simp [intOf]; omega
      | succ k =>
        have u5 := u3 (Nat.succ_pos _)
        have hwr : IntKind.i64.wrap (((k + 1 : Nat) : Int) - 1) = (k : Int) := by rw [IntKind.wrap_i64]; omega
        have c3 : w.cell? ⟨b, off + k, none⟩ = some (I p) := c2
        have i2 : (0 : Int) ≤ (k : Int) := by omega
        have i3 : (k : Int) < (n : Int) := by omega
        clear u3 c2
        by_cases hz0 : z = 0
        · have hl0 : ¬ lo < 0 := fun h => u4 h hz0
          subst hz0
          clear u4
          go_wp2_with (go_at_call 122; refine (ruWithin_yes _ _ _ _ u1 u2).mono ?_; rintro e w1 ⟨rfl, rfl⟩)
          go_roundw
          case rel => exact ⟨k + 2, by omega, by go_num, by first | trivial | rfl⟩
          case measure => simp [intOf]; omega
        · have hz1 : (z == 0) = false := by simp [hz0]
          clear hz0 u4
          go_wp2_with (go_at_call 122; refine (ruWithin_yes _ _ _ _ u1 u2).mono ?_; rintro e w1 ⟨rfl, rfl⟩)
          go_roundw
          case rel => exact ⟨k + 2, by omega, by go_num, by first | trivial | rfl⟩
          case measure => simp [intOf]; omega
    · go_wp2
      go_ret
      exact ⟨rfl, HB.out⟩
end Go.Proofs.YtenbgpcdoljkgaaGreatDoor

/- rule.shapes, rule.nameOK at made names, slices.ContainsFunc over numbers (where the answer is no). -/
namespace Go.Proofs.YtenbgpcdoljkgaaGreatDoor
open Go Go.RowKit

def shT : List (Int × Bool × Int × Int) := [(0, false, 0, 0), (0, false, 0, 0), (0, true, 0, 0), (0, true, 1, 16), (0, true, -40, 40), (0, false, 0, 6), (0, true, 1, 54), (0, true, 0, 0), (2, false, 0, 0), (2, false, 0, 0), (2, false, 0, 0), (1, false, 0, 0), (1, false, 0, 0), (1, false, 0, 0), (1, false, 0, 1099511627776), (1, false, 0, 1099511627776), (1, true, -400, 400), (2, false, 0, 0), (0, false, 0, 0)]
def shC : Array Value := (shT.flatMap fun x => [I x.1, .bool x.2.1, I x.2.2.1, I x.2.2.2]).toArray
def zShC : Array Value := ((List.replicate 19 ()).flatMap fun _ => [I 0, .bool false, I 0, I 0]).toArray
def opn (k : Nat) : Int := (shT[k]?.getD (0, false, 0, 0)).1
def calB (k : Nat) : Bool := (shT[k]?.getD (0, false, 0, 0)).2.1
def shLo (k : Nat) : Int := (shT[k]?.getD (0, false, 0, 0)).2.2.1
def shHi (k : Nat) : Int := (shT[k]?.getD (0, false, 0, 0)).2.2.2
theorem sh_info : (Tryz.prog.info? 164).map (fun i => (i.zero, i.size)) = some (some (.agg zShC), zShC.size) := by kernel_rfl
theorem sh_size : (Tryz.prog.info? 164).map (·.size) = some shC.size := by kernel_rfl
theorem sh_info' : (Tryz.prog.info? 164).map (fun i => (i.zero, i.size)) = some (some (.agg zShC), shC.size) := by kernel_rfl
theorem sh_one : shC.all (·.oneCell') = true := by kernel_rfl
theorem shC_at : ∀ k : Nat, k < 19 → shC[k * 4]? = some (I (opn k)) ∧ shC[k * 4 + 1]? = some (.bool (calB k)) ∧ shC[k * 4 + 2]? = some (I (shLo k)) ∧ shC[k * 4 + 3]? = some (I (shHi k)) := by
  intro k hk
  have h : k = 0 ∨ k = 1 ∨ k = 2 ∨ k = 3 ∨ k = 4 ∨ k = 5 ∨ k = 6 ∨ k = 7 ∨ k = 8 ∨ k = 9 ∨ k = 10 ∨ k = 11 ∨ k = 12 ∨ k = 13 ∨ k = 14 ∨ k = 15 ∨ k = 16 ∨ k = 17 ∨ k = 18 := by omega
  rcases h with rfl | rfl | rfl | rfl | rfl | rfl | rfl | rfl | rfl | rfl | rfl | rfl | rfl | rfl | rfl | rfl | rfl | rfl | rfl <;> exact ⟨by kernel_rfl, by kernel_rfl, by kernel_rfl, by kernel_rfl⟩
set_option maxRecDepth 10000 in
set_option maxHeartbeats 4000000 in
theorem shapes_any (w : World) : Calls Tryz.prog 95 #[] w (Gives (.agg shC) w) := by
  have HB := Lib.hid (below_var w (.cells zShC 164))
  have HRES := Lib.hid (heap_alloc_last w (.cells zShC 164))
  go_enter Tryz.func95, Tryz.ntmps95
  go_wp2_with (first
    | (with_reducible refine g_alloc 164 ?_; refine wpList_alloc_as rfl _ rfl zShC sh_info ?_)
    | (with_reducible refine at_build 164 ?_; refine wpList_build_as rfl _ rfl shC (by kernel_rfl) ?_)
    | (with_reducible refine g_store 164 ?_; refine wpList_store_row rfl _ _ _ rfl w.heap.size shC rfl rfl 164 zShC HRES.out sh_size rfl sh_one ?_))
  exact bodyPost_ret (v := .agg shC) (results_cell_row rfl _ _ w.heap.size _ shC (0, 0) _ rfl (setRow_heap _ _ _ _ _ _ HRES.out) Tryz.underlying164 rfl sh_size) rfl ⟨rfl, below_setRow HB.out (Nat.le_refl _) _⟩
theorem below_iter (w : World) (s : ByteArray) (pos : Nat) : Below w.heap.size w (w.iter s pos) := below_var w (.stringIter s pos)
set_option maxRecDepth 10000 in
set_option maxHeartbeats 4000000 in
theorem nameOK_two (b : UInt8) (hb : b = 48 ∨ b = 49) (w : World) : Calls Tryz.prog 123 #[.string ⟨#[110, b]⟩] w (Gives (.bool true) w) := by
  have n0 : ∀ ty, (Instr.next (.pointer (some ⟨w.heap.size, 0, none⟩)) true ty).run Tryz.prog (w.iter ⟨#[110, b]⟩ 0) = .ok (.tuple #[.bool true, .int .i64 0, .int .i32 110]) (w.iter ⟨#[110, b]⟩ 1) := fun ty => run_next_ascii w ⟨#[110, b]⟩ 0 ty (by show 0 < 2; omega) (by show (110 : UInt8).toNat < 128; decide)
  have n1 : ∀ ty, (Instr.next (.pointer (some ⟨w.heap.size, 0, none⟩)) true ty).run Tryz.prog (w.iter ⟨#[110, b]⟩ 1) = .ok (.tuple #[.bool true, .int .i64 1, .int .i32 b.toNat]) (w.iter ⟨#[110, b]⟩ 2) := fun ty => run_next_ascii w ⟨#[110, b]⟩ 1 ty (by show 1 < 2; omega) (by show b.toNat < 128; rcases hb with rfl | rfl <;> decide)
  have n2 : ∀ ty, (Instr.next (.pointer (some ⟨w.heap.size, 0, none⟩)) true ty).run Tryz.prog (w.iter ⟨#[110, b]⟩ 2) = .ok (.tuple #[.bool false]) (w.iter ⟨#[110, b]⟩ 2) := fun ty => run_next_end w ⟨#[110, b]⟩ 2 ty (by show ¬ 2 < 2; omega)
  have hb1 : (48 : Int) ≤ b.toNat ∧ (b.toNat : Int) ≤ 57 := by rcases hb with rfl | rfl <;> decide
  obtain ⟨c, hc⟩ : ∃ c : Nat, b.toNat = c := ⟨_, rfl⟩
  rw [hc] at n1 hb1
  have HB := Lib.hid (below_iter w ⟨#[110, b]⟩ 2)
  have hsz : (⟨#[110, b]⟩ : ByteArray).size = 2 := rfl
  have hne : (⟨#[110, b]⟩ : ByteArray).toList.isEmpty = false := by rcases hb with rfl | rfl <;> kernel_rfl
  have hne2 : ¬ (⟨#[110, b]⟩ : ByteArray).toList = [] := fun h => by rw [h] at hne; cases hne
  obtain ⟨s, hs⟩ : ∃ s : ByteArray, (⟨#[110, b]⟩ : ByteArray) = s := ⟨_, rfl⟩
  rw [hs] at n0 n1 n2 HB hsz hne hne2 ⊢
  have hit : ∀ p, (w.iter s p).iterPos w.heap.size = p := fun p => by simp [World.iterPos, World.iter_heap]
  obtain ⟨h1, h2⟩ := hb1
  clear hb hc hs
  go_enter Tryz.func123, Tryz.ntmps123
  go_wp2
  go_loopw [3] (fun _ wr => ∃ p : Nat, p ≤ 2 ∧ wr = w.iter s p) (fun _ wr => 2 - wr.iterPos w.heap.size)
  case atStart => exact ⟨0, by omega, rfl⟩
  case round =>
    obtain ⟨p, hp, rfl⟩ := hrel
    have h : p = 0 ∨ p = 1 ∨ p = 2 := by omega
    clear hp
    rcases h with rfl | rfl | rfl
    · clear n1 n2
      go_wp2
      go_roundw
      case rel => exact ⟨1, by omega, rfl⟩
      case measure => rw [hit, hit]; omega
    · clear n0 n2
      go_wp2
      all_goals
        go_roundw
        case rel => exact ⟨2, by omega, rfl⟩
        case measure => rw [hit, hit]; omega
    · clear n0 n1
      go_wp2
      go_ret
      exact ⟨rfl, HB.out⟩
theorem nameOK_made (k : Int) (hk : k = 0 ∨ k = 1) (w : World) : Calls Tryz.prog 123 #[.string (⟨#[110]⟩ ++ digit k)] w (Gives (.bool true) w) := by
  rcases hk with rfl | rfl
  · exact nameOK_two 48 (.inl rfl) w
  · exact nameOK_two 49 (.inr rfl) w
end Go.Proofs.YtenbgpcdoljkgaaGreatDoor
