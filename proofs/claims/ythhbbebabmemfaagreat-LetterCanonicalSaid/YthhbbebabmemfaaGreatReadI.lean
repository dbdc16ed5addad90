/- letter.Read: what holds between its steps. -/
import Derived.Test.YthhbbebabmemfaaGreatReadD
import Derived.BigQuiet
import Derived.Deep.AppendLies
import Derived.Deep.CutBlock
import Derived.Deep.DeepCutAuto
import Derived.Deep.DrawnRows
import Derived.Deep.MidRow
import Derived.Deep.QuietTactic
import Derived.Deep.RegionHeld3
import Derived.Deep.RegionLaw
import Derived.Deep.WholeRow
import Derived.Great.BuildSlice
import Derived.Laws.BytesString
import Derived.Laws.CopyOwn
import Derived.Laws.EntriesVeiled
import Derived.Laws.MakeOwn
import Derived.Laws.ResultCell
import Derived.Laws.Rows
import Derived.Laws.Tables
import Derived.Lib.Hide
import Derived.LoopIn
import Derived.LoopNIn
import Derived.Maps.AppendAt
import Derived.Outline
import Derived.OwnWalkIn
import Derived.RangeFuncBound
import Derived.RangeFuncBox
import Derived.RangeFuncCalls
import Derived.RangeFuncLeaves
import Derived.RangeFuncNested
import Derived.Shelf.Abstract
import Derived.Shelf.Bytes.SlSmallAll
import Derived.Shelf.RegionOpen
import Derived.StillTailTactics
import Derived.Stop.BytesEq
import Derived.TacticsInMore
import Derived.WalkKit
import Derived.WalkLawsBesides
import Derived.WalkSpells
namespace Go.Proofs.YthhbbebabmemfaaGreat
open Go Go.RowKit

theorem lt_of_blk {w : World} {b : Nat} {o : Obj} (h : w.heap[b]? = some o) : b < w.heap.size := (Array.getElem?_eq_some_iff.1 h).1
theorem Row.of_blk {w : World} {b : Nat} {cs : Array Value} {t : TypeId} {fr : Nat × Nat} (h : w.heap[b]? = some (.cells cs t fr)) : Row w b cs :=
  ⟨lt_of_blk h, fun i => cell_of_row w b i cs t fr h⟩
/-- The letter under way in the variable, the reader, and what has not been touched. -/
structure RIn (w w' : World) (r : RS) : Prop where
  blk : w'.heap[w.heap.size + 1]? = some (.cells (ltVal r.l zSl) 37 (0, 0))
  st : RSt w' (w.heap.size + 2) (w.heap.size + 1) w.heap.size r.rest r.bad
  res : w'.heap[w.heap.size]? = some (.cells (ltVal zLt zSl) 37 (0, 0))
  lo : Below w.heap.size w w'
  sz : w.heap.size + 4 < w'.heap.size
theorem RIn.row {w w' : World} {r : RS} (h : RIn w w' r) : Row w' (w.heap.size + 1) (ltVal r.l zSl) := Row.of_blk h.blk
theorem RIn.froz {w w' : World} {r : RS} (h : RIn w w' r) (i : Nat) : w'.frozen? ⟨w.heap.size + 1, i, none⟩ = false := frozen_of_row w' (w.heap.size + 1) i _ _ h.blk
theorem RIn.grow {w w1 w2 : World} {r : RS} (h : RIn w w1 r) (hb : Below w1.heap.size w1 w2) : RIn w w2 r :=
  have hs := h.sz
  ⟨(hb.block _ (by omega)).trans h.blk, h.st.below hb (by omega) (by omega), (hb.block _ (by omega)).trans h.res, below_trans h.lo hb, Nat.lt_of_lt_of_le h.sz hb.size⟩
theorem RIn.call {w w1 w2 : World} {r : RS} {size : Nat} {e : Ending} (h : RIn w w1 r) (hg : NumGot w1 (w.heap.size + 2) (w.heap.size + 1) w.heap.size r.rest r.bad size e w2) :
    e = .returned (I (r.num size)) ∧ RIn w w2 (r.after size r.l) := by
  have hs := h.sz
  obtain ⟨h1, h2, h3⟩ := hg
  refine ⟨h1, (h3.block _ (by omega) (by omega) (by omega)).trans h.blk, h2, (h3.block _ (by omega) (by omega) (by omega)).trans h.res, ?_, Nat.lt_of_lt_of_le h.sz h3.size⟩
  exact ⟨h3.os.trans h.lo.os, h3.tape.trans h.lo.tape, h3.output.trans h.lo.output, Nat.le_trans h.lo.size h3.size, fun k hk => (h3.block k (by omega) (by omega) (by omega)).trans (h.lo.block k hk)⟩
theorem RIn.number {w w1 : World} {r : RS} (h : RIn w w1 r) (size : Nat) (h8 : size ≤ 8) :
    Calls Tryz.prog 15 #[pt (w.heap.size + 3), I size] w1 fun e w2 => e = .returned (I (r.num size)) ∧ RIn w w2 (r.after size r.l) :=
  (rnumber_any w1 (w.heap.size + 2) (w.heap.size + 1) w.heap.size size r.rest r.bad (by omega) (by have := h.sz; omega) h.st h8).mono fun _ _ hg => h.call hg
theorem RIn.store {w w1 : World} {r : RS} (h : RIn w w1 r) {o : Nat} {v : Value} {l' : Lt} (hl : ltVal l' zSl = (ltVal r.l zSl).setIfInBounds o v) :
    RIn w (w1.setCell ⟨w.heap.size + 1, o, none⟩ v) ⟨l', r.rest, r.bad⟩ := by
  have hs := h.sz
  have hb : Below (w.heap.size + 1) w1 (w1.setCell ⟨w.heap.size + 1, o, none⟩ v) := (Below.refl _ w1).setCell (p := ⟨w.heap.size + 1, o, none⟩) (Nat.le_refl _) _
  refine ⟨?_, ?_, (hb.block _ (by omega)).trans h.res, h.lo.trans (hb.mono (by omega)), Nat.lt_of_lt_of_le h.sz hb.size⟩
  · rw [heap_setCell_same w1 _ o _ _ _ h.blk]
    show _ = some (Obj.cells (ltVal l' zSl) _ _)
    rw [hl]
  · obtain ⟨A, c, hr, h1, h2, h3, h4⟩ := h.st
    exact ⟨A, c, ⟨(heap_setCell_other w1 _ _ _ (by simp)).trans hr.rest, (heap_setCell_other w1 _ _ _ (by simp)).trans hr.rd, (heap_setCell_other w1 _ _ _ (by simp)).trans hr.var⟩, h1, h2, h3.keep (hb.mono (by omega)), h4⟩
theorem RIn.draw {w w1 : World} {r : RS} (h : RIn w w1 r) : RIn w w1.drew r :=
  ⟨h.blk, by obtain ⟨A, c, hr, h1, h2, h3, h4⟩ := h.st; exact ⟨A, c, hr.draw, h1, h2, h3, h4⟩, h.res, ⟨h.lo.os, h.lo.tape, h.lo.output, h.lo.size, h.lo.block⟩, h.sz⟩

section
variable {P : Program} {ops : Array Oper} {Q : Exit → Act → World → Prop} {a : Act} {w : World} {rest : List Oper} {o : Oper}
/-- 'var x T' of a struct whose zero's cells have a name. -/
theorem wpList_alloc_as (hg : o.guard = none) (t : TypeId) (ho : o.op = .alloc t) (cells : Array Value) (hz : (P.info? t).map (fun i => (i.zero, i.size)) = some (some (.agg cells), cells.size))
    (h : wpList P ops Q rest (a.put o.dst (.pointer (some ⟨w.heap.size, 0, none⟩))) (w.alloc (.cells cells t))) : wpList P ops Q (o :: rest) a w := by
  refine wpList_plain hg fun K hK => ?_
  unfold Oper.wp execOp
  simp only [ho, Sem.run_bind, run_alloc_var w t (.agg cells) _ hz, Result.andThen_ok]
  exact hK _ _ h
end
/-- The table of the reader's methods, as it lies. -/
def rFns (g : Nat) : Array Value := #[.nilFunc, .nilFunc, .nilFunc, .nilFunc, .nilFunc, .nilFunc, .nilFunc, .nilFunc, .nilFunc, .func (.func 16) #[pt g] #[], .func (.func 17) #[pt g] #[], .nilFunc, .nilFunc, .nilFunc, .func (.func 18) #[pt g] #[], .func (.func 19) #[pt g] #[], .func (.func 20) #[pt g] #[]]
theorem rFns_one (g : Nat) : (rFns g).all (·.oneCell') = true := by kernel_rfl
theorem rFns_info (g : Nat) : (Tryz.prog.info? 56).map (fun i => (i.zero, i.size)) = some (some (.agg (Array.replicate 17 .nilFunc)), (rFns g).size) := by kernel_rfl
theorem lt_zero : (Tryz.prog.info? 37).map (fun i => (i.zero, i.size)) = some (some (.agg (ltVal zLt zSl)), (ltVal zLt zSl).size) := by kernel_rfl
end Go.Proofs.YthhbbebabmemfaaGreat
