/- Small laws over any program: whole rows built, laid in a new variable, loaded; no condition. -/
import Derived.Deep.WholeRow
import Derived.Laws.Rows
import Derived.Laws.Tables
import Derived.Lib.Hide
import Derived.Outline
import Derived.WalkKit
import Derived.WalkLawsBesides
import Derived.WalkSpells
namespace Go.Proofs.YtbdkalpljhpnmaaGreat
open Go Go.RowKit
section
variable {P : Program} {ops : Array Oper} {Q : Exit → Act → World → Prop} {a : Act} {w : World} {rest : List Oper} {o o2 : Oper}

/-- A composite literal, its cells under a name. -/
theorem wpList_build_as {t : TypeId} (hg : o.guard = none) (parts : Array (Nat × Operand)) (ho : o.op = .build t parts) (cells : Array Value)
    (hb : P.built t (parts.map fun (i, x) => (i, a.eval x)).toList = some cells)
    (h : wpList P ops Q rest (a.put o.dst (.agg cells)) w) : wpList P ops Q (o :: rest) a w :=
  wpList_plain hg fun _ hK => wp_build t parts ho (by rw [hb]; rfl) (by rw [hb]; exact hK _ _ h)

theorem run_alloc_var (w : World) (t : TypeId) (z : Value) (n : Nat) (hz : (P.info? t).map (fun i => (i.zero, i.size)) = some (some z, n)) :
    (Instr.alloc t true (.tuple #[])).run P w = .ok (.pointer (some ⟨w.heap.size, 0, none⟩)) (w.alloc (.cells z.cells t)) := by
  have h0 := (zero_of_info hz).1 w
  simp [Instr.alloc, newVar, newRow, h0]

/-- 'var x T = v', v a struct or an array whose cells have a name: a new variable, then the whole row stored into it. -/
theorem wpList_var_row (hg : o.guard = none) (hg2 : o2.guard = none) (t : TypeId) (d : Tmp) (y : Operand) (ho : o.op = .alloc t) (hd : o.dst = some d) (ho2 : o2.op = .store t (.tmp d) y) (hd2 : o2.dst = none)
    (z : Value) (cells : Array Value) (hz : (P.info? t).map (fun i => (i.zero, i.size)) = some (some z, cells.size)) (hzs : z.cells.size = cells.size)
    (hy : (a.put (some d) (.pointer (some ⟨w.heap.size, 0, none⟩))).eval y = .agg cells) (hdl : Nat.ble (d + 1) a.tmps.size = true) (h1 : cells.all (·.oneCell') = true)
    (h : wpList P ops Q rest (a.put (some d) (.pointer (some ⟨w.heap.size, 0, none⟩))) (w.alloc (.cells cells t))) : wpList P ops Q (o :: o2 :: rest) a w := by
  refine wpList_plain hg fun K hK => ?_
  unfold Oper.wp execOp
  simp only [ho, Sem.run_bind, run_alloc_var w t z _ hz, Result.andThen_ok]
  refine hK _ _ ?_
  rw [hd]
  refine wpList_plain hg2 fun K2 hK2 => ?_
  unfold Oper.wp execOp
  have hx : (a.put (some d) (.pointer (some ⟨w.heap.size, 0, none⟩))).eval (.tmp d) = .pointer (some ⟨w.heap.size, 0, none⟩) := by
    have hlt : d < a.tmps.size := Nat.le_of_ble_eq_true hdl
    simp [Act.eval, Act.put, hlt]
  simp only [ho2, hx, hy, Sem.run_bind, run_storeAt_new w t z.cells cells (zero_of_info hz).2 hzs h1, Result.andThen_ok]
  refine hK2 _ _ ?_
  rw [hd2]
  exact h
end
end Go.Proofs.YtbdkalpljhpnmaaGreat
