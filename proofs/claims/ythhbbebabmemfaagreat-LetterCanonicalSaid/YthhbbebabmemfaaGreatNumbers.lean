/- letter.numbers: the addresses of the fields that are numbers. -/
import Derived.Test.YthhbbebabmemfaaGreatSmall
import Derived.BigQuiet
import Derived.Deep.QuietTactic
import Derived.Deep.WholeRow
import Derived.Laws.Rows
import Derived.Laws.Tables
import Derived.Lib.Hide
import Derived.Outline
import Derived.StillTailTactics
import Derived.Stop.BytesEq
import Derived.WalkKit
import Derived.WalkLawsBesides
import Derived.WalkSpells
namespace Go.Proofs.YthhbbebabmemfaaGreat
open Go Go.RowKit

def np (b i : Nat) : Value := .pointer (some ⟨b, i, none⟩)
def numPtrs (b : Nat) : Array Value := #[np b 3, np b 4, np b 5, np b 6, np b 7, np b 8, np b 9, np b 10, np b 11, .pointer none, .pointer none, np b 24, np b 25, np b 26, .pointer none, .pointer none, .pointer none]
theorem numPtrs_one (b : Nat) : (numPtrs b).all (·.oneCell') = true := by kernel_rfl

section
variable {P : Program} {ops : Array Oper} {Q : Exit → Act → World → Prop} {a : Act} {w : World} {rest : List Oper} {o : Oper}
/-- A whole row stored into the variable that was made last, a draw behind it. -/
theorem wpList_store_new_drew (hg : o.guard = none) (t : TypeId) (x y : Operand) (ho : o.op = .store t x y) (hd : o.dst = none) (old cells : Array Value)
    (hx : a.eval x = .pointer (some ⟨w.heap.size, 0, none⟩)) (hy : a.eval y = .agg cells)
    (hi : (P.info? t).map (·.size) = some cells.size) (hs : old.size = cells.size) (h1 : cells.all (·.oneCell') = true)
    (h : wpList P ops Q rest a (w.alloc (.cells cells t)).drew) : wpList P ops Q (o :: rest) a (w.alloc (.cells old t)).drew := by
  refine wpList_store_row hg t x y ho w.heap.size cells hx hy t old (heap_alloc_last w _) hi hs h1 ?_
  rw [hd]
  have e : ((w.alloc (.cells old t)).drew).setRow w.heap.size cells = (w.alloc (.cells cells t)).drew := by
    rw [← World.setRow_alloc_new w old cells t]; rfl
  rw [e]
  exact h
end

set_option maxRecDepth 10000 in
set_option maxHeartbeats 400000 in
theorem numbers_any (b : Nat) (w : World) :
    Calls Tryz.prog 21 #[.pointer (some ⟨b, 0, none⟩)] w (Gives (.agg (numPtrs b)) w) := by
  go_enter Tryz.func21, Tryz.ntmps21
  go_wp2
  go_still_tail 36, (by kernel_rfl)
  go_wp2_with (first | (refine wpList_build_as rfl _ rfl (numPtrs b) (by kernel_rfl) ?_) | (refine wpList_store_new_drew rfl _ _ _ rfl rfl _ (numPtrs b) rfl rfl (by kernel_rfl) rfl (numPtrs_one b) ?_))
  refine bodyPost_ret (v := .agg (numPtrs b)) (results_cell_row rfl _ _ w.heap.size _ (numPtrs b) (0, 0) _ rfl (heap_alloc_last w _) Tryz.underlying58 rfl (by kernel_rfl)) rfl ⟨rfl, ?_⟩
  exact (below_var w _).drew
end Go.Proofs.YthhbbebabmemfaaGreat
