/- kalendsref07.decimal at a digit. -/
import Derived.Test.YthhbbebabmemfaaGreatWriter
import Derived.BigQuiet
import Derived.Deep.AppendLies
import Derived.Deep.CutBlock
import Derived.Deep.DeepCutAuto
import Derived.Deep.DrawnRows
import Derived.Deep.MidRow
import Derived.Deep.QuietTactic
import Derived.Deep.RegionHeld3
import Derived.Deep.RegionLaw
import Derived.Deep.WholeRow
import Derived.Great.BuildSlice
import Derived.Laws.BytesString
import Derived.Laws.CopyOwn
import Derived.Laws.EntriesVeiled
import Derived.Laws.MakeOwn
import Derived.Laws.ResultCell
import Derived.Laws.Rows
import Derived.Laws.Tables
import Derived.Lib.Hide
import Derived.LoopIn
import Derived.LoopNIn
import Derived.Maps.AppendAt
import Derived.Outline
import Derived.OwnWalkIn
import Derived.RangeFuncBound
import Derived.RangeFuncBox
import Derived.RangeFuncCalls
import Derived.RangeFuncLeaves
import Derived.RangeFuncNested
import Derived.Shelf.Abstract
import Derived.Shelf.Bytes.SlSmallAll
import Derived.Shelf.RegionOpen
import Derived.StillTailTactics
import Derived.Stop.BytesEq
import Derived.TacticsInMore
import Derived.WalkKit
import Derived.WalkLawsBesides
import Derived.WalkSpells
namespace Go.Proofs.YthhbbebabmemfaaGreat
open Go Go.RowKit

def digit (n : Int) : ByteArray := ⟨#[UInt8.ofNat (48 + n).toNat]⟩
theorem conv_one (n : Int) (w : World) : (convert 22 9 (.slice (some ⟨w.heap.size, 0, none⟩) 1 1)).run Tryz.prog (w.alloc (.cells #[.int .u8 (48 + n)] 5)) = .ok (.string (digit n)) (w.alloc (.cells #[.int .u8 (48 + n)] 5)) := by
  have e : digit n = strOfNums [48 + n] := by unfold digit strOfNums; rfl
  rw [e]
  refine run_convert_bytes_arg _ _ _ Tryz.underlying22 Tryz.underlying5 w.heap.size 0 1 1 [48 + n] rfl (fun i hi => ?_) _ Tryz.underlying9
  have : i = 0 := by omega
  subst this
  exact (cell_one_new w _ _) 0 _ rfl
set_option maxRecDepth 10000 in
set_option maxHeartbeats 400000 in
theorem decimal_any (n : Int) (h0 : 0 ≤ n) (h1 : n < 10) (w : World) : Calls Tryz.prog 100 #[I n] w (Gives (.string (digit n)) w) := by
  have hcv := conv_one n w
  have ht : n.tmod 10 = n := by rw [Int.tmod_eq_emod_of_nonneg h0]; exact Int.emod_eq_of_lt h0 h1
  have hd : n.tdiv 10 = 0 := Int.tdiv_eq_zero_of_lt h0 h1
  go_enter Tryz.func100, Tryz.ntmps100
  go_wp2
  go_loopw [0, 3] (fun x s wr => x = I 0 ∧ s = .string (digit n) ∧ wr = w.alloc (.cells #[.int .u8 (48 + n)] 5)) (fun _ _ _ => 0)
  case atStart => exact ⟨rfl, rfl, rfl⟩
  case round =>
    obtain ⟨rfl, rfl, rfl⟩ := hrel
    go_wp2
    go_ret
    exact ⟨rfl, below_var w _⟩
end Go.Proofs.YthhbbebabmemfaaGreat
