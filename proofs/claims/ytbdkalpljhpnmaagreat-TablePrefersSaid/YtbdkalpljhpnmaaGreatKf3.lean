/- kalendsref13.Valid of made zones. -/
import Derived.Test.YtbdkalpljhpnmaaGreatKf0
import Derived.Test.YtbdkalpljhpnmaaGreatKf2
import Derived.BigQuiet
import Derived.Deep.AppendLies
import Derived.Deep.CutBlock
import Derived.Deep.DeepCutAuto
import Derived.Deep.DrawnRows
import Derived.Deep.MidRow
import Derived.Deep.QuietTactic
import Derived.Deep.RegionHeld3
import Derived.Deep.RegionLaw
import Derived.Deep.WholeRow
import Derived.Great.BuildSlice
import Derived.Handy
import Derived.Laws.BytesString
import Derived.Laws.CopyOwn
import Derived.Laws.EntriesVeiled
import Derived.Laws.MakeOwn
import Derived.Laws.ResultCell
import Derived.Laws.Rows
import Derived.Laws.Tables
import Derived.Lib.Hide
import Derived.LoopIn
import Derived.LoopNIn
import Derived.Maps.AppendAt
import Derived.Outline
import Derived.OwnWalkIn
import Derived.RangeFuncBound
import Derived.RangeFuncBox
import Derived.RangeFuncCalls
import Derived.RangeFuncLeaves
import Derived.RangeFuncNested
import Derived.Shelf.Abstract
import Derived.Shelf.Bytes.SlSmallAll
import Derived.Shelf.RegionOpen
import Derived.StillTailTactics
import Derived.Stop.BytesEq
import Derived.TacticsInMore
import Derived.WalkKit
import Derived.WalkLawsBesides
import Derived.WalkSpells
namespace Go.Proofs.YtbdkalpljhpnmaaGreat
open Go Go.RowKit

theorem rvalid_any (z : Zn) (s : Zs) (w : World) (hm : ZnM z) (h : ZnAt w w.heap.size s z) : Calls Tryz.prog 52 #[.agg (znCells z s)] w (Gives (.int .i64 (rvF z)) w) := by
  rcases hm.yr with hy | hy
  · exact rvalid_0 z s w hm h hy
  · exact rvalid_2 z s w hm h hy
end Go.Proofs.YtbdkalpljhpnmaaGreat
