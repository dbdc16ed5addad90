/- '==' between whole values: moves, spans. -/
import Derived.Test.YthhbbebabmemfaaGreatProg
import Derived.Test.YthhbbebabmemfaaGreatData
import Derived.BigQuiet
import Derived.Deep.AppendLies
import Derived.Deep.CutBlock
import Derived.Deep.DeepCutAuto
import Derived.Deep.DrawnRows
import Derived.Deep.MidRow
import Derived.Deep.QuietTactic
import Derived.Deep.RegionHeld3
import Derived.Deep.RegionLaw
import Derived.Deep.WholeRow
import Derived.Great.BuildSlice
import Derived.Laws.BytesString
import Derived.Laws.CopyOwn
import Derived.Laws.EntriesVeiled
import Derived.Laws.MakeOwn
import Derived.Laws.ResultCell
import Derived.Laws.Rows
import Derived.Laws.Tables
import Derived.Lib.Hide
import Derived.LoopIn
import Derived.LoopNIn
import Derived.Maps.AppendAt
import Derived.Outline
import Derived.OwnWalkIn
import Derived.RangeFuncBound
import Derived.RangeFuncBox
import Derived.RangeFuncCalls
import Derived.RangeFuncLeaves
import Derived.RangeFuncNested
import Derived.Shelf.Abstract
import Derived.Shelf.Bytes.SlSmallAll
import Derived.Shelf.RegionOpen
import Derived.StillTailTactics
import Derived.Stop.BytesEq
import Derived.TacticsInMore
import Derived.WalkKit
import Derived.WalkLawsBesides
import Derived.WalkSpells
namespace Go.Proofs.YthhbbebabmemfaaGreat
open Go Go.RowKit

theorem eql_move (d t n l d' t' n' l' : Int) (b b' : Bool) (W : World) :
    (binOp .eql 26 (.agg #[I d, .bool b, I t, I n, I l]) (.agg #[I d', .bool b', I t', I n', I l'])).run Tryz.prog W =
      .ok (.bool (decide (d = d') && (b == b') && decide (t = t') && decide (n = n') && decide (l = l'))) W := by
  by_cases h1 : d = d' <;> by_cases h2 : b = b' <;> by_cases h3 : t = t' <;> by_cases h4 : n = n' <;> by_cases h5 : l = l'
  all_goals simp [go_sem, h1, h2, h3, h4, h5]
theorem eql_span (a b a' b' : Int) (W : World) :
    (binOp .eql 33 (.agg #[I a, I b]) (.agg #[I a', I b'])).run Tryz.prog W = .ok (.bool (decide (a = a') && decide (b = b'))) W := by
  by_cases h1 : a = a' <;> by_cases h2 : b = b'
  all_goals simp [go_sem, h1, h2]
end Go.Proofs.YthhbbebabmemfaaGreat
