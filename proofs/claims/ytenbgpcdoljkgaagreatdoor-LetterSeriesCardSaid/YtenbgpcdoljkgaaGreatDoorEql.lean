/- '==' between whole values: moves, spans. -/
import Derived.Test.YtenbgpcdoljkgaaGreatDoorNumsW
namespace Go.Proofs.YtenbgpcdoljkgaaGreatDoor
open Go Go.RowKit

theorem eql_move (d t n l d' t' n' l' : Int) (b b' : Bool) (W : World) :
    (binOp .eql 25 (.agg #[I d, .bool b, I t, I n, I l]) (.agg #[I d', .bool b', I t', I n', I l'])).run Tryz.prog W =
      .ok (.bool (decide (d = d') && (b == b') && decide (t = t') && decide (n = n') && decide (l = l'))) W := by
  by_cases h1 : d = d' <;> by_cases h2 : b = b' <;> by_cases h3 : t = t' <;> by_cases h4 : n = n' <;> by_cases h5 : l = l'
  all_goals simp [go_sem, h1, h2, h3, h4, h5]
theorem eql_span (a b a' b' : Int) (W : World) :
    (binOp .eql 32 (.agg #[I a, I b]) (.agg #[I a', I b'])).run Tryz.prog W = .ok (.bool (decide (a = a') && decide (b = b'))) W := by
  by_cases h1 : a = a' <;> by_cases h2 : b = b'
  all_goals simp [go_sem, h1, h2]
end Go.Proofs.YtenbgpcdoljkgaaGreatDoor
