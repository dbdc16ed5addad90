/- letter.noSeries, validMove and the small closures. -/
import Derived.Test.YthhbbebabmemfaaGreatUses
import Derived.BigQuiet
import Derived.Deep.QuietTactic
import Derived.Deep.WholeRow
import Derived.Laws.Rows
import Derived.Laws.Tables
import Derived.Lib.Hide
import Derived.Outline
import Derived.Stop.BytesEq
import Derived.WalkKit
import Derived.WalkLawsBesides
import Derived.WalkSpells
namespace Go.Proofs.YthhbbebabmemfaaGreat
open Go Go.RowKit

theorem ret_bool {a b : Bool} (h : a = b) : Ending.returned (.bool a) = .returned (.bool b) := by rw [h]
/-- The lengths are given beside the series. -/
def noSer (n m : Nat) (s : Ser) : Bool := decide (n + m + s.zone.size = 0 ∧ s.minute = 0 ∧ s.length = 0 ∧ s.gap = 0 ∧ s.fold = 0)
theorem box_ser (s : Ser) (vr vm : Value) : serCells s vr vm = #[vr, I s.minute, I s.length, .string s.zone, I s.gap, I s.fold, vm] := rfl

set_option maxRecDepth 10000 in
set_option maxHeartbeats 400000 in
theorem noSeries_any (s : Ser) (A B : Option Addr) (n m c d : Nat) (w : World) (hn : n ≤ 140737488355328) (hm : m ≤ 140737488355328) (hz : s.zone.size ≤ 140737488355328) :
    Calls Tryz.prog 41 #[.agg (serCells s (.slice A n c) (.slice B m d))] w (Gives (.bool (noSer n m s)) w) := by
  rw [box_ser]
  go_enter Tryz.func41, Tryz.ntmps41
  go_wp2
  all_goals
    go_ret
    refine ⟨ret_bool ?_, below_var _ _⟩
    unfold noSer
    first | exact (decide_eq_false (by omega)).symm | (rw [Bool.eq_iff_iff]; simp only [beq_iff_eq, decide_eq_true_eq]; omega)

def inB (n lo hi : Int) : Bool := decide (lo ≤ n ∧ n ≤ hi)
set_option maxRecDepth 10000 in
set_option maxHeartbeats 400000 in
theorem moveIn_any (n lo hi : Int) (w : World) :
    Calls Tryz.prog 74 #[I n, I lo, I hi] w fun e w' => e = .returned (.bool (inB n lo hi)) ∧ w = w' := by
  by_cases h1 : lo ≤ n
  all_goals
    go_enter Tryz.func74, Tryz.ntmps74
    go_wp2
    go_ret
    refine ⟨ret_bool ?_, rfl⟩
    unfold inB
    first | exact (decide_eq_false (by omega)).symm | (rw [Bool.eq_iff_iff]; simp only [decide_eq_true_eq]; omega)

def vMove (m : Mv) : Bool :=
  if m.drop then decide (0 ≤ m.day ∧ m.day ≤ 1099511627776 ∧ m.toDay = 0 ∧ m.minute = 0 ∧ m.length = 0)
  else decide (0 ≤ m.day ∧ m.day ≤ 1099511627776 ∧ 0 ≤ m.toDay ∧ m.toDay ≤ 1099511627776 ∧ 0 ≤ m.minute ∧ m.minute ≤ 1439 ∧ 1 ≤ m.length ∧ m.length ≤ 10080)
theorem vMove_t (d t n l : Int) : vMove ⟨d, true, t, n, l⟩ = decide (0 ≤ d ∧ d ≤ 1099511627776 ∧ t = 0 ∧ n = 0 ∧ l = 0) := rfl
theorem vMove_f (d t n l : Int) : vMove ⟨d, false, t, n, l⟩ = decide (0 ≤ d ∧ d ≤ 1099511627776 ∧ 0 ≤ t ∧ t ≤ 1099511627776 ∧ 0 ≤ n ∧ n ≤ 1439 ∧ 1 ≤ l ∧ l ≤ 10080) := rfl
set_option maxRecDepth 10000 in
set_option maxHeartbeats 400000 in
theorem validMove_any (m : Mv) (w : World) : Calls Tryz.prog 56 #[.agg (mvCells m)] w (Gives (.bool (vMove m)) w) := by
  obtain ⟨d, b, t, n, l⟩ := m
  rw [show mvCells ⟨d, b, t, n, l⟩ = #[I d, .bool b, I t, I n, I l] from rfl]
  cases b
  all_goals
    go_enter Tryz.func56, Tryz.ntmps56
    go_wp2_with (go_at_call 74; refine (moveIn_any _ _ _ _).mono ?_; rintro e w' ⟨rfl, rfl⟩)
    all_goals
      go_ret
      refine ⟨ret_bool ?_, below_var _ _⟩
      first | rw [vMove_t] | rw [vMove_f]
      simp only [inB, decide_eq_true_eq] at *
      first | exact (decide_eq_false (by omega)).symm | exact (decide_eq_true (by omega)).symm | (rw [Bool.eq_iff_iff]; simp only [decide_eq_true_eq]; omega)
end Go.Proofs.YthhbbebabmemfaaGreat
