/- The texts WfA, WfB, WfD, in this order. -/
import Derived.Test.YthhbbebabmemfaaGreatG01
import Derived.BigQuiet
import Derived.Deep.AppendLies
import Derived.Deep.CutBlock
import Derived.Deep.DeepCutAuto
import Derived.Deep.DrawnRows
import Derived.Deep.MidRow
import Derived.Deep.QuietTactic
import Derived.Deep.RegionHeld3
import Derived.Deep.RegionLaw
import Derived.Deep.WholeRow
import Derived.Great.BuildSlice
import Derived.Laws.BytesString
import Derived.Laws.CopyOwn
import Derived.Laws.EntriesVeiled
import Derived.Laws.MakeOwn
import Derived.Laws.ResultCell
import Derived.Laws.Rows
import Derived.Laws.Tables
import Derived.Lib.Hide
import Derived.LoopIn
import Derived.LoopNIn
import Derived.Maps.AppendAt
import Derived.Outline
import Derived.OwnWalkIn
import Derived.RangeFuncBound
import Derived.RangeFuncBox
import Derived.RangeFuncCalls
import Derived.RangeFuncLeaves
import Derived.RangeFuncNested
import Derived.Shelf.Abstract
import Derived.Shelf.Bytes.SlSmallAll
import Derived.Shelf.RegionOpen
import Derived.StillTailTactics
import Derived.Stop.BytesEq
import Derived.TacticsInMore
import Derived.WalkKit
import Derived.WalkLawsBesides
import Derived.WalkSpells
import Derived.Laws.RangeAny
import Derived.Test.YthhbbebabmemfaaGreatG04
import Derived.Laws.Strings
/- rule.within, numbersOK, listOK and nameOK on any arguments. -/
namespace Go.Proofs.YthhbbebabmemfaaGreat
open Go Go.RowKit

set_option maxRecDepth 10000 in
theorem ruWithin_no (n lo hi : Int) (w : World) (h : n < lo ∨ hi < n) : Calls Tryz.prog 91 #[I n, I lo, I hi] w fun e w' => e = .returned (.bool false) ∧ w' = w := by
  go_enter Tryz.func91, Tryz.ntmps91
  by_cases h1 : n < lo
  · have h2 : ¬ lo ≤ n := by omega
    go_wp2
    go_ret
    exact ⟨rfl, rfl⟩
  · have h2 : lo ≤ n := by omega
    have h3 : ¬ n ≤ hi := by omega
    go_wp2
    go_ret
    exact ⟨rfl, rfl⟩
/-- It gives a truth value; if it is true, then P. -/
def Tells (P : Prop) (w : World) (e : Ending) (w' : World) : Prop := ∃ b : Bool, e = .returned (.bool b) ∧ (b = true → P) ∧ Below w.heap.size w w'
theorem Tells.no {P : Prop} {w w' : World} (hb : Below w.heap.size w w') : Tells P w (.returned (.bool false)) w' := ⟨false, rfl, fun h => (nomatch h), hb⟩
theorem Tells.yes {P : Prop} {w w' : World} (h : P) (hb : Below w.heap.size w w') : Tells P w (.returned (.bool true)) w' := ⟨true, rfl, fun _ => h, hb⟩
section
attribute [local go_sem] ndCells
theorem num_bools (x : Int) : (x = 0 ∧ (x == 0) = true ∧ (x != 0) = false) ∨ (x ≠ 0 ∧ (x == 0) = false ∧ (x != 0) = true) := by
  by_cases h : x = 0
  · exact .inl ⟨h, by simp [h], by simp [h]⟩
  · exact .inr ⟨h, by simp [h], by simp [h]⟩
set_option maxRecDepth 10000 in
set_option maxHeartbeats 4000000 in
theorem numOK0 (cal l r n m : Int) (list : List Int) (name : ByteArray) (A : Option Addr) (c : Nat) (w : World) (hn : fits n) (hm : fits m) : Calls Tryz.prog 94 #[.agg (ndCells ⟨1, cal, l, r, n, m, list, name⟩ A c)] w (Tells (NumsOK ⟨1, cal, l, r, n, m, list, name⟩) w) := by
  have HB := Lib.hid (below_var w (.cells (ndCells ⟨1, cal, l, r, n, m, list, name⟩ A c) 75))
  unfold fits at hn hm
  by_cases z0 : 1 ≤ n ∧ n ≤ 1099511627776
  rotate_left
  · skip
    go_enter Tryz.func94, Tryz.ntmps94
    go_wp2_with (go_at_call 91; (first | refine (ruWithin_yes _ _ _ _ (by first | omega | (rw [IntKind.wrap_i64]; omega)) (by first | omega | (rw [IntKind.wrap_i64]; omega))).mono ?_ | refine (ruWithin_no _ _ _ _ (by first | omega | (rw [IntKind.wrap_i64]; omega))).mono ?_); rintro e w1 ⟨rfl, rfl⟩)
    go_ret
    exact Tells.no HB.out
  by_cases z1 : 0 ≤ m ∧ m ≤ 1099511627776
  rotate_left
  · skip
    go_enter Tryz.func94, Tryz.ntmps94
    go_wp2_with (go_at_call 91; (first | refine (ruWithin_yes _ _ _ _ (by first | omega | (rw [IntKind.wrap_i64]; omega)) (by first | omega | (rw [IntKind.wrap_i64]; omega))).mono ?_ | refine (ruWithin_no _ _ _ _ (by first | omega | (rw [IntKind.wrap_i64]; omega))).mono ?_); rintro e w1 ⟨rfl, rfl⟩)
    go_ret
    exact Tells.no HB.out
  go_enter Tryz.func94, Tryz.ntmps94
  go_wp2_with (go_at_call 91; (first | refine (ruWithin_yes _ _ _ _ (by first | omega | (rw [IntKind.wrap_i64]; omega)) (by first | omega | (rw [IntKind.wrap_i64]; omega))).mono ?_ | refine (ruWithin_no _ _ _ _ (by first | omega | (rw [IntKind.wrap_i64]; omega))).mono ?_); rintro e w1 ⟨rfl, rfl⟩)
  go_ret
  exact Tells.yes (by unfold NumsOK; dsimp only; exact .inl ⟨rfl, by omega, by omega, by omega, by omega⟩) HB.out
set_option maxRecDepth 10000 in
set_option maxHeartbeats 4000000 in
theorem numOK1 (cal l r n m : Int) (list : List Int) (name : ByteArray) (A : Option Addr) (c : Nat) (w : World) (hn : fits n) (hm : fits m) : Calls Tryz.prog 94 #[.agg (ndCells ⟨2, cal, l, r, n, m, list, name⟩ A c)] w (Tells (NumsOK ⟨2, cal, l, r, n, m, list, name⟩) w) := by
  have HB := Lib.hid (below_var w (.cells (ndCells ⟨2, cal, l, r, n, m, list, name⟩ A c) 75))
  unfold fits at hn hm
  by_cases z0 : 1 ≤ n ∧ n ≤ 400
  rotate_left
  · skip
    go_enter Tryz.func94, Tryz.ntmps94
    go_wp2_with (go_at_call 91; (first | refine (ruWithin_yes _ _ _ _ (by first | omega | (rw [IntKind.wrap_i64]; omega)) (by first | omega | (rw [IntKind.wrap_i64]; omega))).mono ?_ | refine (ruWithin_no _ _ _ _ (by first | omega | (rw [IntKind.wrap_i64]; omega))).mono ?_); rintro e w1 ⟨rfl, rfl⟩)
    go_ret
    exact Tells.no HB.out
  by_cases z1 : 0 ≤ m ∧ m ≤ n - 1
  rotate_left
  · skip
    go_enter Tryz.func94, Tryz.ntmps94
    go_wp2_with (go_at_call 91; (first | refine (ruWithin_yes _ _ _ _ (by first | omega | (rw [IntKind.wrap_i64]; omega)) (by first | omega | (rw [IntKind.wrap_i64]; omega))).mono ?_ | refine (ruWithin_no _ _ _ _ (by first | omega | (rw [IntKind.wrap_i64]; omega))).mono ?_); rintro e w1 ⟨rfl, rfl⟩)
    go_ret
    exact Tells.no HB.out
  go_enter Tryz.func94, Tryz.ntmps94
  go_wp2_with (go_at_call 91; (first | refine (ruWithin_yes _ _ _ _ (by first | omega | (rw [IntKind.wrap_i64]; omega)) (by first | omega | (rw [IntKind.wrap_i64]; omega))).mono ?_ | refine (ruWithin_no _ _ _ _ (by first | omega | (rw [IntKind.wrap_i64]; omega))).mono ?_); rintro e w1 ⟨rfl, rfl⟩)
  go_ret
  exact Tells.yes (by unfold NumsOK; dsimp only; exact .inr (.inl ⟨rfl, by omega, by omega, by omega, by omega⟩)) HB.out
set_option maxRecDepth 10000 in
set_option maxHeartbeats 4000000 in
theorem numOK2 (cal l r n m : Int) (list : List Int) (name : ByteArray) (A : Option Addr) (c : Nat) (w : World) (hn : fits n) (hm : fits m) : Calls Tryz.prog 94 #[.agg (ndCells ⟨7, cal, l, r, n, m, list, name⟩ A c)] w (Tells (NumsOK ⟨7, cal, l, r, n, m, list, name⟩) w) := by
  have HB := Lib.hid (below_var w (.cells (ndCells ⟨7, cal, l, r, n, m, list, name⟩ A c) 75))
  unfold fits at hn hm
  by_cases z0 : -60 ≤ n ∧ n ≤ 60
  rotate_left
  · skip
    go_enter Tryz.func94, Tryz.ntmps94
    go_wp2_with (go_at_call 91; (first | refine (ruWithin_yes _ _ _ _ (by first | omega | (rw [IntKind.wrap_i64]; omega)) (by first | omega | (rw [IntKind.wrap_i64]; omega))).mono ?_ | refine (ruWithin_no _ _ _ _ (by first | omega | (rw [IntKind.wrap_i64]; omega))).mono ?_); rintro e w1 ⟨rfl, rfl⟩)
    go_ret
    exact Tells.no HB.out
  rcases num_bools n with ⟨z1, za1, zb1⟩ | ⟨z1, za1, zb1⟩
  · subst z1
    go_enter Tryz.func94, Tryz.ntmps94
    go_wp2_with (go_at_call 91; (first | refine (ruWithin_yes _ _ _ _ (by first | omega | (rw [IntKind.wrap_i64]; omega)) (by first | omega | (rw [IntKind.wrap_i64]; omega))).mono ?_ | refine (ruWithin_no _ _ _ _ (by first | omega | (rw [IntKind.wrap_i64]; omega))).mono ?_); rintro e w1 ⟨rfl, rfl⟩)
    go_ret
    exact Tells.no HB.out
  · skip
    by_cases z2 : 0 ≤ m ∧ m ≤ 6
    rotate_left
    · skip
      go_enter Tryz.func94, Tryz.ntmps94
      go_wp2_with (go_at_call 91; (first | refine (ruWithin_yes _ _ _ _ (by first | omega | (rw [IntKind.wrap_i64]; omega)) (by first | omega | (rw [IntKind.wrap_i64]; omega))).mono ?_ | refine (ruWithin_no _ _ _ _ (by first | omega | (rw [IntKind.wrap_i64]; omega))).mono ?_); rintro e w1 ⟨rfl, rfl⟩)
      go_ret
      exact Tells.no HB.out
    by_cases z3 : 0 ≤ l ∧ l ≤ 1
    rotate_left
    · skip
      go_enter Tryz.func94, Tryz.ntmps94
      go_wp2_with (go_at_call 91; (first | refine (ruWithin_yes _ _ _ _ (by first | omega | (rw [IntKind.wrap_i64]; omega)) (by first | omega | (rw [IntKind.wrap_i64]; omega))).mono ?_ | refine (ruWithin_no _ _ _ _ (by first | omega | (rw [IntKind.wrap_i64]; omega))).mono ?_); rintro e w1 ⟨rfl, rfl⟩)
      go_ret
      exact Tells.no HB.out
    go_enter Tryz.func94, Tryz.ntmps94
    go_wp2_with (go_at_call 91; (first | refine (ruWithin_yes _ _ _ _ (by first | omega | (rw [IntKind.wrap_i64]; omega)) (by first | omega | (rw [IntKind.wrap_i64]; omega))).mono ?_ | refine (ruWithin_no _ _ _ _ (by first | omega | (rw [IntKind.wrap_i64]; omega))).mono ?_); rintro e w1 ⟨rfl, rfl⟩)
    go_ret
    exact Tells.yes (by unfold NumsOK; dsimp only; exact .inr (.inr (.inl ⟨rfl, by omega, by omega, by omega, by omega, by omega, by omega, by omega⟩))) HB.out
set_option maxRecDepth 10000 in
set_option maxHeartbeats 4000000 in
theorem numOK3 (cal l r n m : Int) (list : List Int) (name : ByteArray) (A : Option Addr) (c : Nat) (w : World) (hn : fits n) (hm : fits m) : Calls Tryz.prog 94 #[.agg (ndCells ⟨11, cal, l, r, n, m, list, name⟩ A c)] w (Tells (NumsOK ⟨11, cal, l, r, n, m, list, name⟩) w) := by
  have HB := Lib.hid (below_var w (.cells (ndCells ⟨11, cal, l, r, n, m, list, name⟩ A c) 75))
  unfold fits at hn hm
  by_cases z0 : -1099511627776 ≤ n ∧ n ≤ 1099511627776
  rotate_left
  · skip
    go_enter Tryz.func94, Tryz.ntmps94
    go_wp2_with (go_at_call 91; (first | refine (ruWithin_yes _ _ _ _ (by first | omega | (rw [IntKind.wrap_i64]; omega)) (by first | omega | (rw [IntKind.wrap_i64]; omega))).mono ?_ | refine (ruWithin_no _ _ _ _ (by first | omega | (rw [IntKind.wrap_i64]; omega))).mono ?_); rintro e w1 ⟨rfl, rfl⟩)
    go_ret
    exact Tells.no HB.out
  by_cases z1 : m = 0
  rotate_left
  · have za1 : (m == 0) = false := by simp [z1]
    have zb1 : (m != 0) = true := by simp [z1]
    go_enter Tryz.func94, Tryz.ntmps94
    go_wp2_with (go_at_call 91; (first | refine (ruWithin_yes _ _ _ _ (by first | omega | (rw [IntKind.wrap_i64]; omega)) (by first | omega | (rw [IntKind.wrap_i64]; omega))).mono ?_ | refine (ruWithin_no _ _ _ _ (by first | omega | (rw [IntKind.wrap_i64]; omega))).mono ?_); rintro e w1 ⟨rfl, rfl⟩)
    go_ret
    exact Tells.no HB.out
  subst z1
  go_enter Tryz.func94, Tryz.ntmps94
  go_wp2_with (go_at_call 91; (first | refine (ruWithin_yes _ _ _ _ (by first | omega | (rw [IntKind.wrap_i64]; omega)) (by first | omega | (rw [IntKind.wrap_i64]; omega))).mono ?_ | refine (ruWithin_no _ _ _ _ (by first | omega | (rw [IntKind.wrap_i64]; omega))).mono ?_); rintro e w1 ⟨rfl, rfl⟩)
  go_ret
  exact Tells.yes (by unfold NumsOK; dsimp only; exact .inr (.inr (.inr (.inl ⟨rfl, by omega, by omega, rfl⟩)))) HB.out
set_option maxRecDepth 10000 in
set_option maxHeartbeats 4000000 in
theorem numOK4 (cal l r n m : Int) (list : List Int) (name : ByteArray) (A : Option Addr) (c : Nat) (w : World) (hn : fits n) (hm : fits m) : Calls Tryz.prog 94 #[.agg (ndCells ⟨12, cal, l, r, n, m, list, name⟩ A c)] w (Tells (NumsOK ⟨12, cal, l, r, n, m, list, name⟩) w) := by
  have HB := Lib.hid (below_var w (.cells (ndCells ⟨12, cal, l, r, n, m, list, name⟩ A c) 75))
  unfold fits at hn hm
  by_cases z0 : 0 ≤ n ∧ n ≤ 1099511627776
  rotate_left
  · skip
    go_enter Tryz.func94, Tryz.ntmps94
    go_wp2_with (go_at_call 91; (first | refine (ruWithin_yes _ _ _ _ (by first | omega | (rw [IntKind.wrap_i64]; omega)) (by first | omega | (rw [IntKind.wrap_i64]; omega))).mono ?_ | refine (ruWithin_no _ _ _ _ (by first | omega | (rw [IntKind.wrap_i64]; omega))).mono ?_); rintro e w1 ⟨rfl, rfl⟩)
    go_ret
    exact Tells.no HB.out
  by_cases z1 : m = 0
  rotate_left
  · have za1 : (m == 0) = false := by simp [z1]
    have zb1 : (m != 0) = true := by simp [z1]
    go_enter Tryz.func94, Tryz.ntmps94
    go_wp2_with (go_at_call 91; (first | refine (ruWithin_yes _ _ _ _ (by first | omega | (rw [IntKind.wrap_i64]; omega)) (by first | omega | (rw [IntKind.wrap_i64]; omega))).mono ?_ | refine (ruWithin_no _ _ _ _ (by first | omega | (rw [IntKind.wrap_i64]; omega))).mono ?_); rintro e w1 ⟨rfl, rfl⟩)
    go_ret
    exact Tells.no HB.out
  subst z1
  go_enter Tryz.func94, Tryz.ntmps94
  go_wp2_with (go_at_call 91; (first | refine (ruWithin_yes _ _ _ _ (by first | omega | (rw [IntKind.wrap_i64]; omega)) (by first | omega | (rw [IntKind.wrap_i64]; omega))).mono ?_ | refine (ruWithin_no _ _ _ _ (by first | omega | (rw [IntKind.wrap_i64]; omega))).mono ?_); rintro e w1 ⟨rfl, rfl⟩)
  go_ret
  exact Tells.yes (by unfold NumsOK; dsimp only; exact .inr (.inr (.inr (.inr (.inl ⟨.inl rfl, by omega, by omega, rfl⟩))))) HB.out
set_option maxRecDepth 10000 in
set_option maxHeartbeats 4000000 in
theorem numOK5 (cal l r n m : Int) (list : List Int) (name : ByteArray) (A : Option Addr) (c : Nat) (w : World) (hn : fits n) (hm : fits m) : Calls Tryz.prog 94 #[.agg (ndCells ⟨13, cal, l, r, n, m, list, name⟩ A c)] w (Tells (NumsOK ⟨13, cal, l, r, n, m, list, name⟩) w) := by
  have HB := Lib.hid (below_var w (.cells (ndCells ⟨13, cal, l, r, n, m, list, name⟩ A c) 75))
  unfold fits at hn hm
  by_cases z0 : 0 ≤ n ∧ n ≤ 1099511627776
  rotate_left
  · skip
    go_enter Tryz.func94, Tryz.ntmps94
    go_wp2_with (go_at_call 91; (first | refine (ruWithin_yes _ _ _ _ (by first | omega | (rw [IntKind.wrap_i64]; omega)) (by first | omega | (rw [IntKind.wrap_i64]; omega))).mono ?_ | refine (ruWithin_no _ _ _ _ (by first | omega | (rw [IntKind.wrap_i64]; omega))).mono ?_); rintro e w1 ⟨rfl, rfl⟩)
    go_ret
    exact Tells.no HB.out
  by_cases z1 : m = 0
  rotate_left
  · have za1 : (m == 0) = false := by simp [z1]
    have zb1 : (m != 0) = true := by simp [z1]
    go_enter Tryz.func94, Tryz.ntmps94
    go_wp2_with (go_at_call 91; (first | refine (ruWithin_yes _ _ _ _ (by first | omega | (rw [IntKind.wrap_i64]; omega)) (by first | omega | (rw [IntKind.wrap_i64]; omega))).mono ?_ | refine (ruWithin_no _ _ _ _ (by first | omega | (rw [IntKind.wrap_i64]; omega))).mono ?_); rintro e w1 ⟨rfl, rfl⟩)
    go_ret
    exact Tells.no HB.out
  subst z1
  go_enter Tryz.func94, Tryz.ntmps94
  go_wp2_with (go_at_call 91; (first | refine (ruWithin_yes _ _ _ _ (by first | omega | (rw [IntKind.wrap_i64]; omega)) (by first | omega | (rw [IntKind.wrap_i64]; omega))).mono ?_ | refine (ruWithin_no _ _ _ _ (by first | omega | (rw [IntKind.wrap_i64]; omega))).mono ?_); rintro e w1 ⟨rfl, rfl⟩)
  go_ret
  exact Tells.yes (by unfold NumsOK; dsimp only; exact .inr (.inr (.inr (.inr (.inl ⟨.inr rfl, by omega, by omega, rfl⟩))))) HB.out
set_option maxRecDepth 10000 in
set_option maxHeartbeats 4000000 in
theorem numOK6 (cal l r n m : Int) (list : List Int) (name : ByteArray) (A : Option Addr) (c : Nat) (w : World) (hn : fits n) (hm : fits m) : Calls Tryz.prog 94 #[.agg (ndCells ⟨16, cal, l, r, n, m, list, name⟩ A c)] w (Tells (NumsOK ⟨16, cal, l, r, n, m, list, name⟩) w) := by
  have HB := Lib.hid (below_var w (.cells (ndCells ⟨16, cal, l, r, n, m, list, name⟩ A c) 75))
  unfold fits at hn hm
  by_cases z0 : n = 0
  rotate_left
  · have za0 : (n == 0) = false := by simp [z0]
    have zb0 : (n != 0) = true := by simp [z0]
    go_enter Tryz.func94, Tryz.ntmps94
    go_wp2_with (go_at_call 91; (first | refine (ruWithin_yes _ _ _ _ (by first | omega | (rw [IntKind.wrap_i64]; omega)) (by first | omega | (rw [IntKind.wrap_i64]; omega))).mono ?_ | refine (ruWithin_no _ _ _ _ (by first | omega | (rw [IntKind.wrap_i64]; omega))).mono ?_); rintro e w1 ⟨rfl, rfl⟩)
    go_ret
    exact Tells.no HB.out
  subst z0
  by_cases z1 : 0 ≤ m ∧ m ≤ 1
  rotate_left
  · skip
    go_enter Tryz.func94, Tryz.ntmps94
    go_wp2_with (go_at_call 91; (first | refine (ruWithin_yes _ _ _ _ (by first | omega | (rw [IntKind.wrap_i64]; omega)) (by first | omega | (rw [IntKind.wrap_i64]; omega))).mono ?_ | refine (ruWithin_no _ _ _ _ (by first | omega | (rw [IntKind.wrap_i64]; omega))).mono ?_); rintro e w1 ⟨rfl, rfl⟩)
    go_ret
    exact Tells.no HB.out
  go_enter Tryz.func94, Tryz.ntmps94
  go_wp2_with (go_at_call 91; (first | refine (ruWithin_yes _ _ _ _ (by first | omega | (rw [IntKind.wrap_i64]; omega)) (by first | omega | (rw [IntKind.wrap_i64]; omega))).mono ?_ | refine (ruWithin_no _ _ _ _ (by first | omega | (rw [IntKind.wrap_i64]; omega))).mono ?_); rintro e w1 ⟨rfl, rfl⟩)
  go_ret
  exact Tells.yes (by unfold NumsOK; dsimp only; exact .inr (.inr (.inr (.inr (.inr (.inl ⟨rfl, rfl, by omega, by omega⟩)))))) HB.out
set_option maxRecDepth 10000 in
set_option maxHeartbeats 4000000 in
theorem numOK7 (cal l r n m : Int) (list : List Int) (name : ByteArray) (A : Option Addr) (c : Nat) (w : World) (hn : fits n) (hm : fits m) : Calls Tryz.prog 94 #[.agg (ndCells ⟨17, cal, l, r, n, m, list, name⟩ A c)] w (Tells (NumsOK ⟨17, cal, l, r, n, m, list, name⟩) w) := by
  have HB := Lib.hid (below_var w (.cells (ndCells ⟨17, cal, l, r, n, m, list, name⟩ A c) 75))
  unfold fits at hn hm
  by_cases z0 : 1 ≤ n ∧ n ≤ 400
  rotate_left
  · skip
    go_enter Tryz.func94, Tryz.ntmps94
    go_wp2_with (go_at_call 91; (first | refine (ruWithin_yes _ _ _ _ (by first | omega | (rw [IntKind.wrap_i64]; omega)) (by first | omega | (rw [IntKind.wrap_i64]; omega))).mono ?_ | refine (ruWithin_no _ _ _ _ (by first | omega | (rw [IntKind.wrap_i64]; omega))).mono ?_); rintro e w1 ⟨rfl, rfl⟩)
    go_ret
    exact Tells.no HB.out
  by_cases z1 : m = 0
  rotate_left
  · have za1 : (m == 0) = false := by simp [z1]
    have zb1 : (m != 0) = true := by simp [z1]
    go_enter Tryz.func94, Tryz.ntmps94
    go_wp2_with (go_at_call 91; (first | refine (ruWithin_yes _ _ _ _ (by first | omega | (rw [IntKind.wrap_i64]; omega)) (by first | omega | (rw [IntKind.wrap_i64]; omega))).mono ?_ | refine (ruWithin_no _ _ _ _ (by first | omega | (rw [IntKind.wrap_i64]; omega))).mono ?_); rintro e w1 ⟨rfl, rfl⟩)
    go_ret
    exact Tells.no HB.out
  subst z1
  go_enter Tryz.func94, Tryz.ntmps94
  go_wp2_with (go_at_call 91; (first | refine (ruWithin_yes _ _ _ _ (by first | omega | (rw [IntKind.wrap_i64]; omega)) (by first | omega | (rw [IntKind.wrap_i64]; omega))).mono ?_ | refine (ruWithin_no _ _ _ _ (by first | omega | (rw [IntKind.wrap_i64]; omega))).mono ?_); rintro e w1 ⟨rfl, rfl⟩)
  go_ret
  exact Tells.yes (by unfold NumsOK; dsimp only; exact .inr (.inr (.inr (.inr (.inr (.inr (.inl ⟨rfl, by omega, by omega, rfl⟩))))))) HB.out
set_option maxRecDepth 10000 in
set_option maxHeartbeats 4000000 in
theorem numOK8 (kind cal l r n m : Int) (list : List Int) (name : ByteArray) (A : Option Addr) (c : Nat) (w : World) (k1 : kind ≠ 1) (k2 : kind ≠ 2) (k3 : kind ≠ 7) (k4 : kind ≠ 11) (k5 : kind ≠ 12) (k6 : kind ≠ 13) (k7 : kind ≠ 16) (k8 : kind ≠ 17) : Calls Tryz.prog 94 #[.agg (ndCells ⟨kind, cal, l, r, n, m, list, name⟩ A c)] w (Tells (NumsOK ⟨kind, cal, l, r, n, m, list, name⟩) w) := by
  have HB := Lib.hid (below_var w (.cells (ndCells ⟨kind, cal, l, r, n, m, list, name⟩ A c) 75))
  by_cases z0 : n = 0
  rotate_left
  · have za0 : (n == 0) = false := by simp [z0]
    have zb0 : (n != 0) = true := by simp [z0]
    go_enter Tryz.func94, Tryz.ntmps94
    go_wp2_with (go_at_call 91; (first | refine (ruWithin_yes _ _ _ _ (by first | omega | (rw [IntKind.wrap_i64]; omega)) (by first | omega | (rw [IntKind.wrap_i64]; omega))).mono ?_ | refine (ruWithin_no _ _ _ _ (by first | omega | (rw [IntKind.wrap_i64]; omega))).mono ?_); rintro e w1 ⟨rfl, rfl⟩)
    go_ret
    exact Tells.no HB.out
  subst z0
  by_cases z1 : m = 0
  rotate_left
  · have za1 : (m == 0) = false := by simp [z1]
    have zb1 : (m != 0) = true := by simp [z1]
    go_enter Tryz.func94, Tryz.ntmps94
    go_wp2_with (go_at_call 91; (first | refine (ruWithin_yes _ _ _ _ (by first | omega | (rw [IntKind.wrap_i64]; omega)) (by first | omega | (rw [IntKind.wrap_i64]; omega))).mono ?_ | refine (ruWithin_no _ _ _ _ (by first | omega | (rw [IntKind.wrap_i64]; omega))).mono ?_); rintro e w1 ⟨rfl, rfl⟩)
    go_ret
    exact Tells.no HB.out
  subst z1
  go_enter Tryz.func94, Tryz.ntmps94
  go_wp2_with (go_at_call 91; (first | refine (ruWithin_yes _ _ _ _ (by first | omega | (rw [IntKind.wrap_i64]; omega)) (by first | omega | (rw [IntKind.wrap_i64]; omega))).mono ?_ | refine (ruWithin_no _ _ _ _ (by first | omega | (rw [IntKind.wrap_i64]; omega))).mono ?_); rintro e w1 ⟨rfl, rfl⟩)
  go_ret
  exact Tells.yes (by unfold NumsOK; dsimp only; exact .inr (.inr (.inr (.inr (.inr (.inr (.inr ⟨k1, k2, k3, k4, k5, k6, k7, k8, rfl, rfl⟩))))))) HB.out
end
theorem numbersOK_any (d : Nd) (A : Option Addr) (c : Nat) (w : World) (hn : fits d.n) (hm : fits d.m) : Calls Tryz.prog 94 #[.agg (ndCells d A c)] w (Tells (NumsOK d) w) := by
  obtain ⟨kind, cal, l, r, n, m, list, name⟩ := d
  by_cases k1 : kind = 1
  · subst k1; exact numOK0 cal l r n m list name A c w hn hm
  by_cases k2 : kind = 2
  · subst k2; exact numOK1 cal l r n m list name A c w hn hm
  by_cases k3 : kind = 7
  · subst k3; exact numOK2 cal l r n m list name A c w hn hm
  by_cases k4 : kind = 11
  · subst k4; exact numOK3 cal l r n m list name A c w hn hm
  by_cases k5 : kind = 12
  · subst k5; exact numOK4 cal l r n m list name A c w hn hm
  by_cases k6 : kind = 13
  · subst k6; exact numOK5 cal l r n m list name A c w hn hm
  by_cases k7 : kind = 16
  · subst k7; exact numOK6 cal l r n m list name A c w hn hm
  by_cases k8 : kind = 17
  · subst k8; exact numOK7 cal l r n m list name A c w hn hm
  exact numOK8 kind cal l r n m list name A c w k1 k2 k3 k4 k5 k6 k7 k8
end Go.Proofs.YthhbbebabmemfaaGreat

/- rule.listOK and rule.nameOK on any arguments. -/
namespace Go.Proofs.YthhbbebabmemfaaGreat
open Go Go.RowKit

/-- The list is as the bounds require. -/
def ListG (lo hi : Int) (zs : List Int) : Prop := (lo = 0 ∧ hi = 0 ∧ zs = []) ∨ ((lo ≠ 0 ∨ hi ≠ 0) ∧ UpIn lo hi zs)
set_option maxRecDepth 10000 in
set_option maxHeartbeats 4000000 in
theorem listOK_zero (A : Option Addr) (c n : Nat) (zs : List Int) (w : World) (hn : zs.length = n) : Calls Tryz.prog 93 #[.slice A n c, .agg #[I 0, I 0]] w (Tells (ListG 0 0 zs) w) := by
  have HB := Lib.hid (below_var w (.cells #[I 0, I 0] 139))
  by_cases h0 : n = 0
  · have hz : zs = [] := List.length_eq_zero_iff.1 (by omega)
    subst h0
    have HZ := Lib.hid hz
    clear hn hz
    go_enter Tryz.func93, Tryz.ntmps93
    go_wp2
    go_ret
    exact Tells.yes (.inl ⟨rfl, rfl, HZ.out⟩) HB.out
  · have h1 : ((n : Int) == 0) = false := by simp; omega
    clear hn
    go_enter Tryz.func93, Tryz.ntmps93
    go_wp2
    go_ret
    exact Tells.no HB.out
/-- The first k elements are right. -/
def UpTo (lo hi : Int) (zs : List Int) (k : Nat) : Prop := ∀ j, j < k → lo ≤ zs[j]?.getD 0 ∧ zs[j]?.getD 0 ≤ hi ∧ (0 < j → zs[j - 1]?.getD 0 < zs[j]?.getD 0) ∧ (lo < 0 → zs[j]?.getD 0 ≠ 0)
theorem UpTo.snoc {lo hi : Int} {zs : List Int} {k : Nat} (h : UpTo lo hi zs k) (h2 : lo ≤ zs[k]?.getD 0 ∧ zs[k]?.getD 0 ≤ hi ∧ (0 < k → zs[k - 1]?.getD 0 < zs[k]?.getD 0) ∧ (lo < 0 → zs[k]?.getD 0 ≠ 0)) : UpTo lo hi zs (k + 1) := fun j hj => by
  by_cases e : j = k
  · subst e; exact h2
  · exact h j (by omega)
theorem UpTo.all {lo hi : Int} {zs : List Int} (h : UpTo lo hi zs zs.length) (h0 : 0 < zs.length) : UpIn lo hi zs := by
  have hg : ∀ j (hj : j < zs.length), zs[j]?.getD 0 = zs[j] := fun j hj => by rw [List.getElem?_eq_getElem hj]; rfl
  refine ⟨h0, fun z hz => ?_, ?_, fun hl z hz => ?_⟩
  · obtain ⟨j, hj, rfl⟩ := List.mem_iff_getElem.1 hz
    have h1 := h j hj
    rw [hg j hj] at h1
    exact ⟨h1.1, h1.2.1⟩
  · rw [List.pairwise_iff_getElem]
    have step : ∀ d i (hi : i < zs.length) (hj : i + d + 1 < zs.length), zs[i] < zs[i + d + 1] := by
      intro d
      induction d with
      | zero =>
        intro i hi hj
        have h1 := (h (i + 1) hj).2.2.1 (by omega)
        rw [hg _ hj, Nat.add_sub_cancel, hg _ hi] at h1
        exact h1
      | succ d ih =>
        intro i hi hj
        have h1 := ih i hi (by omega)
        have h2 := (h (i + (d + 1) + 1) hj).2.2.1 (by omega)
        rw [hg _ hj, Nat.add_sub_cancel, hg _ (by omega)] at h2
        exact Int.lt_trans h1 h2
    intro i j hi hj hij
    have h1 := step (j - i - 1) i hi (by omega)
    have e : i + (j - i - 1) + 1 = j := by omega
    simp only [e] at h1
    exact h1
  · obtain ⟨j, hj, rfl⟩ := List.mem_iff_getElem.1 hz
    have h1 := (h j hj).2.2.2 hl
    rw [hg j hj] at h1
    exact h1
set_option maxRecDepth 10000 in
set_option maxHeartbeats 4000000 in
theorem listOK_some (b off c n : Nat) (lo hi : Int) (zs : List Int) (w : World) (hb : b < w.heap.size) (hc : ∀ j, j < zs.length → w.cell? ⟨b, off + j, none⟩ = some (I (zs[j]?.getD 0))) (hlh : lo ≠ 0 ∨ hi ≠ 0) (hn : zs.length = n) (h0 : 0 < n) (hn2 : n ≤ 1000000) : Calls Tryz.prog 93 #[.slice (some ⟨b, off, none⟩) n c, .agg #[I lo, I hi]] w (Tells (ListG lo hi zs) w) := by
  have HB := Lib.hid (below_var w (.cells #[I lo, I hi] 139))
  have HC := Lib.hid hc
  have HLH := Lib.hid hlh
  have hne : ¬ b = w.heap.size := by omega
  have heq : ∀ W, (binOp .eql 139 (.agg #[I lo, I hi]) (.agg #[.int .i64 0, .int .i64 0])).run Tryz.prog W = .ok (.bool false) W := fun W => by
    rcases hlh with h | h <;> simp [go_sem, h]
  have HN := Lib.hid hn
  clear hc hn hlh
  go_enter Tryz.func93, Tryz.ntmps93
  go_wp2
  go_loopw [15] (fun i wr => ∃ k : Nat, k ≤ n ∧ i = I k ∧ wr = w.alloc (.cells #[I lo, I hi] 139) ∧ UpTo lo hi zs k) (fun i _ => n - (intOf i).toNat)
  case atStart => exact ⟨0, Nat.zero_le _, rfl, rfl, fun j hj => absurd hj (Nat.not_lt_zero _)⟩
  case round =>
    obtain ⟨k, hk, rfl, rfl, hup⟩ := hrel
    have HU := Lib.hid hup
    clear heq hup
    by_cases hlt : k < n
    · have i0 : (0 : Int) ≤ (k : Int) := by omega
      have i1 : (k : Int) < (n : Int) := by omega
      have c1 := HC.out k (by rw [HN.out]; exact hlt)
      have c2 := HC.out (k - 1) (by rw [HN.out]; omega)
      have hsn := HU.out.snoc
      obtain ⟨z, hz⟩ : ∃ z, zs[k]?.getD 0 = z := ⟨_, rfl⟩
      obtain ⟨p, hp⟩ : ∃ p, zs[k - 1]?.getD 0 = p := ⟨_, rfl⟩
      rw [hz] at c1 hsn
      rw [hp] at c2 hsn
      have HSN := Lib.hid hsn
      clear hz hp hsn
      cases k with
      | zero =>
        have c4 : w.cell? ⟨b, off, none⟩ = some (I z) := c1
        clear c2 c1
        by_cases hin : lo ≤ z ∧ z ≤ hi
        · by_cases hz0 : z = 0
          · subst hz0
            by_cases hl0 : lo < 0
            · go_wp2_with (go_at_call 91; (first | refine (ruWithin_yes _ _ _ _ (by omega) (by omega)).mono ?_ | refine (ruWithin_no _ _ _ _ (by omega)).mono ?_); rintro e w1 ⟨rfl, rfl⟩)
              go_ret
              exact Tells.no HB.out
            · go_wp2_with (go_at_call 91; (first | refine (ruWithin_yes _ _ _ _ (by omega) (by omega)).mono ?_ | refine (ruWithin_no _ _ _ _ (by omega)).mono ?_); rintro e w1 ⟨rfl, rfl⟩)
              go_roundw
              case rel => exact ⟨1, by omega, by go_num, by first | trivial | rfl, HSN.out ⟨hin.1, hin.2, by omega, fun h => absurd h (by omega)⟩⟩
              case measure => simp [intOf]; omega
          · have hz1 : (z == 0) = false := by simp [hz0]
            have HZ := Lib.hid hz0
            clear hz0
            go_wp2_with (go_at_call 91; (first | refine (ruWithin_yes _ _ _ _ (by omega) (by omega)).mono ?_ | refine (ruWithin_no _ _ _ _ (by omega)).mono ?_); rintro e w1 ⟨rfl, rfl⟩)
            go_roundw
            case rel => exact ⟨1, by omega, by go_num, by first | trivial | rfl, HSN.out ⟨hin.1, hin.2, by omega, fun _ => HZ.out⟩⟩
            case measure => simp [intOf]; omega
        · go_wp2_with (go_at_call 91; (first | refine (ruWithin_yes _ _ _ _ (by omega) (by omega)).mono ?_ | refine (ruWithin_no _ _ _ _ (by omega)).mono ?_); rintro e w1 ⟨rfl, rfl⟩)
          go_ret
          exact Tells.no HB.out
      | succ k =>
        have hwr : IntKind.i64.wrap (((k + 1 : Nat) : Int) - 1) = (k : Int) := by rw [IntKind.wrap_i64]; omega
        have c3 : w.cell? ⟨b, off + k, none⟩ = some (I p) := c2
        have i2 : (0 : Int) ≤ (k : Int) := by omega
        have i3 : (k : Int) < (n : Int) := by omega
        clear c2
        by_cases hin : lo ≤ z ∧ z ≤ hi
        · by_cases hpz : p < z
          · by_cases hz0 : z = 0
            · subst hz0
              by_cases hl0 : lo < 0
              · go_wp2_with (go_at_call 91; (first | refine (ruWithin_yes _ _ _ _ (by omega) (by omega)).mono ?_ | refine (ruWithin_no _ _ _ _ (by omega)).mono ?_); rintro e w1 ⟨rfl, rfl⟩)
                go_ret
                exact Tells.no HB.out
              · go_wp2_with (go_at_call 91; (first | refine (ruWithin_yes _ _ _ _ (by omega) (by omega)).mono ?_ | refine (ruWithin_no _ _ _ _ (by omega)).mono ?_); rintro e w1 ⟨rfl, rfl⟩)
                go_roundw
                case rel => exact ⟨k + 2, by omega, by go_num, by first | trivial | rfl, HSN.out ⟨hin.1, hin.2, fun _ => hpz, fun h => absurd h (by omega)⟩⟩
                case measure => simp [intOf]; omega
            · have hz1 : (z == 0) = false := by simp [hz0]
              have HZ := Lib.hid hz0
              clear hz0
              go_wp2_with (go_at_call 91; (first | refine (ruWithin_yes _ _ _ _ (by omega) (by omega)).mono ?_ | refine (ruWithin_no _ _ _ _ (by omega)).mono ?_); rintro e w1 ⟨rfl, rfl⟩)
              go_roundw
              case rel => exact ⟨k + 2, by omega, by go_num, by first | trivial | rfl, HSN.out ⟨hin.1, hin.2, fun _ => hpz, fun _ => HZ.out⟩⟩
              case measure => simp [intOf]; omega
          · have hpz2 : z ≤ p := by omega
            go_wp2_with (go_at_call 91; (first | refine (ruWithin_yes _ _ _ _ (by omega) (by omega)).mono ?_ | refine (ruWithin_no _ _ _ _ (by omega)).mono ?_); rintro e w1 ⟨rfl, rfl⟩)
            go_ret
            exact Tells.no HB.out
        · go_wp2_with (go_at_call 91; (first | refine (ruWithin_yes _ _ _ _ (by omega) (by omega)).mono ?_ | refine (ruWithin_no _ _ _ _ (by omega)).mono ?_); rintro e w1 ⟨rfl, rfl⟩)
          go_ret
          exact Tells.no HB.out
    · have hkn : k = n := by omega
      have hall := HU.out
      rw [hkn, ← HN.out] at hall
      have HA := Lib.hid (hall.all (by rw [HN.out]; exact h0))
      clear hall
      have h1 : (0 : Int) < (n : Int) := by omega
      go_wp2
      go_ret
      exact Tells.yes (.inr ⟨HLH.out, HA.out⟩) HB.out
set_option maxRecDepth 10000 in
set_option maxHeartbeats 4000000 in
theorem listOK_emp (A : Option Addr) (c : Nat) (lo hi : Int) (w : World) (hlh : lo ≠ 0 ∨ hi ≠ 0) (P : Prop) : Calls Tryz.prog 93 #[.slice A 0 c, .agg #[I lo, I hi]] w (Tells P w) := by
  have HB := Lib.hid (below_var w (.cells #[I lo, I hi] 139))
  have heq : ∀ W, (binOp .eql 139 (.agg #[I lo, I hi]) (.agg #[.int .i64 0, .int .i64 0])).run Tryz.prog W = .ok (.bool false) W := fun W => by
    rcases hlh with h | h <;> simp [go_sem, h]
  clear hlh
  go_enter Tryz.func93, Tryz.ntmps93
  go_wp2
  go_loopw [15] (fun i wr => i = I 0 ∧ wr = w.alloc (.cells #[I lo, I hi] 139)) (fun _ _ => 0)
  case atStart => exact ⟨rfl, rfl⟩
  case round =>
    obtain ⟨rfl, rfl⟩ := hrel
    clear heq
    go_wp2
    go_ret
    exact Tells.no HB.out
theorem listOK_any (A : Option Addr) (c n : Nat) (lo hi : Int) (zs : List Int) (w : World) (hA : IntsAt w w.heap.size A zs) (hn : zs.length = n) (hn2 : n ≤ 1000000) : Calls Tryz.prog 93 #[.slice A n c, .agg #[I lo, I hi]] w (Tells (ListG lo hi zs) w) := by
  by_cases h : lo = 0 ∧ hi = 0
  · obtain ⟨rfl, rfl⟩ := h
    exact listOK_zero A c n zs w hn
  · have hlh : lo ≠ 0 ∨ hi ≠ 0 := by omega
    by_cases h0 : n = 0
    · subst h0
      exact listOK_emp A c lo hi w hlh _
    · rcases hA with h1 | ⟨b, off, rfl, hb, hc⟩
      · omega
      · exact listOK_some b off c n lo hi zs w hb hc hlh hn (by omega) hn2
end Go.Proofs.YthhbbebabmemfaaGreat

/- rule.wellFormed on any rule. -/
namespace Go.Proofs.YthhbbebabmemfaaGreat
open Go Go.RowKit

set_option maxRecDepth 10000 in
theorem isOne_no (z : Int) (hz : z ≠ 1) (w : World) : Calls Tryz.prog 96 #[I z] w fun e w' => e = .returned (.bool true) ∧ w' = w := by
  have h1 : (z != 1) = true := by simp [hz]
  clear hz
  go_enter Tryz.func96, Tryz.ntmps96
  go_wp2
  go_ret
  exact ⟨rfl, rfl⟩
def IdxR (us : List Int) (n : Nat) (w : World) (e : Ending) (w' : World) : Prop := ∃ z : Int, e = .returned (I z) ∧ ((z = -1 ∧ ∀ j, j < n → us[j]?.getD 0 = 1) ∨ 0 ≤ z) ∧ w' = w
theorem IdxR.all {us : List Int} {n : Nat} {w : World} (h : ∀ j, j < n → us[j]?.getD 0 = 1) : IdxR us n w (.returned (I (-1))) w := ⟨-1, rfl, .inl ⟨rfl, h⟩, rfl⟩
theorem IdxR.some {us : List Int} {n : Nat} {w : World} (k : Nat) : IdxR us n w (.returned (I k)) w := ⟨k, rfl, .inr (by omega), rfl⟩
set_option maxRecDepth 10000 in
set_option maxHeartbeats 2000000 in
theorem idx_any (A : Option Addr) (n c : Nat) (us : List Int) (w : World) (h : n = 0 ∨ ∃ b, A = some ⟨b, 0, none⟩ ∧ ∀ j, j < n → w.cell? ⟨b, j, none⟩ = some (I (us[j]?.getD 0))) (hn : n ≤ 1000000) :
    Calls Tryz.prog 102 #[.slice A n c, .func (.func 96) #[] #[]] w (IdxR us n w) := by
  have H := Lib.hid h
  clear h
  go_enter Tryz.func102, Tryz.ntmps102
  go_wp2_with fail
  go_loopw [8] (fun i wr => ∃ k : Nat, k ≤ n ∧ i = I k ∧ wr = w ∧ ∀ j, j < k → us[j]?.getD 0 = 1) (fun i _ => n - (intOf i).toNat)
  case atStart => exact ⟨0, Nat.zero_le _, rfl, rfl, fun j hj => absurd hj (Nat.not_lt_zero _)⟩
  case round =>
    obtain ⟨k, hk, rfl, rfl, hal⟩ := hrel
    have HAL := Lib.hid hal
    clear hal
    by_cases hlt : k < n
    · have i0 : (0 : Int) ≤ (k : Int) := by omega
      have i1 : (k : Int) < (n : Int) := by omega
      obtain ⟨b, rfl, hc⟩ : ∃ b, A = some ⟨b, 0, none⟩ ∧ ∀ j, j < n → wr.cell? ⟨b, j, none⟩ = some (I (us[j]?.getD 0)) := by
        rcases H.out with h | h
        · omega
        · exact h
      have c1 := hc k hlt
      clear hc
      by_cases hz : us[k]?.getD 0 = 1
      · have HZ := Lib.hid hz
        rw [hz] at c1
        clear hz
        go_wp2_with fail
        refine (isOne _).mono ?_
        rintro x w5 ⟨rfl, rfl⟩
        go_wp2_with fail
        go_roundw
        case rel => exact ⟨k + 1, by omega, by go_num, by first | trivial | rfl, fun j hj => by
          by_cases e : j = k
          · subst e; exact HZ.out
          · exact HAL.out j (by omega)⟩
        case measure => simp [intOf]; omega
      · obtain ⟨z, hzz⟩ : ∃ z, us[k]?.getD 0 = z := ⟨_, rfl⟩
        rw [hzz] at c1 hz
        have HZ := Lib.hid hz
        clear hzz hz
        go_wp2_with fail
        refine (isOne_no _ HZ.out _).mono ?_
        rintro x w5 ⟨rfl, rfl⟩
        go_wp2_with fail
        go_ret
        exact IdxR.some k
    · have hkn : k = n := by omega
      have hall := HAL.out
      rw [hkn] at hall
      have HA := Lib.hid hall
      clear hall
      go_wp2_with fail
      go_ret
      exact IdxR.all HA.out
def ContR (us : List Int) (n : Nat) (w : World) (e : Ending) (w' : World) : Prop := ∃ b : Bool, e = .returned (.bool b) ∧ (b = false → ∀ j, j < n → us[j]?.getD 0 = 1) ∧ w' = w
set_option maxRecDepth 10000 in
theorem cont_any (A : Option Addr) (n c : Nat) (us : List Int) (w : World) (h : n = 0 ∨ ∃ b, A = some ⟨b, 0, none⟩ ∧ ∀ j, j < n → w.cell? ⟨b, j, none⟩ = some (I (us[j]?.getD 0))) (hn : n ≤ 1000000) :
    Calls Tryz.prog 95 #[.slice A n c, .func (.func 96) #[] #[]] w (ContR us n w) := by
  have H := Lib.hid (idx_any A n c us w h hn)
  clear h
  go_enter Tryz.func95, Tryz.ntmps95
  go_wp2_with fail
  refine H.out.mono ?_
  rintro x w5 ⟨z, rfl, hz, rfl⟩
  rcases hz with ⟨rfl, hz⟩ | hz
  · have HZ := Lib.hid hz
    clear hz
    go_wp2_with fail
    go_ret
    exact ⟨false, rfl, fun _ => HZ.out, rfl⟩
  · go_wp2_with fail
    go_ret
    exact ⟨true, rfl, fun h => (nomatch h), rfl⟩
theorem opn_nn : ∀ k : Nat, k < 19 → 0 ≤ opn k := by decide
/-- The numbers of a node fit. -/
structure Nd6 (d : Nd) : Prop where
  kind : fits d.kind
  cal : fits d.cal
  l : fits d.l
  r : fits d.r
  n : fits d.n
  m : fits d.m
def OPL (kd k : Nat) (l : Int) : Prop := (0 < opn kd ∧ 0 ≤ l ∧ l < k) ∨ (opn kd = 0 ∧ (l = 0 ∨ kd = 7))
def OPR (kd k : Nat) (r : Int) : Prop := (1 < opn kd ∧ 0 ≤ r ∧ r < k) ∨ (opn kd ≤ 1 ∧ r = 0)
set_option maxRecDepth 10000 in
set_option maxHeartbeats 4000000 in
theorem wellFormed_any (A : Option Addr) (n c : Nat) (ns : List NdV) (w : World) (hA : RulesAt w w.heap.size A ns) (hl : ns.length = n) (hn : n ≤ 1000000) (hfit : ∀ x ∈ ns, Nd6 x.d ∧ x.d.list.length ≤ 1000000) (ds : List Nd) (hds : ns.map (·.d) = ds) :
    Calls Tryz.prog 77 #[.slice A n c] w (Tells (RuleOK ns) w) := by
  have HA := Lib.hid hA
  have HL := Lib.hid hl
  have HF := Lib.hid hfit
  have HDS := Lib.hid hds
  have HB0 := Lib.hid (Below.refl w.heap.size w)
  by_cases h1 : 1 ≤ n
  rotate_left
  · have i1 : (n : Int) < 1 := by omega
    clear hA hl hfit hds
    go_enter Tryz.func77, Tryz.ntmps77
    go_wp2_with fail
    go_ret
    exact Tells.no HB0.out
  by_cases h64 : n ≤ 64
  rotate_left
  · have i1 : ¬ (n : Int) < 1 := by omega
    have i2 : (64 : Int) < (n : Int) := by omega
    clear hA hl hfit hds
    go_enter Tryz.func77, Tryz.ntmps77
    go_wp2_with fail
    go_ret
    exact Tells.no HB0.out
  have hmk := make_ints n (by omega)
  clear hA hl hfit hds hn
  go_enter Tryz.func77, Tryz.ntmps77
  go_wp2_with fail
  refine (shapes_any _).mono ?_
  rintro e w1 ⟨rfl, hb1⟩
  have HB1 := Lib.hid hb1
  clear hb1
  go_wp2_with (refine wpList_var_row rfl rfl _ _ _ rfl rfl rfl rfl _ shC sh_info' rfl rfl rfl sh_one ?_)
  have HW0 := Lib.hid (WfS.start n HB1.out)
  have htb : w.heap.size ≤ w1.heap.size := HB1.out.size
  obtain ⟨tb, htb'⟩ : ∃ tb, w1.heap.size = tb := ⟨_, rfl⟩
  rw [htb'] at HW0 htb ⊢
  clear HB1 hmk
  go_loopw [26] (fun i wr => ∃ k : Nat, k ≤ n ∧ i = I k ∧ WfS w n tb (tb + 1) (usesTo ds n k) wr ∧ ∀ i x, i < k → ns[i]? = some x → NodeOK i x.d.kind.toNat x.d) (fun i _ => n - (intOf i).toNat)
  case atStart => exact ⟨0, Nat.zero_le _, rfl, (by rw [← htb']; exact htb' ▸ HW0.out), fun i x hi => absurd hi (Nat.not_lt_zero _)⟩
  case round =>
    obtain ⟨k, hk, rfl, hS, hpre⟩ := hrel
    have HS := Lib.hid hS
    have HPRE := Lib.hid hpre
    obtain ⟨ub, hub⟩ : ∃ ub, tb + 1 = ub := ⟨_, rfl⟩
    rw [hub] at HS ⊢
    clear hS HW0 htb' hpre
    by_cases hlt : k < n
    · have i0 : (0 : Int) ≤ (k : Int) := by omega
      have i1 : (k : Int) < (n : Int) := by omega
      obtain ⟨b, ⟨⟨kind, cal, l, r, nn, m, list, name⟩, A', c'⟩, rfl, hx, hm, ho⟩ := one_nd HA.out HL.out HS.out.lo hlt
      obtain ⟨⟨f1', f2', f3', f4', f5', f6'⟩, hlm⟩ := HF.out _ hm
      simp only at f1' f2' f3' f4' f5' f6' hlm
      have hdk : ds[k]? = some ⟨kind, cal, l, r, nn, m, list, name⟩ := by rw [← HDS.out, List.getElem?_map, hx]; rfl
      obtain ⟨us, hus⟩ : ∃ us, usesTo ds n k = us := ⟨_, rfl⟩
      have hnx := usesTo_succ (n := n) hdk
      rw [hus] at hnx
      have HLE := Lib.hid (fun j => by have := usesTo_le ds n k j; rw [hus] at this; exact this)
      rw [hus] at HS
      obtain ⟨f0, f1, f2, f3, f4, f5, f6, f7⟩ := ho.cells
      simp only at f0 f1 f2 f3 f4 f5 f6 f7
      have hbl := ho.la
      have HIA : Hid (IntsAt w w.heap.size A' list) := Lib.hid (rule_ints HA.out hx)
      have HX := Lib.hid hx
      have HBW : Hid (Below w.heap.size w (wr.alloc (.cells #[I kind, I cal, I l, I r, I nn, I m, .slice A' list.length c', .string name] 75))) := Lib.hid (below_trans HS.out.lo (below_var wr _))
      by_cases hkr : 1 ≤ kind ∧ kind ≤ 18
      rotate_left
      · clear hx hm ho hdk hus hnx
        go_wp2_with (go_at_call 91; (first | refine (ruWithin_yes _ _ _ _ (by omega) (by first | omega | (rw [IntKind.wrap_i64]; omega))).mono ?_ | refine (ruWithin_no _ _ _ _ (by first | omega | (rw [IntKind.wrap_i64]; omega))).mono ?_); rintro e w9 ⟨rfl, rfl⟩)
        go_ret
        exact Tells.no HBW.out
      by_cases hl64' : list.length ≤ 64
      rotate_left
      · have hl64 : (64 : Int) < (list.length : Int) := by omega
        clear hx hm ho hdk hus hnx
        go_wp2_with (go_at_call 91; (first | refine (ruWithin_yes _ _ _ _ (by omega) (by first | omega | (rw [IntKind.wrap_i64]; omega))).mono ?_ | refine (ruWithin_no _ _ _ _ (by first | omega | (rw [IntKind.wrap_i64]; omega))).mono ?_); rintro e w9 ⟨rfl, rfl⟩)
        go_ret
        exact Tells.no HBW.out
      obtain ⟨kd, rfl⟩ : ∃ kd : Nat, kind = kd := ⟨kind.toNat, by omega⟩
      have hk1 : 1 ≤ kd := by omega
      have hk2 : kd ≤ 18 := by omega
      have HNX := Lib.hid hnx
      have HFN := Lib.hid f5'
      have HFM := Lib.hid f6'
      have hl64 : ¬ (64 : Int) < (list.length : Int) := by omega
      obtain ⟨t0, t1, t2, t3⟩ := shC_at kd (by omega)
      rw [← HS.out.tab.2] at t0 t1 t2 t3
      obtain ⟨hs1, hs2⟩ := HS.out.small
      have hne1 : ¬ b = wr.heap.size := by omega
      have hne2 : ¬ tb = wr.heap.size := by omega
      have hne3 : ¬ tb = wr.heap.size + 1 := by omega
      clear ho hx hm hdk hus hnx f1' f2' f3' f4' f5' f6' HBW
      have HW1 : Hid (WI w n tb ub us wr.heap.size #[I kd, I cal, I l, I r, I nn, I m, .slice A' list.length c', .string name] (wr.heap.size + 1) #[I (opn kd), .bool (calB kd), I (shLo kd), I (shHi kd)] (wr.heap.size + 2) #[I l, I r] (((wr.alloc (.cells #[I kd, I cal, I l, I r, I nn, I m, .slice A' list.length c', .string name] 75)).alloc (.cells #[I (opn kd), .bool (calB kd), I (shLo kd), I (shHi kd)] 141)).alloc (.cells #[I l, I r] 3))) := Lib.hid (by
        have b1 := below_var wr (.cells #[I kd, I cal, I l, I r, I nn, I m, .slice A' list.length c', .string name] 75)
        have r1 := Row.new wr #[I kd, I cal, I l, I r, I nn, I m, .slice A' list.length c', .string name] 75
        have b2 := below_var (wr.alloc (.cells #[I kd, I cal, I l, I r, I nn, I m, .slice A' list.length c', .string name] 75)) (.cells #[I (opn kd), .bool (calB kd), I (shLo kd), I (shHi kd)] 141)
        have r2 := Row.new (wr.alloc (.cells #[I kd, I cal, I l, I r, I nn, I m, .slice A' list.length c', .string name] 75)) #[I (opn kd), .bool (calB kd), I (shLo kd), I (shHi kd)] 141
        have b3 := below_var ((wr.alloc (.cells #[I kd, I cal, I l, I r, I nn, I m, .slice A' list.length c', .string name] 75)).alloc (.cells #[I (opn kd), .bool (calB kd), I (shLo kd), I (shHi kd)] 141)) (.cells #[I l, I r] 3)
        have r3 := Row.new ((wr.alloc (.cells #[I kd, I cal, I l, I r, I nn, I m, .slice A' list.length c', .string name] 75)).alloc (.cells #[I (opn kd), .bool (calB kd), I (shLo kd), I (shHi kd)] 141)) #[I l, I r] 3
        simp only [World.size_alloc] at r2 r3
        exact ⟨((HS.out.below b1).below b2).below b3, (r1.keep b2).keep b3, r2.keep b3, r3, by omega, by omega, by omega⟩)
      go_wp2_with (go_at_call 91; (first | refine (ruWithin_yes _ _ _ _ (by omega) (by first | omega | (rw [IntKind.wrap_i64]; omega))).mono ?_ | refine (ruWithin_no _ _ _ _ (by first | omega | (rw [IntKind.wrap_i64]; omega))).mono ?_); rintro e w9 ⟨rfl, rfl⟩)
      have HLO : Hid (∀ W', Below w.heap.size w W' → Calls Tryz.prog 93 #[.slice A' list.length c', .agg #[I (shLo kd), I (shHi kd)]] W' (Tells (ListG (shLo kd) (shHi kd) list) W')) := Lib.hid (fun W' hb => listOK_any A' c' list.length (shLo kd) (shHi kd) list W' ((HIA.out.keep hb).more hb.size) rfl (by omega))
      have HNU : Hid (∀ W', Calls Tryz.prog 94 #[.agg #[I kd, I cal, I l, I r, I nn, I m, .slice A' list.length c', .string name]] W' (Tells (NumsOK ⟨kd, cal, l, r, nn, m, list, name⟩) W')) := Lib.hid (fun W' => numbersOK_any ⟨kd, cal, l, r, nn, m, list, name⟩ A' c' W' HFN.out HFM.out)
      have HNM : Hid (∀ W', Calls Tryz.prog 92 #[.string name] W' (NameIs name W')) := Lib.hid (fun W' => nameOK_is name W')
      have hop0 : 0 ≤ opn kd := opn_nn kd (by omega)
      have HL64 := Lib.hid hl64'
      have HNODE : Hid (∀ (_ : OPL kd k l) (_ : OPR kd k r) (_ : (calB kd = true ∧ 0 ≤ cal ∧ cal ≤ 2) ∨ (calB kd = false ∧ cal = 0)) (_ : (kd = 18 ∧ NameG name) ∨ (kd ≠ 18 ∧ name = ⟨#[]⟩)) (_ : ListG (shLo kd) (shHi kd) list) (_ : NumsOK ⟨kd, cal, l, r, nn, m, list, name⟩), ∀ i x, i < k + 1 → ns[i]? = some x → NodeOK i x.d.kind.toNat x.d) := Lib.hid (fun a1 a2 a3 a4 a5 a6 i x hi hix => by
        by_cases e : i = k
        · subst e
          rw [HX.out] at hix
          obtain rfl := Option.some.inj hix
          have e2 : ((kd : Int)).toNat = kd := by omega
          show NodeOK i ((kd : Int)).toNat ⟨kd, cal, l, r, nn, m, list, name⟩
          rw [e2]
          exact ⟨rfl, hk1, hk2, HL64.out, a1, a2, a3, a4, a5, a6⟩
        · exact HPRE.out i x (by omega) hix)
      obtain ⟨WX, hWX⟩ : ∃ WX, ((wr.alloc (.cells #[I kd, I cal, I l, I r, I nn, I m, .slice A' list.length c', .string name] 75)).alloc (.cells #[I (opn kd), .bool (calB kd), I (shLo kd), I (shHi kd)] 141)).alloc (.cells #[I l, I r] 3) = WX := ⟨_, rfl⟩
      rw [hWX] at HW1 ⊢
      obtain ⟨nb, hnb⟩ : ∃ nb, wr.heap.size = nb := ⟨_, rfl⟩
      have hnbu : ub < nb := by omega
      rw [hnb] at HW1 ⊢
      have HWR := Lib.hid hnb
      clear f0 f1 f2 f3 f4 f5 f6 f7 t0 t1 t2 t3 hne1 hne2 hne3 hs1 hs2 hbl hWX HS hub hnb hl64 hl64' hkr HPRE HX
      go_loopw [51] (fun i wr' => ∃ q : Nat, q ≤ 2 ∧ i = I q ∧ WI w n tb ub (usAt ⟨kd, cal, l, r, nn, m, list, name⟩ us q) nb #[I kd, I cal, I l, I r, I nn, I m, .slice A' list.length c', .string name] (nb + 1) #[I (opn kd), .bool (calB kd), I (shLo kd), I (shHi kd)] (nb + 2) #[I l, I r] wr' ∧ (1 ≤ q → OPL kd k l) ∧ (2 ≤ q → OPR kd k r)) (fun i _ => 2 - (intOf i).toNat)
      case atStart => exact ⟨0, by omega, rfl, HW1.out, fun h => absurd h (by decide), fun h => absurd h (by decide)⟩
      case round =>
        obtain ⟨q, hq, rfl, hI, hol, hor⟩ := hrel
        have HWI := Lib.hid hI
        have HOL := Lib.hid hol
        have HOR := Lib.hid hor
        clear hI HW1 hol hor
        have hq3 : q = 0 ∨ q = 1 ∨ q = 2 := by omega
        clear hq
        have hwk : IntKind.i64.wrap ((k : Int) - 1) = (k : Int) - 1 := by rw [IntKind.wrap_i64]; omega
        rcases hq3 with rfl | rfl | rfl
        · have o1 : wr.cell? ⟨nb + 2, 0, none⟩ = some (I l) := HWI.out.op.2 0
          have s1 : wr.cell? ⟨nb + 1, 0, none⟩ = some (I (opn kd)) := HWI.out.sh.2 0
          have n1 : wr.cell? ⟨nb, 0, none⟩ = some (I kd) := HWI.out.nd.2 0
          have HWI : Hid (WI w n tb ub us nb #[I kd, I cal, I l, I r, I nn, I m, .slice A' list.length c', .string name] (nb + 1) #[I (opn kd), .bool (calB kd), I (shLo kd), I (shHi kd)] (nb + 2) #[I l, I r] wr) := HWI
          by_cases ho0 : 0 < opn kd
          · by_cases ho1 : 0 ≤ l ∧ l < k
            · have HO1 := Lib.hid ho1
              obtain ⟨on, hon⟩ := natOf ho1.1
              have u1 := HWI.out.wf.cell on (by omega)
              have uf := HWI.out.wf.froz on
              obtain ⟨u, hu⟩ : ∃ u, (us)[on]?.getD 0 = u := ⟨_, rfl⟩
              have hub2 : 0 ≤ u ∧ u ≤ 200 := by have := HLE.out on; rw [← hu]; omega
              have u1' : wr.cell? ⟨ub, on, none⟩ = some (I u) := by rw [← hu]; exact u1
              have hwu : IntKind.i64.wrap (u + 1) = u + 1 := by rw [IntKind.wrap_i64]; omega
              have i2 : (0 : Int) ≤ (on : Int) := by omega
              have i3 : (on : Int) < (n : Int) := by omega
              have HW2 := Lib.hid (HWI.out.put on (u + 1))
              have HU2 : Hid ((us).set on (u + 1) = use0 ⟨kd, cal, l, r, nn, m, list, name⟩ (us)) := Lib.hid (by
                have e : use0 ⟨kd, cal, l, r, nn, m, list, name⟩ (us) = bump (us) on := by
                  show (if 0 < opn ((kd : Int).toNat) then bump (us) l.toNat else (us)) = _
                  rw [if_pos (by simpa using ho0), hon]; simp
                rw [e]; unfold bump; rw [hu])
              rw [hon] at o1 ho1
              clear hu u1 hon
              go_wp2_with (go_at_call 91; (first | refine (ruWithin_yes _ _ _ _ (by omega) (by first | omega | (rw [IntKind.wrap_i64]; omega))).mono ?_ | refine (ruWithin_no _ _ _ _ (by first | omega | (rw [IntKind.wrap_i64]; omega))).mono ?_); rintro e w9 ⟨rfl, rfl⟩)
              go_roundw
              case rel => exact ⟨1, by omega, by go_num, (by have := HW2.out; rw [HU2.out] at this; exact this), fun _ => .inl ⟨ho0, HO1.out⟩, fun h => absurd h (by decide)⟩
              case measure => simp [intOf]
            · go_wp2_with (go_at_call 91; (first | refine (ruWithin_yes _ _ _ _ (by omega) (by first | omega | (rw [IntKind.wrap_i64]; omega))).mono ?_ | refine (ruWithin_no _ _ _ _ (by first | omega | (rw [IntKind.wrap_i64]; omega))).mono ?_); rintro e w9 ⟨rfl, rfl⟩)
              go_ret
              exact Tells.no HWI.out.wf.lo
          · have ho0' : opn kd = 0 := by omega
            have HU2 : Hid (us = use0 ⟨kd, cal, l, r, nn, m, list, name⟩ us) := Lib.hid (by
              show _ = (if 0 < opn ((kd : Int).toNat) then bump us l.toNat else us)
              rw [if_neg (by simp; omega)])
            have HOP := Lib.hid ho0'
            rw [ho0'] at s1
            clear ho0 ho0'
            by_cases hl0 : l = 0
            · have HZ := Lib.hid hl0
              rw [hl0] at o1
              clear hl0
              go_wp2_with fail
              go_roundw
              case rel => exact ⟨1, by omega, by go_num, (by have := HWI.out; rw [HU2.out] at this; exact this), fun _ => .inr ⟨HOP.out, .inl HZ.out⟩, fun h => absurd h (by decide)⟩
              case measure => simp [intOf]
            · have hl1 : (l != 0) = true := by simp [hl0]
              by_cases hk7 : kd = 7
              · have HK7 := Lib.hid hk7
                rw [hk7] at n1
                clear hk7 hl0
                go_wp2_with fail
                go_roundw
                case rel => exact ⟨1, by omega, by go_num, (by have := HWI.out; rw [HU2.out] at this; exact this), fun _ => .inr ⟨HOP.out, .inr HK7.out⟩, fun h => absurd h (by decide)⟩
                case measure => simp [intOf]
              · have hk7' : ((kd : Int) == 7) = false := by simp; omega
                clear hl0
                go_wp2_with fail
                go_ret
                exact Tells.no HWI.out.wf.lo
        · have o1 : wr.cell? ⟨nb + 2, 1, none⟩ = some (I r) := HWI.out.op.2 1
          have s1 : wr.cell? ⟨nb + 1, 0, none⟩ = some (I (opn kd)) := HWI.out.sh.2 0
          have n1 : wr.cell? ⟨nb, 0, none⟩ = some (I kd) := HWI.out.nd.2 0
          have HWI : Hid (WI w n tb ub (use0 ⟨kd, cal, l, r, nn, m, list, name⟩ us) nb #[I kd, I cal, I l, I r, I nn, I m, .slice A' list.length c', .string name] (nb + 1) #[I (opn kd), .bool (calB kd), I (shLo kd), I (shHi kd)] (nb + 2) #[I l, I r] wr) := HWI
          by_cases ho0 : 1 < opn kd
          · by_cases ho1 : 0 ≤ r ∧ r < k
            · have HO1 := Lib.hid ho1
              obtain ⟨on, hon⟩ := natOf ho1.1
              have u1 := HWI.out.wf.cell on (by omega)
              have uf := HWI.out.wf.froz on
              obtain ⟨u, hu⟩ : ∃ u, (use0 ⟨kd, cal, l, r, nn, m, list, name⟩ us)[on]?.getD 0 = u := ⟨_, rfl⟩
              have hub2 : 0 ≤ u ∧ u ≤ 200 := by have := use0_le ⟨kd, cal, l, r, nn, m, list, name⟩ HLE.out on; rw [← hu]; omega
              have u1' : wr.cell? ⟨ub, on, none⟩ = some (I u) := by rw [← hu]; exact u1
              have hwu : IntKind.i64.wrap (u + 1) = u + 1 := by rw [IntKind.wrap_i64]; omega
              have i2 : (0 : Int) ≤ (on : Int) := by omega
              have i3 : (on : Int) < (n : Int) := by omega
              have HW2 := Lib.hid (HWI.out.put on (u + 1))
              have HU2 : Hid ((use0 ⟨kd, cal, l, r, nn, m, list, name⟩ us).set on (u + 1) = use1 ⟨kd, cal, l, r, nn, m, list, name⟩ (use0 ⟨kd, cal, l, r, nn, m, list, name⟩ us)) := Lib.hid (by
                have e : use1 ⟨kd, cal, l, r, nn, m, list, name⟩ (use0 ⟨kd, cal, l, r, nn, m, list, name⟩ us) = bump (use0 ⟨kd, cal, l, r, nn, m, list, name⟩ us) on := by
                  show (if 1 < opn ((kd : Int).toNat) then bump (use0 ⟨kd, cal, l, r, nn, m, list, name⟩ us) r.toNat else (use0 ⟨kd, cal, l, r, nn, m, list, name⟩ us)) = _
                  rw [if_pos (by simpa using ho0), hon]; simp
                rw [e]; unfold bump; rw [hu])
              rw [hon] at o1 ho1
              clear hu u1 hon
              go_wp2_with (go_at_call 91; (first | refine (ruWithin_yes _ _ _ _ (by omega) (by first | omega | (rw [IntKind.wrap_i64]; omega))).mono ?_ | refine (ruWithin_no _ _ _ _ (by first | omega | (rw [IntKind.wrap_i64]; omega))).mono ?_); rintro e w9 ⟨rfl, rfl⟩)
              go_roundw
              case rel => exact ⟨2, by omega, by go_num, (by have := HW2.out; rw [HU2.out] at this; exact this), fun _ => HOL.out (by decide), fun _ => .inl ⟨ho0, HO1.out⟩⟩
              case measure => simp [intOf]
            · go_wp2_with (go_at_call 91; (first | refine (ruWithin_yes _ _ _ _ (by omega) (by first | omega | (rw [IntKind.wrap_i64]; omega))).mono ?_ | refine (ruWithin_no _ _ _ _ (by first | omega | (rw [IntKind.wrap_i64]; omega))).mono ?_); rintro e w9 ⟨rfl, rfl⟩)
              go_ret
              exact Tells.no HWI.out.wf.lo
          · have HU2 : Hid ((use0 ⟨kd, cal, l, r, nn, m, list, name⟩ us) = use1 ⟨kd, cal, l, r, nn, m, list, name⟩ (use0 ⟨kd, cal, l, r, nn, m, list, name⟩ us)) := Lib.hid (by
              show _ = (if 1 < opn ((kd : Int).toNat) then bump (use0 ⟨kd, cal, l, r, nn, m, list, name⟩ us) r.toNat else (use0 ⟨kd, cal, l, r, nn, m, list, name⟩ us))
              rw [if_neg (by simp; omega)])
            have HOP : Hid (opn kd ≤ 1) := Lib.hid (by omega)
            by_cases hl0 : r = 0
            · have HZ := Lib.hid hl0
              rw [hl0] at o1
              clear hl0
              go_wp2_with fail
              go_roundw
              case rel => exact ⟨2, by omega, by go_num, (by have := HWI.out; rw [HU2.out] at this; exact this), fun _ => HOL.out (by decide), fun _ => .inr ⟨HOP.out, HZ.out⟩⟩
              case measure => simp [intOf]
            · have hl1 : (r != 0) = true := by simp [hl0]
              clear hl0
              go_wp2_with fail
              go_ret
              exact Tells.no HWI.out.wf.lo
        · have HWI : Hid (WI w n tb ub (use1 ⟨kd, cal, l, r, nn, m, list, name⟩ (use0 ⟨kd, cal, l, r, nn, m, list, name⟩ us)) nb #[I kd, I cal, I l, I r, I nn, I m, .slice A' list.length c', .string name] (nb + 1) #[I (opn kd), .bool (calB kd), I (shLo kd), I (shHi kd)] (nb + 2) #[I l, I r] wr) := HWI
          rw [← HNX.out] at HWI
          have g0 : wr.cell? ⟨nb, 0, none⟩ = some (I kd) := HWI.out.nd.2 0
          have g1 : wr.cell? ⟨nb, 1, none⟩ = some (I cal) := HWI.out.nd.2 1
          have g6 : wr.cell? ⟨nb, 6, none⟩ = some (.slice A' list.length c') := HWI.out.nd.2 6
          have g7 : wr.cell? ⟨nb, 7, none⟩ = some (.string name) := HWI.out.nd.2 7
          have s1 : wr.cell? ⟨nb + 1, 1, none⟩ = some (.bool (calB kd)) := HWI.out.sh.2 1
          have s2 : wr.cell? ⟨nb + 1, 2, none⟩ = some (I (shLo kd)) := HWI.out.sh.2 2
          have s3 : wr.cell? ⟨nb + 1, 3, none⟩ = some (I (shHi kd)) := HWI.out.sh.2 3
          have HQ : Hid (∀ n', WI w n tb ub (usesTo ds n (k + 1)) nb #[I kd, I cal, I l, I r, I nn, I m, .slice A' list.length c', .string name] (nb + 1) #[I (opn kd), .bool (calB kd), I (shLo kd), I (shHi kd)] (nb + 2) #[I l, I r] (wr.drewN n')) := Lib.hid (fun n' => HWI.out.below (below_drewN' _ _))
          by_cases hk18 : kd = 18
          · have hcb : calB kd = false := by rw [hk18]; rfl
            have HK := Lib.hid hk18
            have HCB := Lib.hid hcb
            rw [hcb] at s1
            have g0' : wr.cell? ⟨nb, 0, none⟩ = some (I 18) := by rw [g0, hk18]; rfl
            clear g0 hk18 hcb
            by_cases hc0 : cal = 0
            · have HC := Lib.hid hc0
              rw [hc0] at g1
              clear hc0
              go_wp2_with fail
              go_quiet (fail)
              go_wp2_with fail
              refine (HNM.out _).mono ?_
              rintro e w4 ⟨b4, rfl, ht4, hb4⟩
              have H4 := Lib.hid ((HQ.out _).below hb4)
              have HT4 := Lib.hid ht4
              have g6' : w4.cell? ⟨nb, 6, none⟩ = some (.slice A' list.length c') := H4.out.nd.2 6
              have s2' : w4.cell? ⟨nb + 1, 2, none⟩ = some (I (shLo kd)) := H4.out.sh.2 2
              have s3' : w4.cell? ⟨nb + 1, 3, none⟩ = some (I (shHi kd)) := H4.out.sh.2 3
              clear hb4 ht4
              cases b4
              · go_wp2_with fail
                go_ret
                exact Tells.no H4.out.wf.lo
              · go_wp2_with fail
                refine (HLO.out _ H4.out.wf.lo).mono ?_
                rintro e w5 ⟨b5, rfl, ht5, hb5⟩
                have H5 := Lib.hid ((H4.out).below hb5)
                have p0 : w5.cell? ⟨nb, 0, none⟩ = some (I kd) := H5.out.nd.2 0
                have p1 : w5.cell? ⟨nb, 1, none⟩ = some (I cal) := H5.out.nd.2 1
                have p2 : w5.cell? ⟨nb, 2, none⟩ = some (I l) := H5.out.nd.2 2
                have p3 : w5.cell? ⟨nb, 3, none⟩ = some (I r) := H5.out.nd.2 3
                have p4 : w5.cell? ⟨nb, 4, none⟩ = some (I nn) := H5.out.nd.2 4
                have p5 : w5.cell? ⟨nb, 5, none⟩ = some (I m) := H5.out.nd.2 5
                have p6 : w5.cell? ⟨nb, 6, none⟩ = some (.slice A' list.length c') := H5.out.nd.2 6
                have p7 : w5.cell? ⟨nb, 7, none⟩ = some (.string name) := H5.out.nd.2 7
                have HT5 := Lib.hid ht5
                clear hb5 ht5
                cases b5
                · go_wp2_with fail
                  go_ret
                  exact Tells.no H5.out.wf.lo
                · go_wp2_with fail
                  refine (HNU.out _).mono ?_
                  rintro e w6 ⟨b6, rfl, ht6, hb6⟩
                  have H6 := Lib.hid (H5.out.below hb6)
                  have HT6 := Lib.hid ht6
                  clear hb6 ht6
                  cases b6
                  · go_wp2_with fail
                    go_ret
                    exact Tells.no H6.out.wf.lo
                  · go_wp2_with fail
                    go_roundw
                    case rel => exact ⟨k + 1, by omega, by go_num, H6.out.wf, HNODE.out (HOL.out (by decide)) (HOR.out (by decide)) (.inr ⟨HCB.out, HC.out⟩) (.inl ⟨HK.out, HT4.out.1 (by first | trivial | rfl)⟩) (HT5.out (by first | trivial | rfl)) (HT6.out (by first | trivial | rfl))⟩
                    case measure => simp [intOf]; omega
            · have hc1 : (cal == 0) = false := by simp [hc0]
              clear hc0
              go_wp2_with fail
              go_quiet (fail)
              go_wp2_with fail
              refine (HNM.out _).mono ?_
              rintro e w4 ⟨b4, rfl, ht4, hb4⟩
              have H4 := Lib.hid ((HQ.out _).below hb4)
              clear hb4 ht4
              cases b4
              all_goals
                go_wp2_with fail
                go_ret
                exact Tells.no H4.out.wf.lo
          · have hk18' : ¬ (kd : Int) = 18 := by omega
            have HK := Lib.hid hk18
            clear hk18
            by_cases hnm : name = ⟨#[]⟩
            · have HN := Lib.hid hnm
              rw [hnm] at g7
              clear hnm
              cases hcb : calB kd with
              | true =>
                have HCB := Lib.hid hcb
                rw [hcb] at s1
                clear hcb
                by_cases hc : 0 ≤ cal ∧ cal ≤ 2
                · have HC := Lib.hid hc
                  go_wp2_with fail
                  go_quiet (fail)
                  go_wp2_with (go_at_call 91; (first | refine (ruWithin_yes _ _ _ _ (by omega) (by first | omega | (rw [IntKind.wrap_i64]; omega))).mono ?_ | refine (ruWithin_no _ _ _ _ (by first | omega | (rw [IntKind.wrap_i64]; omega))).mono ?_); rintro e w9 ⟨rfl, rfl⟩)
                  refine (HLO.out _ (HQ.out _).wf.lo).mono ?_
                  rintro e w5 ⟨b5, rfl, ht5, hb5⟩
                  have H5 := Lib.hid ((HQ.out _).below hb5)
                  have p0 : w5.cell? ⟨nb, 0, none⟩ = some (I kd) := H5.out.nd.2 0
                  have p1 : w5.cell? ⟨nb, 1, none⟩ = some (I cal) := H5.out.nd.2 1
                  have p2 : w5.cell? ⟨nb, 2, none⟩ = some (I l) := H5.out.nd.2 2
                  have p3 : w5.cell? ⟨nb, 3, none⟩ = some (I r) := H5.out.nd.2 3
                  have p4 : w5.cell? ⟨nb, 4, none⟩ = some (I nn) := H5.out.nd.2 4
                  have p5 : w5.cell? ⟨nb, 5, none⟩ = some (I m) := H5.out.nd.2 5
                  have p6 : w5.cell? ⟨nb, 6, none⟩ = some (.slice A' list.length c') := H5.out.nd.2 6
                  have p7 : w5.cell? ⟨nb, 7, none⟩ = some (.string name) := H5.out.nd.2 7
                  have HT5 := Lib.hid ht5
                  clear hb5 ht5
                  cases b5
                  · go_wp2_with fail
                    go_ret
                    exact Tells.no H5.out.wf.lo
                  · go_wp2_with fail
                    refine (HNU.out _).mono ?_
                    rintro e w6 ⟨b6, rfl, ht6, hb6⟩
                    have H6 := Lib.hid (H5.out.below hb6)
                    have HT6 := Lib.hid ht6
                    clear hb6 ht6
                    cases b6
                    · go_wp2_with fail
                      go_ret
                      exact Tells.no H6.out.wf.lo
                    · go_wp2_with fail
                      go_roundw
                      case rel => exact ⟨k + 1, by omega, by go_num, H6.out.wf, HNODE.out (HOL.out (by decide)) (HOR.out (by decide)) (.inl ⟨HCB.out, HC.out⟩) (.inr ⟨HK.out, HN.out⟩) (HT5.out (by first | trivial | rfl)) (HT6.out (by first | trivial | rfl))⟩
                      case measure => simp [intOf]; omega
                · go_wp2_with fail
                  go_quiet (fail)
                  go_wp2_with (go_at_call 91; (first | refine (ruWithin_yes _ _ _ _ (by omega) (by first | omega | (rw [IntKind.wrap_i64]; omega))).mono ?_ | refine (ruWithin_no _ _ _ _ (by first | omega | (rw [IntKind.wrap_i64]; omega))).mono ?_); rintro e w9 ⟨rfl, rfl⟩)
                  go_ret
                  exact Tells.no (HQ.out _).wf.lo
              | false =>
                have HCB := Lib.hid hcb
                rw [hcb] at s1
                clear hcb
                by_cases hc0 : cal = 0
                · have HC := Lib.hid hc0
                  rw [hc0] at g1
                  clear hc0
                  go_wp2_with fail
                  go_quiet (fail)
                  go_wp2_with fail
                  refine (HLO.out _ (HQ.out _).wf.lo).mono ?_
                  rintro e w5 ⟨b5, rfl, ht5, hb5⟩
                  have H5 := Lib.hid ((HQ.out _).below hb5)
                  have p0 : w5.cell? ⟨nb, 0, none⟩ = some (I kd) := H5.out.nd.2 0
                  have p1 : w5.cell? ⟨nb, 1, none⟩ = some (I cal) := H5.out.nd.2 1
                  have p2 : w5.cell? ⟨nb, 2, none⟩ = some (I l) := H5.out.nd.2 2
                  have p3 : w5.cell? ⟨nb, 3, none⟩ = some (I r) := H5.out.nd.2 3
                  have p4 : w5.cell? ⟨nb, 4, none⟩ = some (I nn) := H5.out.nd.2 4
                  have p5 : w5.cell? ⟨nb, 5, none⟩ = some (I m) := H5.out.nd.2 5
                  have p6 : w5.cell? ⟨nb, 6, none⟩ = some (.slice A' list.length c') := H5.out.nd.2 6
                  have p7 : w5.cell? ⟨nb, 7, none⟩ = some (.string name) := H5.out.nd.2 7
                  have HT5 := Lib.hid ht5
                  clear hb5 ht5
                  cases b5
                  · go_wp2_with fail
                    go_ret
                    exact Tells.no H5.out.wf.lo
                  · go_wp2_with fail
                    refine (HNU.out _).mono ?_
                    rintro e w6 ⟨b6, rfl, ht6, hb6⟩
                    have H6 := Lib.hid (H5.out.below hb6)
                    have HT6 := Lib.hid ht6
                    clear hb6 ht6
                    cases b6
                    · go_wp2_with fail
                      go_ret
                      exact Tells.no H6.out.wf.lo
                    · go_wp2_with fail
                      go_roundw
                      case rel => exact ⟨k + 1, by omega, by go_num, H6.out.wf, HNODE.out (HOL.out (by decide)) (HOR.out (by decide)) (.inr ⟨HCB.out, HC.out⟩) (.inr ⟨HK.out, HN.out⟩) (HT5.out (by first | trivial | rfl)) (HT6.out (by first | trivial | rfl))⟩
                      case measure => simp [intOf]; omega
                · have hc1 : (cal == 0) = false := by simp [hc0]
                  clear hc0
                  go_wp2_with fail
                  go_quiet (fail)
                  go_wp2_with fail
                  go_ret
                  exact Tells.no (HQ.out _).wf.lo
            · have hne : name.toList.isEmpty = false := by
                rw [ByteArray.toList_eq, List.isEmpty_eq_false_iff]
                intro h
                apply hnm
                obtain ⟨d⟩ := name
                have h2 : d.size = 0 := by have h3 := congrArg List.length h; simpa using h3
                rw [Array.eq_empty_of_size_eq_zero h2]
              have hne2 : ¬ name.toList = [] := fun h => by rw [h] at hne; cases hne
              clear hnm
              cases hcb : calB kd with
              | true =>
                rw [hcb] at s1
                clear hcb
                by_cases hc : 0 ≤ cal ∧ cal ≤ 2
                · go_wp2_with fail
                  go_quiet (fail)
                  go_wp2_with (go_at_call 91; (first | refine (ruWithin_yes _ _ _ _ (by omega) (by first | omega | (rw [IntKind.wrap_i64]; omega))).mono ?_ | refine (ruWithin_no _ _ _ _ (by first | omega | (rw [IntKind.wrap_i64]; omega))).mono ?_); rintro e w9 ⟨rfl, rfl⟩)
                  go_ret
                  exact Tells.no (HQ.out _).wf.lo
                · go_wp2_with fail
                  go_quiet (fail)
                  go_wp2_with (go_at_call 91; (first | refine (ruWithin_yes _ _ _ _ (by omega) (by first | omega | (rw [IntKind.wrap_i64]; omega))).mono ?_ | refine (ruWithin_no _ _ _ _ (by first | omega | (rw [IntKind.wrap_i64]; omega))).mono ?_); rintro e w9 ⟨rfl, rfl⟩)
                  go_ret
                  exact Tells.no (HQ.out _).wf.lo
              | false =>
                rw [hcb] at s1
                clear hcb
                by_cases hc0 : cal = 0
                · rw [hc0] at g1
                  clear hc0
                  go_wp2_with fail
                  go_quiet (fail)
                  go_wp2_with fail
                  go_ret
                  exact Tells.no (HQ.out _).wf.lo
                · have hc1 : (cal == 0) = false := by simp [hc0]
                  clear hc0
                  go_wp2_with fail
                  go_quiet (fail)
                  go_wp2_with fail
                  go_ret
                  exact Tells.no (HQ.out _).wf.lo
    · have hkn : k = n := by omega
      subst hkn
      have hwn : IntKind.i64.wrap ((k : Int) - 1) = ((k - 1 : Nat) : Int) := by rw [IntKind.wrap_i64]; omega
      have i2 : (0 : Int) ≤ ((k - 1 : Nat) : Int) := by omega
      have i3 : ((k - 1 : Nat) : Int) ≤ (k : Int) := by omega
      have HON : Hid (k - 1 = 0 ∨ ∃ b, some (⟨ub, 0, none⟩ : Addr) = some ⟨b, 0, none⟩ ∧ ∀ j, j < k - 1 → wr.cell? ⟨b, j, none⟩ = some (I ((usesTo ds k k)[j]?.getD 0))) := Lib.hid (.inr ⟨ub, rfl, fun j hj => HS.out.cell j (by omega)⟩)
      go_wp2_with fail
      refine (cont_any _ (k - 1) _ _ _ HON.out (by omega)).mono ?_
      rintro e w5 ⟨b5, rfl, h5, rfl⟩
      cases b5
      · have HR : Hid (RuleOK ns) := Lib.hid (by
          refine ⟨by rw [HL.out]; exact h1, by rw [HL.out]; exact h64, fun i x hx => HPRE.out i x (by have := (List.getElem?_eq_some_iff.1 hx).1; rw [HL.out] at this; exact this) hx, fun j hj => ?_⟩
          rw [HL.out] at hj ⊢
          rw [HDS.out]
          have h := h5 rfl j (by omega)
          have hl := usesTo_len ds k k
          rw [List.getElem?_eq_getElem (by omega)] at h ⊢
          exact congrArg some h)
        clear h5
        go_wp2_with fail
        go_ret
        exact Tells.yes HR.out HS.out.lo
      · clear h5
        go_wp2_with fail
        go_ret
        exact Tells.no HS.out.lo
end Go.Proofs.YthhbbebabmemfaaGreat
