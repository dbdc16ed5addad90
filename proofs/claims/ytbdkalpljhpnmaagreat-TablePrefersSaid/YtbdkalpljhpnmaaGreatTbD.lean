/- Zones and tables as data, and how they lie in memory. -/
import Derived.Test.YtbdkalpljhpnmaaGreatTbC
import Derived.Test.YtbdkalpljhpnmaaGreatQa
import Derived.BigQuiet
import Derived.Deep.AppendLies
import Derived.Deep.CutBlock
import Derived.Deep.DeepCutAuto
import Derived.Deep.DrawnRows
import Derived.Deep.MidRow
import Derived.Deep.QuietTactic
import Derived.Deep.RegionHeld3
import Derived.Deep.RegionLaw
import Derived.Deep.WholeRow
import Derived.Great.BuildSlice
import Derived.Laws.BytesString
import Derived.Laws.CopyOwn
import Derived.Laws.EntriesVeiled
import Derived.Laws.MakeOwn
import Derived.Laws.ResultCell
import Derived.Laws.Rows
import Derived.Laws.Tables
import Derived.Lib.Hide
import Derived.LoopIn
import Derived.LoopNIn
import Derived.Maps.AppendAt
import Derived.Outline
import Derived.OwnWalkIn
import Derived.RangeFuncBound
import Derived.RangeFuncBox
import Derived.RangeFuncCalls
import Derived.RangeFuncLeaves
import Derived.RangeFuncNested
import Derived.Shelf.Abstract
import Derived.Shelf.Bytes.SlSmallAll
import Derived.Shelf.RegionOpen
import Derived.StillTailTactics
import Derived.Stop.BytesEq
import Derived.TacticsInMore
import Derived.WalkKit
import Derived.WalkLawsBesides
import Derived.WalkSpells
namespace Go.Proofs.YtbdkalpljhpnmaaGreat
open Go Go.RowKit

structure Tr where
  at_ : Int
  off : Int
structure Yr where
  month : Int
  week : Int
  wday : Int
  minute : Int
  off : Int
structure Zn where
  cal : Cal
  start : Int
  trans : List Tr
  hor : Int
  yearly : List Yr
/-- A zone's slices: months, leap rules, transitions, yearly rules. -/
structure Zs where
  A : Option Addr
  a : Nat
  B : Option Addr
  b : Nat
  C : Option Addr
  c : Nat
  D : Option Addr
  d : Nat
def znCells (z : Zn) (s : Zs) : Array Value := #[I z.cal.epoch, .slice s.A z.cal.months.length s.a, I z.cal.leap, .slice s.B z.cal.rules.length s.b, I z.start, .slice s.C z.trans.length s.c, I z.hor, .slice s.D z.yearly.length s.d]
/-- A zone without transitions and yearly rules. -/
structure ZnFlat (z : Zn) : Prop where
  cal : CalFlat z.cal
  start : -1080 ≤ z.start ∧ z.start ≤ 1080
  trans : z.trans = []
  hor : -2251799813685248 ≤ z.hor ∧ z.hor ≤ 2251799813685248
  yearly : z.yearly = []
set_option maxRecDepth 10000 in
set_option maxHeartbeats 1000000 in
theorem zwithin_any (n l : Int) (w : World) (hl : 0 ≤ l ∧ l ≤ 4503599627370496) : Calls Tryz.prog 60 #[I n, I l] w fun e w' => e = .returned (.bool (decide (-l ≤ n) && decide (n ≤ l))) ∧ w' = w := by
  have hw : IntKind.i64.wrap (-l) = -l := by rw [IntKind.wrap_i64]; omega
  by_cases h1 : -l ≤ n
  · by_cases h2 : n ≤ l
    · have e : (decide (-l ≤ n) && decide (n ≤ l)) = true := by rw [decide_eq_true h1, decide_eq_true h2]; rfl
      rw [e]
      go_enter Tryz.func60, Tryz.ntmps60
      go_wp2
      go_ret
      exact ⟨rfl, rfl⟩
    · have e : (decide (-l ≤ n) && decide (n ≤ l)) = false := by rw [decide_eq_false h2]; simp
      rw [e]
      go_enter Tryz.func60, Tryz.ntmps60
      go_wp2
      go_ret
      exact ⟨rfl, rfl⟩
  · have e : (decide (-l ≤ n) && decide (n ≤ l)) = false := by rw [decide_eq_false h1]; simp
    rw [e]
    go_enter Tryz.func60, Tryz.ntmps60
    go_wp2
    go_ret
    exact ⟨rfl, rfl⟩
theorem zn_size (z : Zn) (s : Zs) : (Tryz.prog.info? 41).map (·.size) = some (znCells z s).size := by kernel_rfl
theorem zn_one (z : Zn) (s : Zs) : (znCells z s).all (·.oneCell') = true := by kernel_rfl
end Go.Proofs.YtbdkalpljhpnmaaGreat
