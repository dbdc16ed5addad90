/- bytes.Equal. -/
import Derived.Test.YthhbbebabmemfaaGreatBytesEq
import Derived.BigQuiet
import Derived.Deep.AppendLies
import Derived.Deep.CutBlock
import Derived.Deep.DeepCutAuto
import Derived.Deep.DrawnRows
import Derived.Deep.MidRow
import Derived.Deep.QuietTactic
import Derived.Deep.RegionHeld3
import Derived.Deep.RegionLaw
import Derived.Deep.WholeRow
import Derived.Great.BuildSlice
import Derived.Laws.BytesString
import Derived.Laws.CopyOwn
import Derived.Laws.EntriesVeiled
import Derived.Laws.MakeOwn
import Derived.Laws.ResultCell
import Derived.Laws.Rows
import Derived.Laws.Tables
import Derived.Lib.Hide
import Derived.LoopIn
import Derived.LoopNIn
import Derived.Maps.AppendAt
import Derived.Outline
import Derived.OwnWalkIn
import Derived.RangeFuncBound
import Derived.RangeFuncBox
import Derived.RangeFuncCalls
import Derived.RangeFuncLeaves
import Derived.RangeFuncNested
import Derived.Shelf.Abstract
import Derived.Shelf.Bytes.SlSmallAll
import Derived.Shelf.RegionOpen
import Derived.StillTailTactics
import Derived.Stop.BytesEq
import Derived.TacticsInMore
import Derived.WalkKit
import Derived.WalkLawsBesides
import Derived.WalkSpells
namespace Go.Proofs.YthhbbebabmemfaaGreat
open Go Go.RowKit

def strB (bs : List UInt8) : ByteArray := ⟨bs.toArray⟩
theorem strB_toList (xs : List UInt8) : (strB xs).toList = xs := by rw [Lib.toList_data]; rfl
theorem conv_bytes (A : Option Addr) (bs : List UInt8) (c : Nat) (w : World) (B : Nat) (h : BytesAt w B A bs) :
    (convert 22 9 (.slice A bs.length c)).run Tryz.prog w = .ok (.string (strB bs)) w := by
  have e : strB bs = strOfNums (bs.map fun x => (x.toNat : Int)) := by
    unfold strB strOfNums
    congr 1
    rw [List.map_map]
    congr 1
    rw [show ((fun n : Int => UInt8.ofNat n.toNat) ∘ fun x : UInt8 => (x.toNat : Int)) = id from by funext x; simp]
    simp
  rcases h with h | ⟨b, off, rfl, _, hc⟩
  · obtain rfl := List.eq_nil_of_length_eq_zero h
    exact run_convert_bytes_zero w _ _ Tryz.underlying22 Tryz.underlying5 A c _ Tryz.underlying9
  · rw [e]
    refine run_convert_bytes_arg w _ _ Tryz.underlying22 Tryz.underlying5 b off bs.length c _ (by simp) (fun i hi => ?_) _ Tryz.underlying9
    rw [hc i hi]
    simp [List.getD, hi, Extern.Stop.cell]
set_option maxRecDepth 10000 in
set_option maxHeartbeats 1000000 in
theorem bytesEqual_any (w : World) (A A' : Option Addr) (xs ys : List UInt8) (c d B B' : Nat) (h1 : BytesAt w B A xs) (h2 : BytesAt w B' A' ys) :
    Calls Tryz.prog 23 #[.slice A xs.length c, .slice A' ys.length d] w fun e w' => e = .returned (.bool (xs == ys)) ∧ w' = w := by
  have e1 := conv_bytes A xs c w B h1
  have e2 := conv_bytes A' ys d w B' h2
  clear h1 h2
  go_enter Tryz.func23, Tryz.ntmps23
  go_wp2
  go_ret
  exact ⟨by show Ending.returned (.bool ((strB xs).toList == (strB ys).toList)) = _; rw [strB_toList, strB_toList], rfl⟩
end Go.Proofs.YthhbbebabmemfaaGreat
