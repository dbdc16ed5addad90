/- Plain helpers: a number that is read. -/
import Derived.Test.YtbdkalpljhpnmaaGreatQa
import Derived.Test.YtbdkalpljhpnmaaGreatBack
import Derived.BigQuiet
import Derived.Deep.AppendLies
import Derived.Deep.CutBlock
import Derived.Deep.DeepCutAuto
import Derived.Deep.DrawnRows
import Derived.Deep.MidRow
import Derived.Deep.QuietTactic
import Derived.Deep.RegionHeld3
import Derived.Deep.RegionLaw
import Derived.Deep.WholeRow
import Derived.Great.BuildSlice
import Derived.Laws.BytesString
import Derived.Laws.CopyOwn
import Derived.Laws.EntriesVeiled
import Derived.Laws.MakeOwn
import Derived.Laws.ResultCell
import Derived.Laws.Rows
import Derived.Laws.Tables
import Derived.Lib.Hide
import Derived.LoopIn
import Derived.LoopNIn
import Derived.Maps.AppendAt
import Derived.Outline
import Derived.OwnWalkIn
import Derived.RangeFuncBound
import Derived.RangeFuncBox
import Derived.RangeFuncCalls
import Derived.RangeFuncLeaves
import Derived.RangeFuncNested
import Derived.Shelf.Abstract
import Derived.Shelf.Bytes.SlSmallAll
import Derived.Shelf.RegionOpen
import Derived.StillTailTactics
import Derived.Stop.BytesEq
import Derived.TacticsInMore
import Derived.WalkKit
import Derived.WalkLawsBesides
import Derived.WalkSpells
import Derived.Laws.Cover3
import Derived.MapKept
namespace Go.Proofs.YtbdkalpljhpnmaaGreat
open Go Go.RowKit

/-- n<<8 | int(c), as the program reckons it. -/
def rstep (s : Int) (c : UInt8) : Int := bits BinOp.or IntKind.i64 (wrap64 (s * 256)) c.toNat
def unle (l : List (Nat × UInt8)) : Int := l.foldl (fun s x => rstep s x.2) 0
theorem unle_snoc (pre : List (Nat × UInt8)) (x : Nat × UInt8) : unle (pre ++ [x]) = rstep (unle pre) x.2 := by simp [unle]
/-- What 'take' gives, what it leaves, and whether the reader has failed behind it. -/
def tkB (rest : List UInt8) (bad : Bool) (size : Nat) : Bool := bad || decide (rest.length < size)
def tk (rest : List UInt8) (bad : Bool) (size : Nat) : List UInt8 := if tkB rest bad size = true then [] else rest.take size
def tkR (rest : List UInt8) (bad : Bool) (size : Nat) : List UInt8 := if tkB rest bad size = true then rest else rest.drop size
theorem tk_le (rest : List UInt8) (bad : Bool) (size : Nat) : (tk rest bad size).length ≤ size := by unfold tk; split <;> simp; omega
/-- The number that 'number(size)' reads. -/
def rdN (rest : List UInt8) (bad : Bool) (size : Nat) : Int := unle (upto (bk (tk rest bad size)) (tk rest bad size).length)
/-- n<<8 | uint64(c), as the program reckons it. -/
def ustep (s : Int) (c : UInt8) : Int := bits BinOp.or IntKind.u64 (IntKind.u64.wrap (s * 256)) c.toNat
def unleU (l : List (Nat × UInt8)) : Int := l.foldl (fun s x => ustep s x.2) 0
/-- The number of eight bytes. -/
def num8 (bs : List UInt8) : Int := wrap64 (unleU (upto (bk bs) bs.length))
end Go.Proofs.YtbdkalpljhpnmaaGreat
