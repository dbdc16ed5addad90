/- Contracts at the letters of the law's fixed examples. -/
import Derived.Test.YthhbbebabmemfaaGreatReadW
import Derived.Test.YthhbbebabmemfaaGreatSame
import Derived.Test.YthhbbebabmemfaaGreatValidB
import Derived.BigQuiet
import Derived.Deep.AppendLies
import Derived.Deep.CutBlock
import Derived.Deep.DeepCutAuto
import Derived.Deep.DrawnRows
import Derived.Deep.MidRow
import Derived.Deep.QuietTactic
import Derived.Deep.RegionHeld3
import Derived.Deep.RegionLaw
import Derived.Deep.WholeRow
import Derived.Great.BuildSlice
import Derived.Laws.BytesString
import Derived.Laws.CopyOwn
import Derived.Laws.EntriesVeiled
import Derived.Laws.MakeOwn
import Derived.Laws.ResultCell
import Derived.Laws.Rows
import Derived.Laws.Tables
import Derived.Lib.Hide
import Derived.LoopIn
import Derived.LoopNIn
import Derived.Maps.AppendAt
import Derived.Outline
import Derived.OwnWalkIn
import Derived.RangeFuncBound
import Derived.RangeFuncBox
import Derived.RangeFuncCalls
import Derived.RangeFuncLeaves
import Derived.RangeFuncNested
import Derived.Shelf.Abstract
import Derived.Shelf.Bytes.SlSmallAll
import Derived.Shelf.RegionOpen
import Derived.StillTailTactics
import Derived.Stop.BytesEq
import Derived.TacticsInMore
import Derived.WalkKit
import Derived.WalkLawsBesides
import Derived.WalkSpells
namespace Go.Proofs.YthhbbebabmemfaaGreat
open Go Go.RowKit

set_option maxRecDepth 10000 in
set_option maxHeartbeats 400000 in
theorem eqInts_zero (A B : Option Addr) (c d : Nat) (w : World) : Calls Tryz.prog 34 #[.slice A 0 c, .slice B 0 d] w (Gives (.bool true) w) := by
  go_enter Tryz.func34, Tryz.ntmps34
  go_wp2
  go_loopw [13] (fun i wr => i = I 0 ∧ wr = w) (fun _ _ => 0)
  case atStart => exact ⟨rfl, rfl⟩
  case round =>
    obtain ⟨rfl, rfl⟩ := hrel
    go_wp2
    go_ret
    exact ⟨rfl, Below.refl _ _⟩
set_option maxRecDepth 10000 in
set_option maxHeartbeats 400000 in
theorem eqMoves_zero (A B : Option Addr) (c d : Nat) (w : World) : Calls Tryz.prog 35 #[.slice A 0 c, .slice B 0 d] w (Gives (.bool true) w) := by
  go_enter Tryz.func35, Tryz.ntmps35
  go_wp2
  go_loopw [13] (fun i wr => i = I 0 ∧ wr = w) (fun _ _ => 0)
  case atStart => exact ⟨rfl, rfl⟩
  case round =>
    obtain ⟨rfl, rfl⟩ := hrel
    go_wp2
    go_ret
    exact ⟨rfl, Below.refl _ _⟩
set_option maxRecDepth 10000 in
set_option maxHeartbeats 400000 in
theorem eqNodes_zero (A B : Option Addr) (c d : Nat) (f : Value) (w : World) : Calls Tryz.prog 36 #[.slice A 0 c, .slice B 0 d, f] w (Gives (.bool true) w) := by
  go_enter Tryz.func36, Tryz.ntmps36
  go_wp2
  go_loopw [17] (fun i wr => i = I 0 ∧ wr = w) (fun _ _ => 0)
  case atStart => exact ⟨rfl, rfl⟩
  case round =>
    obtain ⟨rfl, rfl⟩ := hrel
    go_wp2
    go_ret
    exact ⟨rfl, Below.refl _ _⟩

/-- A letter without lists. -/
structure Bare (l : Lt) : Prop where
  rule : l.series.rule = []
  moves : l.series.moves = []
  zone : l.series.zone.size = 0
  cells : l.cells = []
  ref : l.ref.length = 32
theorem Bare.ok {l : Lt} (h : Bare l) : LtOK l := ⟨by rw [h.rule]; simp, by rw [h.moves]; simp, by rw [h.zone]; simp, h.ref, by rw [h.cells]; simp⟩
theorem same_bare (a b : Lt) (s t : Sl) (w : World) (ha : Bare a) (hb : Bare b) : Calls Tryz.prog 11 #[.agg (ltVal a s), .agg (ltVal b t)] w (Gives (.bool (numsEq a b && headEq a b && serEq a.series b.series)) w) := by
  have := same_any a b s t w ha.ok hb.ok true true true (fun w' _ => by rw [ha.cells, hb.cells]; exact eqInts_zero _ _ _ _ _) (fun w' _ => by rw [ha.moves, hb.moves]; exact eqMoves_zero _ _ _ _ _) (fun w' _ => by rw [ha.rule, hb.rule]; exact eqNodes_zero _ _ _ _ _ _)
  simpa using this
theorem valid_at (l : Lt) (s : Sl) (w : World) (c : Int) (hok : LtOK l) (hi : IntsAt w w.heap.size s.C l.cells) (hh : headOK l = true) (hn : noSerB l = true) (hc : vCode l 0 = c) : Calls Tryz.prog 12 #[.agg (ltVal l s)] w (Gives (I c) w) := by
  have := valid_nos l s w hok hi hh (fun _ _ => hn)
  rwa [hc] at this
def fitsB (n : Int) : Bool := decide (-9223372036854775808 ≤ n) && decide (n ≤ 9223372036854775807)
theorem fits_of {n : Int} (h : fitsB n = true) : fits n := by
  unfold fitsB at h
  rw [Bool.and_eq_true] at h
  exact ⟨of_decide_eq_true h.1, of_decide_eq_true h.2⟩
def allFit (l : Lt) : Bool := fitsB l.kind && fitsB l.src && fitsB l.dst && (List.range 17).all (fun k => fitsB (numF l k)) && fitsB l.move.day && fitsB l.move.toDay && fitsB l.move.minute && fitsB l.move.length && fitsB l.wfrom && fitsB l.wto
theorem bytes_bare (l : Lt) (s : Sl) (w : World) (h : Bare l) (hf : allFit l = true) (hh : headOK l = true) (hn : noSerB l = true) (hu : usesB l.kind 10 = false) (hc : vCode l 0 = 0) :
    Calls Tryz.prog 6 #[.agg (ltVal l s)] w (BytesPost w 0 (ltBytes l [])) := by
  unfold allFit at hf
  simp only [Bool.and_eq_true] at hf
  obtain ⟨⟨⟨⟨⟨⟨⟨⟨⟨h1, h2⟩, h3⟩, h4⟩, h5⟩, h6⟩, h7⟩, h8⟩, h9⟩, h10⟩ := hf
  rw [List.all_eq_true] at h4
  exact bytes_yes l s [] w { ref := h.ref, cells := by rw [h.cells]; simp, sbl := by simp, kind := fits_of h1, src := fits_of h2, dst := fits_of h3, num := fun k hk => fits_of (h4 k (List.mem_range.2 hk)), mday := fits_of h5, mto := fits_of h6, mmin := fits_of h7, mlen := fits_of h8, wfrom := fits_of h9, wto := fits_of h10, fit := fun j hj => by rw [h.cells] at hj; exact absurd hj (by simp), ints := .inl (by rw [h.cells]; rfl), valid := fun w' _ => valid_at l s w' 0 h.ok (.inl (by rw [h.cells]; rfl)) hh hn hc, ser := fun e => by rw [hu] at e; cases e }

def plainLt : Lt := { zLt with kind := 2, src := 1, dst := 0, meeting := 5, edition := 1, person := 17 }
def ackLt : Lt := { zLt with kind := 18, dst := 3, meeting := 258 }
def askLt : Lt := { zLt with kind := 15, dst := 1, person := 2, other := 3, grain := 2, wfrom := -1, wto := 1440 }
def wrongLt : Lt := { askLt with meeting := 1 }
def coarseLt : Lt := { askLt with grain := 0 }
def holdLt : Lt := { zLt with kind := 8, dst := 1, meeting := 4, deadline := 90, cells := [1, 2] }
def fullLt : Lt := { holdLt with state := 1 }
def endLt : Lt := { zLt with kind := 7, dst := 1, meeting := 4, edition := 1 }
def laterLt : Lt := { endLt with edition := 2 }
def wantB : List UInt8 := [2, 1, 0, 5, 0, 0, 0, 0, 0, 0, 0, 1, 0, 0, 0, 0, 0, 0, 0, 17, 0, 0, 0, 0, 0, 0, 0]
theorem bare_plain : Bare plainLt := ⟨rfl, rfl, rfl, rfl, rfl⟩
theorem bare_ack : Bare ackLt := ⟨rfl, rfl, rfl, rfl, rfl⟩
theorem bare_ask : Bare askLt := ⟨rfl, rfl, rfl, rfl, rfl⟩
theorem bare_end : Bare endLt := ⟨rfl, rfl, rfl, rfl, rfl⟩
theorem bare_later : Bare laterLt := ⟨rfl, rfl, rfl, rfl, rfl⟩
theorem plain_bytes : ltBytes plainLt [] = wantB := by kernel_rfl
theorem c_plain : vCode plainLt 0 = 0 := by kernel_rfl
theorem c_ack : vCode ackLt 0 = 0 := by kernel_rfl
theorem c_ask : vCode askLt 0 = 0 := by kernel_rfl
theorem c_wrong : vCode wrongLt 0 = 1 := by kernel_rfl
theorem c_coarse : vCode coarseLt 0 = 1 := by kernel_rfl
theorem c_hold : vCode holdLt 0 = 0 := by kernel_rfl
theorem c_full : vCode fullLt 0 = 1 := by kernel_rfl
theorem c_end : vCode endLt 0 = 1 := by kernel_rfl
theorem c_later : vCode laterLt 0 = 0 := by kernel_rfl
theorem rd_want : rdTo (rdHead wantB) 17 = ⟨plainLt, [], false⟩ := by kernel_rfl
theorem rd_short : rdOK (rdTo (rdHead (wantB.take 26)) 17) = false := by kernel_rfl
end Go.Proofs.YthhbbebabmemfaaGreat
