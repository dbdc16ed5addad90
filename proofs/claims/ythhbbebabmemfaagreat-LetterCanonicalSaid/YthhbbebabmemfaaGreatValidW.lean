/- letter.Valid, walked, for letters that do not come to series.Valid. -/
import Derived.Test.YthhbbebabmemfaaGreatNumsW
import Derived.Test.YthhbbebabmemfaaGreatOthers
import Derived.BigQuiet
import Derived.Deep.AppendLies
import Derived.Deep.CutBlock
import Derived.Deep.DeepCutAuto
import Derived.Deep.DrawnRows
import Derived.Deep.MidRow
import Derived.Deep.QuietTactic
import Derived.Deep.RegionHeld3
import Derived.Deep.RegionLaw
import Derived.Deep.WholeRow
import Derived.Great.BuildSlice
import Derived.Laws.BytesString
import Derived.Laws.CopyOwn
import Derived.Laws.EntriesVeiled
import Derived.Laws.MakeOwn
import Derived.Laws.ResultCell
import Derived.Laws.Rows
import Derived.Laws.Tables
import Derived.Lib.Hide
import Derived.LoopIn
import Derived.LoopNIn
import Derived.Maps.AppendAt
import Derived.Outline
import Derived.OwnWalkIn
import Derived.RangeFuncBound
import Derived.RangeFuncBox
import Derived.RangeFuncCalls
import Derived.RangeFuncLeaves
import Derived.RangeFuncNested
import Derived.Shelf.Abstract
import Derived.Shelf.Bytes.SlSmallAll
import Derived.Shelf.RegionOpen
import Derived.StillTailTactics
import Derived.Stop.BytesEq
import Derived.TacticsInMore
import Derived.WalkKit
import Derived.WalkLawsBesides
import Derived.WalkSpells
namespace Go.Proofs.YthhbbebabmemfaaGreat
open Go Go.RowKit

abbrev nzOf (l : Lt) : Bool := noSer l.series.rule.length l.series.moves.length l.series
def oth (l : Lt) : Bool := vOthers l (mvZ l.move) (nzOf l) (decide (l.wfrom = 0) && decide (l.wto = 0)) ((l.cells.length : Int) == 0) (l.ref == zero32)
/-- The letter's slices: their addresses and capacities. -/
structure Sl where
  A : Option Addr
  B : Option Addr
  C : Option Addr
  c : Nat
  d : Nat
  e : Nat
def ltVal (l : Lt) (s : Sl) : Array Value := ltCells l (.slice s.A l.series.rule.length s.c) (.slice s.B l.series.moves.length s.d) (.slice s.C l.cells.length s.e)
/-- Sizes that a walk asks for. -/
structure LtOK (l : Lt) : Prop where
  rule : l.series.rule.length ≤ 140737488355328
  moves : l.series.moves.length ≤ 140737488355328
  zone : l.series.zone.size ≤ 140737488355328
  ref : l.ref.length = 32
  cells : l.cells.length ≤ 140737488355328
theorem validNumbers_lt (l : Lt) (s : Sl) (w : World) (h : LtOK l) : Calls Tryz.prog 39 #[.agg (ltVal l s)] w (Gives (.bool (vNums l (bareB l.kind l.series.rule.length l.series.moves.length l.series))) w) :=
  validNumbers_any l s.A s.B _ _ s.c s.d _ w h.rule h.moves h.zone
theorem validOthers_lt (l : Lt) (s : Sl) (w : World) (h : LtOK l) (hi : IntsAt w w.heap.size s.C l.cells) : Calls Tryz.prog 40 #[.agg (ltVal l s)] w (Gives (.bool (oth l)) w) :=
  validOthers_cut l s.A s.B s.C _ _ s.c s.d s.e w h.rule h.moves h.zone h.ref h.cells hi _ _ _ _ _ rfl rfl rfl rfl rfl

def headOK (l : Lt) : Bool := decide (1 ≤ l.kind ∧ l.kind ≤ 18) && srvIn l.src && srvIn l.dst && decide (l.src ≠ l.dst)
def bodyOK (l : Lt) : Bool := vNums l (bareB l.kind l.series.rule.length l.series.moves.length l.series) && oth l
def noSerB (l : Lt) : Bool := !(usesB l.kind 10) || (nzOf l && (decide (l.kind = 8) || decide (l.scope = 1)))
def vCode (l : Lt) (sc : Int) : Int := if headOK l = false then 1 else if bodyOK l = false then 1 else if 65536 < l.cells.length then 2 else if noSerB l = true then 0 else sc

theorem ltVal_get (l : Lt) (s : Sl) (i : Nat) : (ltVal l s)[i]? = (ltCells l (.slice s.A l.series.rule.length s.c) (.slice s.B l.series.moves.length s.d) (.slice s.C l.cells.length s.e))[i]? := rfl
theorem ret_int {a b : Int} (h : a = b) : Ending.returned (I a) = .returned (I b) := by rw [h]
attribute [local go_sem] ltVal_get lt_get0 lt_get1 lt_get2 lt_get10 lt_get17 lt_get18 lt_get19 lt_get20 lt_get21 lt_get22 lt_get23 lt_get29

set_option maxRecDepth 10000 in
set_option maxHeartbeats 2000000 in
theorem valid_head (l : Lt) (s : Sl) (w : World) (h : headOK l = false) : Calls Tryz.prog 12 #[.agg (ltVal l s)] w (Gives (I 1) w) := by
  have HB0 := Lib.hid (below_var w (.cells (ltVal l s) 37))
  obtain ⟨s1, h1⟩ : ∃ x, srvIn l.src = x := ⟨_, rfl⟩
  obtain ⟨s2, h2⟩ : ∃ x, srvIn l.dst = x := ⟨_, rfl⟩
  have he : (l.src == l.dst) = decide (l.src = l.dst) := beq_dec _ _
  unfold headOK at h
  rw [h1, h2] at h
  have H1 := Lib.hid h1
  have H2 := Lib.hid h2
  clear h1 h2
  have hc : l.kind < 1 ∨ 18 < l.kind ∨ (1 ≤ l.kind ∧ l.kind ≤ 18) := by omega
  rcases hc with hk | hk | ⟨hk1, hk2⟩
  · clear h
    go_enter Tryz.func12, Tryz.ntmps12
    go_wp2_with (go_at_call 38; refine (server_any _ _).mono ?_; rintro e w' ⟨rfl, rfl⟩)
    go_ret
    exact ⟨rfl, HB0.out⟩
  · clear h
    go_enter Tryz.func12, Tryz.ntmps12
    go_wp2_with (go_at_call 38; refine (server_any _ _).mono ?_; rintro e w' ⟨rfl, rfl⟩)
    go_ret
    exact ⟨rfl, HB0.out⟩
  · rw [show decide (1 ≤ l.kind ∧ l.kind ≤ 18) = true from decide_eq_true ⟨hk1, hk2⟩] at h
    cases hd : decide (l.src = l.dst) with
    | true =>
      rw [hd] at he
      clear h hd
      cases s1 <;> cases s2
      all_goals
        go_enter Tryz.func12, Tryz.ntmps12
        go_wp2_with (go_at_call 38; refine (server_any _ _).mono ?_; rintro e w' ⟨rfl, rfl⟩; first | rw [H1.out] | rw [H2.out])
        go_ret
        exact ⟨rfl, HB0.out⟩
    | false =>
      rw [hd] at he
      have hne : decide (l.src ≠ l.dst) = true := decide_eq_true (fun e => by rw [decide_eq_true e] at hd; cases hd)
      rw [hne] at h
      clear hd hne
      cases s1 <;> cases s2
      all_goals first
        | (cases h; done)
        | (clear h
           go_enter Tryz.func12, Tryz.ntmps12
           go_wp2_with (go_at_call 38; refine (server_any _ _).mono ?_; rintro e w' ⟨rfl, rfl⟩; first | rw [H1.out] | rw [H2.out])
           go_ret
           exact ⟨rfl, HB0.out⟩)
end Go.Proofs.YthhbbebabmemfaaGreat
