/- letter.validChange. -/
import Derived.Test.YthhbbebabmemfaaGreatCells
import Derived.Test.YthhbbebabmemfaaGreatEql
import Derived.Test.YthhbbebabmemfaaGreatNums
import Derived.BigQuiet
import Derived.Deep.AppendLies
import Derived.Deep.CutBlock
import Derived.Deep.DeepCutAuto
import Derived.Deep.DrawnRows
import Derived.Deep.MidRow
import Derived.Deep.QuietTactic
import Derived.Deep.RegionHeld3
import Derived.Deep.RegionLaw
import Derived.Deep.WholeRow
import Derived.Great.BuildSlice
import Derived.Laws.BytesString
import Derived.Laws.CopyOwn
import Derived.Laws.EntriesVeiled
import Derived.Laws.MakeOwn
import Derived.Laws.ResultCell
import Derived.Laws.Rows
import Derived.Laws.Tables
import Derived.Lib.Hide
import Derived.LoopIn
import Derived.LoopNIn
import Derived.Maps.AppendAt
import Derived.Outline
import Derived.OwnWalkIn
import Derived.RangeFuncBound
import Derived.RangeFuncBox
import Derived.RangeFuncCalls
import Derived.RangeFuncLeaves
import Derived.RangeFuncNested
import Derived.Shelf.Abstract
import Derived.Shelf.Bytes.SlSmallAll
import Derived.Shelf.RegionOpen
import Derived.StillTailTactics
import Derived.Stop.BytesEq
import Derived.TacticsInMore
import Derived.WalkKit
import Derived.WalkLawsBesides
import Derived.WalkSpells
namespace Go.Proofs.YthhbbebabmemfaaGreat
open Go Go.RowKit

def mvZ (m : Mv) : Bool := decide (m.day = 0) && (m.drop == false) && decide (m.toDay = 0) && decide (m.minute = 0) && decide (m.length = 0)
def vChange (l : Lt) (nz : Bool) : Bool :=
  if l.scope = 1 then vMove l.move && decide (l.move.day = l.day) && nz else if l.scope = 3 then mvZ l.move && decide (l.day = 0) else mvZ l.move
theorem validMove_ex (m : Mv) (w : World) : Calls Tryz.prog 56 #[.agg #[I m.day, .bool m.drop, I m.toDay, I m.minute, I m.length]] w (Gives (.bool (vMove m)) w) := validMove_any m w

attribute [local go_sem] lt_get10 lt_get11 lt_get12 lt_get13 lt_get14 lt_get15 lt_get16 lt_get17 lt_get18 lt_get19 lt_get20 lt_get21 lt_get22 lt_get23
set_option maxRecDepth 10000 in
set_option maxHeartbeats 1000000 in
theorem validChange_any (l : Lt) (A B : Option Addr) (n m c d : Nat) (vc : Value) (w : World) (hn : n ≤ 140737488355328) (hm : m ≤ 140737488355328) (hz : l.series.zone.size ≤ 140737488355328) :
    Calls Tryz.prog 57 #[.agg (ltCells l (.slice A n c) (.slice B m d) vc)] w (Gives (.bool (vChange l (noSer n m l.series))) w) := by
  have heqm := fun W => eql_move l.move.day l.move.toDay l.move.minute l.move.length 0 0 0 0 l.move.drop false W
  obtain ⟨mz, hmz⟩ : ∃ x, mvZ l.move = x := ⟨_, rfl⟩
  rw [show (decide (l.move.day = 0) && (l.move.drop == false) && decide (l.move.toDay = 0) && decide (l.move.minute = 0) && decide (l.move.length = 0)) = mz from hmz] at heqm
  obtain ⟨vm', hvm⟩ : ∃ x, vMove l.move = x := ⟨_, rfl⟩
  obtain ⟨nz, hnz⟩ : ∃ x, noSer n m l.series = x := ⟨_, rfl⟩
  have HM := Lib.hid hmz
  have HV := Lib.hid hvm
  have HN := Lib.hid hnz
  clear hmz hvm hnz
  have H0 := Lib.hid (Row.new w (ltCells l (.slice A n c) (.slice B m d) vc) 37)
  have HB0 := Lib.hid (below_var w (.cells (ltCells l (.slice A n c) (.slice B m d) vc) 37))
  by_cases h1 : l.scope = 1
  · have b1 : (l.scope == 1) = true := by rw [beq_dec]; exact decide_eq_true h1
    have bd : (l.move.day == l.day) = decide (l.move.day = l.day) := beq_dec _ _
    have HE : Hid (vChange l (noSer n m l.series) = (vm' && decide (l.move.day = l.day) && nz)) := by unfold vChange; rw [if_pos h1, HV.out, HN.out]; exact rfl
    rw [HE.out]
    clear h1 heqm HE
    cases vm' <;> cases hd : decide (l.move.day = l.day)
    all_goals
      rw [hd] at bd
      clear hd
      go_enter Tryz.func57, Tryz.ntmps57
      go_wp2_with (first
        | (go_at_call 56; refine (validMove_ex _ _).mono ?_; rintro e w1 ⟨rfl, hb1⟩; have H1 := Lib.hid (H0.out.keep hb1); have HB1 := Lib.hid (below_trans HB0.out hb1); have hr1 := H1.out.2; rw [HV.out]; clear hb1)
        | (go_at_call 41; refine (noSeries_ex _ _ _ _ _ _ _ _ hn hm hz).mono ?_; rintro e w2 ⟨rfl, hb2⟩; have HB2 := Lib.hid (below_trans HB1.out hb2); rw [HN.out]; clear hb2))
      go_ret
      first | exact ⟨rfl, HB2.out⟩ | exact ⟨rfl, HB1.out⟩
  · have b1 : (l.scope == 1) = false := by rw [beq_dec]; exact decide_eq_false h1
    by_cases h3 : l.scope = 3
    · have b3 : (l.scope == 3) = true := by rw [beq_dec]; exact decide_eq_true h3
      have bd : (l.day == 0) = decide (l.day = 0) := beq_dec _ _
      have HE : Hid (vChange l (noSer n m l.series) = (mz && decide (l.day = 0))) := by unfold vChange; rw [if_neg h1, if_pos h3, HM.out]; exact rfl
      rw [HE.out]
      clear h1 h3 HE
      cases mz
      all_goals
        go_enter Tryz.func57, Tryz.ntmps57
        go_wp2
        go_ret
        refine ⟨ret_bool ?_, HB0.out⟩
        first | rfl | (rw [Bool.true_and]; rfl) | simp
    · have b3 : (l.scope == 3) = false := by rw [beq_dec]; exact decide_eq_false h3
      have HE : Hid (vChange l (noSer n m l.series) = mz) := by unfold vChange; rw [if_neg h1, if_neg h3, HM.out]; exact rfl
      rw [HE.out]
      clear h1 h3 HE
      go_enter Tryz.func57, Tryz.ntmps57
      go_wp2
      go_ret
      exact ⟨rfl, HB0.out⟩
end Go.Proofs.YthhbbebabmemfaaGreat
