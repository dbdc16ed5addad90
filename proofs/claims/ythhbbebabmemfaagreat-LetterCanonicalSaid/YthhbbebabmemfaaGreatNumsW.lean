/- letter.validNumbers, walked. -/
import Derived.Test.YthhbbebabmemfaaGreatCells
import Derived.Test.YthhbbebabmemfaaGreatNums
import Derived.BigQuiet
import Derived.Deep.AppendLies
import Derived.Deep.CutBlock
import Derived.Deep.DeepCutAuto
import Derived.Deep.DrawnRows
import Derived.Deep.MidRow
import Derived.Deep.QuietTactic
import Derived.Deep.RegionHeld3
import Derived.Deep.RegionLaw
import Derived.Deep.WholeRow
import Derived.Great.BuildSlice
import Derived.Laws.BytesString
import Derived.Laws.CopyOwn
import Derived.Laws.EntriesVeiled
import Derived.Laws.MakeOwn
import Derived.Laws.ResultCell
import Derived.Laws.Rows
import Derived.Laws.Tables
import Derived.Lib.Hide
import Derived.LoopIn
import Derived.LoopNIn
import Derived.Maps.AppendAt
import Derived.Outline
import Derived.OwnWalkIn
import Derived.RangeFuncBound
import Derived.RangeFuncBox
import Derived.RangeFuncCalls
import Derived.RangeFuncLeaves
import Derived.RangeFuncNested
import Derived.Shelf.Abstract
import Derived.Shelf.Bytes.SlSmallAll
import Derived.Shelf.RegionOpen
import Derived.StillTailTactics
import Derived.Stop.BytesEq
import Derived.TacticsInMore
import Derived.WalkKit
import Derived.WalkLawsBesides
import Derived.WalkSpells
namespace Go.Proofs.YthhbbebabmemfaaGreat
open Go Go.RowKit

attribute [local go_sem] lt_get0 lt_get7 lt_get8 lt_get17 lt_get18 lt_get19 lt_get20 lt_get21 lt_get22 lt_get23
def NumsRel (l : Lt) (cs : Array Value) (bare : Bool) (w : World) (i : Value) (wr : World) : Prop :=
  ∃ k : Nat, k ≤ 17 ∧ i = .int .i64 k ∧ Row wr w.heap.size cs ∧ Below w.heap.size w wr ∧ ∀ j, j < k → numOK l bare j = true

set_option maxRecDepth 10000 in
set_option maxHeartbeats 1000000 in
theorem validNumbers_not8 (l : Lt) (vr vm vc : Value) (n m : Nat) (w : World) (h8 : l.kind ≠ 8) :
    Calls Tryz.prog 39 #[.agg (ltCells l vr vm vc)] w (Gives (.bool (vNums l (bareB l.kind n m l.series))) w) := by
  have hbare : bareB l.kind n m l.series = false := by unfold bareB; rw [decide_eq_false h8]; rfl
  rw [hbare]
  clear hbare
  have b8 : (l.kind == 8) = false := by rw [beq_dec]; exact decide_eq_false h8
  have R0 := Row.new w (ltCells l vr vm vc) 37
  have B0 := below_var w (.cells (ltCells l vr vm vc) 37)
  have H0 := Lib.hid R0
  have HB0 := Lib.hid B0
  clear R0 B0 h8
  go_enter Tryz.func39, Tryz.ntmps39
  go_wp2_with (go_at_call 21; refine (numbers_any _ _).mono ?_; rintro e w1 ⟨rfl, hb1⟩)
  have H1 := Lib.hid (H0.out.keep hb1)
  have HB1 := Lib.hid (below_trans HB0.out hb1)
  clear H0 HB0 hb1
  go_loopw [18] (fun i wr => NumsRel l (ltCells l vr vm vc) false w i wr) (fun i _ => 17 - (intOf i).toNat)
  case atStart => exact ⟨0, by omega, rfl, H1.out, HB1.out, fun j hj => absurd hj (by omega)⟩
  case round =>
    obtain ⟨k, hk, rfl, hrow, hbel, hall⟩ := hrel
    have HR := Lib.hid hrow
    have HB := Lib.hid hbel
    have HA := Lib.hid hall
    clear hrow hbel hall
    by_cases hlt : k < 17
    · have hix := fun W => index_nums w.heap.size k hlt W
      cases ho : numOff k with
      | none =>
        have hp : ptrAt w.heap.size k = .pointer none := by unfold ptrAt; rw [ho]
        rw [hp] at hix
        have HO := Lib.hid ho
        clear ho hp
        go_wp2
        go_roundw
        case rel => exact ⟨k + 1, by omega, by go_num, HR.out, HB.out, fun j hj => by
          rcases Nat.lt_succ_iff_lt_or_eq.1 hj with h | h
          · exact HA.out j h
          · subst h; exact numOK_nil HO.out⟩
        case measure => simp [intOf]; omega
      | some o =>
        have hp : ptrAt w.heap.size k = .pointer (some ⟨w.heap.size, o, none⟩) := by unfold ptrAt; rw [ho]; rfl
        rw [hp] at hix
        have hcell := lt_num l vr vm vc k o hlt ho
        have HO := Lib.hid ho
        clear ho hp
        obtain ⟨x, hx⟩ : ∃ x, numF l k = x := ⟨_, rfl⟩
        rw [hx] at hcell
        have HX := Lib.hid hx
        clear hx
        obtain ⟨u, hu⟩ : ∃ u, usesB l.kind k = u := ⟨_, rfl⟩
        have HU := Lib.hid hu
        clear hu
        obtain ⟨lo, hlo⟩ : ∃ x, limLow l.kind k = x := ⟨_, rfl⟩
        obtain ⟨hi, hhi⟩ : ∃ x, limHigh l.kind k = x := ⟨_, rfl⟩
        have HL := Lib.hid hlo
        have HH := Lib.hid hhi
        clear hlo hhi
        have hr0 := HR.out.2
        cases u with
        | true =>
          go_wp2_with (first
            | (go_at_call 55; refine (limits_any _ _ _ (by omega) (by omega)).mono ?_; rintro e w2 ⟨rfl, hb2⟩; have HR2 := Lib.hid (HR.out.keep hb2); have HB2 := Lib.hid (below_trans HB.out hb2); have hr2 := HR2.out.2; rw [HL.out, HH.out]; clear hb2)
            | (go_at_call 22; refine (uses_any _ _ _ (by omega) (by omega)).mono ?_; rintro e w3 ⟨rfl, hb3⟩; have HR3 := Lib.hid (HR2.out.keep hb3); have HB3 := Lib.hid (below_trans HB2.out hb3); have hr3 := HR3.out.2; rw [HU.out]; clear hb3))
          all_goals first
            | (go_roundw
               case rel => exact ⟨k + 1, by omega, by go_num, HR3.out, HB3.out, fun j hj => by
                 rcases Nat.lt_succ_iff_lt_or_eq.1 hj with h | h
                 · exact HA.out j h
                 · subst h; rw [numOK_lim HO.out (by rw [HU.out]; rfl), HX.out, HL.out, HH.out, decide_eq_true (by omega), decide_eq_true (by omega)]; rfl⟩
               case measure => simp [intOf]; omega)
            | (go_ret
               refine ⟨ret_bool (vNums_no hlt ?_).symm, HB3.out⟩
               rw [numOK_lim HO.out (by rw [HU.out]; rfl), HX.out, HL.out, HH.out]
               rw [Bool.and_eq_false_iff, decide_eq_false_iff_not, decide_eq_false_iff_not]
               omega)
        | false =>
          go_wp2_with (first
            | (go_at_call 55; refine (limits_any _ _ _ (by omega) (by omega)).mono ?_; rintro e w2 ⟨rfl, hb2⟩; have HR2 := Lib.hid (HR.out.keep hb2); have HB2 := Lib.hid (below_trans HB.out hb2); have hr2 := HR2.out.2; rw [HL.out, HH.out]; clear hb2)
            | (go_at_call 22; refine (uses_any _ _ _ (by omega) (by omega)).mono ?_; rintro e w3 ⟨rfl, hb3⟩; have HR3 := Lib.hid (HR2.out.keep hb3); have HB3 := Lib.hid (below_trans HB2.out hb3); have hr3 := HR3.out.2; rw [HU.out]; clear hb3))
          all_goals first
            | (go_roundw
               case rel => exact ⟨k + 1, by omega, by go_num, HR3.out, HB3.out, fun j hj => by
                 rcases Nat.lt_succ_iff_lt_or_eq.1 hj with h | h
                 · exact HA.out j h
                 · subst h; rw [numOK_zero HO.out (by rw [HU.out]; rfl), HX.out, decide_eq_true (by omega), decide_eq_true (by omega)]; rfl⟩
               case measure => simp [intOf]; omega)
            | (go_ret
               refine ⟨ret_bool (vNums_no hlt ?_).symm, HB3.out⟩
               rw [numOK_zero HO.out (by rw [HU.out]; rfl), HX.out]
               rw [Bool.and_eq_false_iff, decide_eq_false_iff_not, decide_eq_false_iff_not]
               omega)
    · have HE := Lib.hid (vNums_end (l := l) (bare := false) (fun j hj => HA.out j (by omega)))
      have hr0 := HR.out.2
      have b5 : (l.kind != 5) = decide (l.kind ≠ 5) := neq_dec _ _
      have b6 : (l.other != l.person) = decide (l.other ≠ l.person) := neq_dec _ _
      cases e5 : decide (l.kind ≠ 5)
      all_goals
        rw [e5] at b5 HE
        have H5 := Lib.hid e5
        clear e5
        go_wp2
        go_ret
        exact ⟨ret_bool (by rw [HE.out]; first | rfl | simp), HB.out⟩

set_option maxRecDepth 10000 in
set_option maxHeartbeats 1000000 in
theorem validNumbers_8f (l : Lt) (A B : Option Addr) (n m c d : Nat) (vc : Value) (w : World) (h8 : l.kind = 8) (hn : n ≤ 140737488355328) (hm : m ≤ 140737488355328) (hz : l.series.zone.size ≤ 140737488355328) (hbare : noSer n m l.series = false) :
    Calls Tryz.prog 39 #[.agg (ltCells l (.slice A n c) (.slice B m d) vc)] w (Gives (.bool (vNums l false)) w) := by
  have b8 : (l.kind == 8) = true := by rw [beq_dec]; exact decide_eq_true h8
  have HBR := Lib.hid hbare
  have H0 := Lib.hid (Row.new w (ltCells l (.slice A n c) (.slice B m d) vc) 37)
  have HB0 := Lib.hid (below_var w (.cells (ltCells l (.slice A n c) (.slice B m d) vc) 37))
  clear h8 hbare
  go_enter Tryz.func39, Tryz.ntmps39
  go_wp2_with (first
    | (go_at_call 41; refine (noSeries_ex _ _ _ _ _ _ _ _ hn hm hz).mono ?_; rintro e wn ⟨rfl, hbn⟩; have HN := Lib.hid (H0.out.keep hbn); have HBN := Lib.hid (below_trans HB0.out hbn); rw [HBR.out]; clear hbn)
    | (go_at_call 21; refine (numbers_any _ _).mono ?_; rintro e w1 ⟨rfl, hb1⟩))
  have H1 := Lib.hid (HN.out.keep hb1)
  have HB1 := Lib.hid (below_trans HBN.out hb1)
  clear HN HBN hb1
  go_loopw [18] (fun i wr => NumsRel l (ltCells l (.slice A n c) (.slice B m d) vc) false w i wr) (fun i _ => 17 - (intOf i).toNat)
  case atStart => exact ⟨0, by omega, rfl, H1.out, HB1.out, fun j hj => absurd hj (by omega)⟩
  case round =>
    obtain ⟨k, hk, rfl, hrow, hbel, hall⟩ := hrel
    have HR := Lib.hid hrow
    have HB := Lib.hid hbel
    have HA := Lib.hid hall
    clear hrow hbel hall
    by_cases hlt : k < 17
    · have hix := fun W => index_nums w.heap.size k hlt W
      cases ho : numOff k with
      | none =>
        have hp : ptrAt w.heap.size k = .pointer none := by unfold ptrAt; rw [ho]
        rw [hp] at hix
        have HO := Lib.hid ho
        clear ho hp
        go_wp2
        go_roundw
        case rel => exact ⟨k + 1, by omega, by go_num, HR.out, HB.out, fun j hj => by
          rcases Nat.lt_succ_iff_lt_or_eq.1 hj with h | h
          · exact HA.out j h
          · subst h; exact numOK_nil HO.out⟩
        case measure => simp [intOf]; omega
      | some o =>
        have hp : ptrAt w.heap.size k = .pointer (some ⟨w.heap.size, o, none⟩) := by unfold ptrAt; rw [ho]; rfl
        rw [hp] at hix
        have hcell := lt_num l (.slice A n c) (.slice B m d) vc k o hlt ho
        have HO := Lib.hid ho
        clear ho hp
        obtain ⟨x, hx⟩ : ∃ x, numF l k = x := ⟨_, rfl⟩
        rw [hx] at hcell
        have HX := Lib.hid hx
        clear hx
        obtain ⟨u, hu⟩ : ∃ u, usesB l.kind k = u := ⟨_, rfl⟩
        have HU := Lib.hid hu
        clear hu
        obtain ⟨lo, hlo⟩ : ∃ x, limLow l.kind k = x := ⟨_, rfl⟩
        obtain ⟨hi, hhi⟩ : ∃ x, limHigh l.kind k = x := ⟨_, rfl⟩
        have HL := Lib.hid hlo
        have HH := Lib.hid hhi
        clear hlo hhi
        have hr0 := HR.out.2
        cases u with
        | true =>
          go_wp2_with (first
            | (go_at_call 55; refine (limits_any _ _ _ (by omega) (by omega)).mono ?_; rintro e w2 ⟨rfl, hb2⟩; have HR2 := Lib.hid (HR.out.keep hb2); have HB2 := Lib.hid (below_trans HB.out hb2); have hr2 := HR2.out.2; rw [HL.out, HH.out]; clear hb2)
            | (go_at_call 22; refine (uses_any _ _ _ (by omega) (by omega)).mono ?_; rintro e w3 ⟨rfl, hb3⟩; have HR3 := Lib.hid (HR2.out.keep hb3); have HB3 := Lib.hid (below_trans HB2.out hb3); have hr3 := HR3.out.2; rw [HU.out]; clear hb3))
          all_goals first
            | (go_roundw
               case rel => exact ⟨k + 1, by omega, by go_num, HR3.out, HB3.out, fun j hj => by
                 rcases Nat.lt_succ_iff_lt_or_eq.1 hj with h | h
                 · exact HA.out j h
                 · subst h; rw [numOK_lim HO.out (by rw [HU.out]; rfl), HX.out, HL.out, HH.out, decide_eq_true (by omega), decide_eq_true (by omega)]; rfl⟩
               case measure => simp [intOf]; omega)
            | (go_ret
               refine ⟨ret_bool (vNums_no hlt ?_).symm, HB3.out⟩
               rw [numOK_lim HO.out (by rw [HU.out]; rfl), HX.out, HL.out, HH.out]
               rw [Bool.and_eq_false_iff, decide_eq_false_iff_not, decide_eq_false_iff_not]
               omega)
        | false =>
          go_wp2_with (first
            | (go_at_call 55; refine (limits_any _ _ _ (by omega) (by omega)).mono ?_; rintro e w2 ⟨rfl, hb2⟩; have HR2 := Lib.hid (HR.out.keep hb2); have HB2 := Lib.hid (below_trans HB.out hb2); have hr2 := HR2.out.2; rw [HL.out, HH.out]; clear hb2)
            | (go_at_call 22; refine (uses_any _ _ _ (by omega) (by omega)).mono ?_; rintro e w3 ⟨rfl, hb3⟩; have HR3 := Lib.hid (HR2.out.keep hb3); have HB3 := Lib.hid (below_trans HB2.out hb3); have hr3 := HR3.out.2; rw [HU.out]; clear hb3))
          all_goals first
            | (go_roundw
               case rel => exact ⟨k + 1, by omega, by go_num, HR3.out, HB3.out, fun j hj => by
                 rcases Nat.lt_succ_iff_lt_or_eq.1 hj with h | h
                 · exact HA.out j h
                 · subst h; rw [numOK_zero HO.out (by rw [HU.out]; rfl), HX.out, decide_eq_true (by omega), decide_eq_true (by omega)]; rfl⟩
               case measure => simp [intOf]; omega)
            | (go_ret
               refine ⟨ret_bool (vNums_no hlt ?_).symm, HB3.out⟩
               rw [numOK_zero HO.out (by rw [HU.out]; rfl), HX.out]
               rw [Bool.and_eq_false_iff, decide_eq_false_iff_not, decide_eq_false_iff_not]
               omega)
    · have HE := Lib.hid (vNums_end (l := l) (bare := false) (fun j hj => HA.out j (by omega)))
      have hr0 := HR.out.2
      have b5 : (l.kind != 5) = decide (l.kind ≠ 5) := neq_dec _ _
      have b6 : (l.other != l.person) = decide (l.other ≠ l.person) := neq_dec _ _
      cases e5 : decide (l.kind ≠ 5)
      all_goals
        rw [e5] at b5 HE
        have H5 := Lib.hid e5
        clear e5
        go_wp2
        go_ret
        exact ⟨ret_bool (by rw [HE.out]; first | rfl | simp), HB.out⟩

set_option maxRecDepth 10000 in
set_option maxHeartbeats 1000000 in
theorem validNumbers_8t (l : Lt) (A B : Option Addr) (n m c d : Nat) (vc : Value) (w : World) (h8 : l.kind = 8) (hn : n ≤ 140737488355328) (hm : m ≤ 140737488355328) (hz : l.series.zone.size ≤ 140737488355328) (hbare : noSer n m l.series = true) :
    Calls Tryz.prog 39 #[.agg (ltCells l (.slice A n c) (.slice B m d) vc)] w (Gives (.bool (vNums l true)) w) := by
  have b8 : (l.kind == 8) = true := by rw [beq_dec]; exact decide_eq_true h8
  have HBR := Lib.hid hbare
  have H0 := Lib.hid (Row.new w (ltCells l (.slice A n c) (.slice B m d) vc) 37)
  have HB0 := Lib.hid (below_var w (.cells (ltCells l (.slice A n c) (.slice B m d) vc) 37))
  clear h8 hbare
  go_enter Tryz.func39, Tryz.ntmps39
  go_wp2_with (first
    | (go_at_call 41; refine (noSeries_ex _ _ _ _ _ _ _ _ hn hm hz).mono ?_; rintro e wn ⟨rfl, hbn⟩; have HN := Lib.hid (H0.out.keep hbn); have HBN := Lib.hid (below_trans HB0.out hbn); rw [HBR.out]; clear hbn)
    | (go_at_call 21; refine (numbers_any _ _).mono ?_; rintro e w1 ⟨rfl, hb1⟩))
  have H1 := Lib.hid (HN.out.keep hb1)
  have HB1 := Lib.hid (below_trans HBN.out hb1)
  clear HN HBN hb1
  go_loopw [18] (fun i wr => NumsRel l (ltCells l (.slice A n c) (.slice B m d) vc) true w i wr) (fun i _ => 17 - (intOf i).toNat)
  case atStart => exact ⟨0, by omega, rfl, H1.out, HB1.out, fun j hj => absurd hj (by omega)⟩
  case round =>
    obtain ⟨k, hk, rfl, hrow, hbel, hall⟩ := hrel
    have HR := Lib.hid hrow
    have HB := Lib.hid hbel
    have HA := Lib.hid hall
    clear hrow hbel hall
    by_cases hlt : k < 17
    · have hix := fun W => index_nums w.heap.size k hlt W
      cases ho : numOff k with
      | none =>
        have hp : ptrAt w.heap.size k = .pointer none := by unfold ptrAt; rw [ho]
        rw [hp] at hix
        have HO := Lib.hid ho
        clear ho hp
        go_wp2
        go_roundw
        case rel => exact ⟨k + 1, by omega, by go_num, HR.out, HB.out, fun j hj => by
          rcases Nat.lt_succ_iff_lt_or_eq.1 hj with h | h
          · exact HA.out j h
          · subst h; exact numOK_nil HO.out⟩
        case measure => simp [intOf]; omega
      | some o =>
        have hp : ptrAt w.heap.size k = .pointer (some ⟨w.heap.size, o, none⟩) := by unfold ptrAt; rw [ho]; rfl
        rw [hp] at hix
        have hcell := lt_num l (.slice A n c) (.slice B m d) vc k o hlt ho
        have HO := Lib.hid ho
        clear ho hp
        obtain ⟨x, hx⟩ : ∃ x, numF l k = x := ⟨_, rfl⟩
        rw [hx] at hcell
        have HX := Lib.hid hx
        clear hx
        obtain ⟨u, hu⟩ : ∃ u, usesB l.kind k = u := ⟨_, rfl⟩
        have HU := Lib.hid hu
        clear hu
        obtain ⟨lo, hlo⟩ : ∃ x, limLow l.kind k = x := ⟨_, rfl⟩
        obtain ⟨hi, hhi⟩ : ∃ x, limHigh l.kind k = x := ⟨_, rfl⟩
        have HL := Lib.hid hlo
        have HH := Lib.hid hhi
        clear hlo hhi
        have hr0 := HR.out.2
        cases u with
        | true =>
          by_cases hsp : k = 4 ∨ k = 5 ∨ k = 6 ∨ k = 12
          · rcases hsp with rfl | rfl | rfl | rfl
            · have hix' : ∀ W, (Instr.index 58 (.agg (numPtrs w.heap.size)) (.int .i64 4)).run Tryz.prog W = .ok (.pointer (some ⟨w.heap.size, o, none⟩)) W := hix
              go_wp2_with (first
                | (go_at_call 55; refine (limits_any _ _ _ (by omega) (by omega)).mono ?_; rintro e w2 ⟨rfl, hb2⟩; have HR2 := Lib.hid (HR.out.keep hb2); have HB2 := Lib.hid (below_trans HB.out hb2); have hr2 := HR2.out.2; clear hb2)
                | (go_at_call 22; refine (uses_any _ _ _ (by omega) (by omega)).mono ?_; rintro e w3 ⟨rfl, hb3⟩; have HR3 := Lib.hid (HR2.out.keep hb3); have HB3 := Lib.hid (below_trans HB2.out hb3); have hr3 := HR3.out.2; rw [show usesB l.kind 4 = true from HU.out]; clear hb3))
              all_goals first
                | (go_ret
                   refine ⟨ret_bool (vNums_no hlt ?_).symm, HB3.out⟩
                   rw [numOK_zero HO.out (by rw [HU.out]; rfl), HX.out]
                   rw [Bool.and_eq_false_iff, decide_eq_false_iff_not, decide_eq_false_iff_not]
                   omega)
                | (go_roundw
                   case rel => exact ⟨5, by omega, by first | rfl | go_num, HR3.out, HB3.out, fun j hj => by
                     rcases Nat.lt_succ_iff_lt_or_eq.1 hj with h | h
                     · exact HA.out j h
                     · subst h; rw [numOK_zero HO.out (by rw [HU.out]; rfl), HX.out, decide_eq_true (by omega), decide_eq_true (by omega)]; rfl⟩
                   case measure => simp [intOf])
            · have hix' : ∀ W, (Instr.index 58 (.agg (numPtrs w.heap.size)) (.int .i64 5)).run Tryz.prog W = .ok (.pointer (some ⟨w.heap.size, o, none⟩)) W := hix
              go_wp2_with (first
                | (go_at_call 55; refine (limits_any _ _ _ (by omega) (by omega)).mono ?_; rintro e w2 ⟨rfl, hb2⟩; have HR2 := Lib.hid (HR.out.keep hb2); have HB2 := Lib.hid (below_trans HB.out hb2); have hr2 := HR2.out.2; clear hb2)
                | (go_at_call 22; refine (uses_any _ _ _ (by omega) (by omega)).mono ?_; rintro e w3 ⟨rfl, hb3⟩; have HR3 := Lib.hid (HR2.out.keep hb3); have HB3 := Lib.hid (below_trans HB2.out hb3); have hr3 := HR3.out.2; rw [show usesB l.kind 5 = true from HU.out]; clear hb3))
              all_goals first
                | (go_ret
                   refine ⟨ret_bool (vNums_no hlt ?_).symm, HB3.out⟩
                   rw [numOK_zero HO.out (by rw [HU.out]; rfl), HX.out]
                   rw [Bool.and_eq_false_iff, decide_eq_false_iff_not, decide_eq_false_iff_not]
                   omega)
                | (go_roundw
                   case rel => exact ⟨6, by omega, by first | rfl | go_num, HR3.out, HB3.out, fun j hj => by
                     rcases Nat.lt_succ_iff_lt_or_eq.1 hj with h | h
                     · exact HA.out j h
                     · subst h; rw [numOK_zero HO.out (by rw [HU.out]; rfl), HX.out, decide_eq_true (by omega), decide_eq_true (by omega)]; rfl⟩
                   case measure => simp [intOf])
            · have hix' : ∀ W, (Instr.index 58 (.agg (numPtrs w.heap.size)) (.int .i64 6)).run Tryz.prog W = .ok (.pointer (some ⟨w.heap.size, o, none⟩)) W := hix
              go_wp2_with (first
                | (go_at_call 55; refine (limits_any _ _ _ (by omega) (by omega)).mono ?_; rintro e w2 ⟨rfl, hb2⟩; have HR2 := Lib.hid (HR.out.keep hb2); have HB2 := Lib.hid (below_trans HB.out hb2); have hr2 := HR2.out.2; clear hb2)
                | (go_at_call 22; refine (uses_any _ _ _ (by omega) (by omega)).mono ?_; rintro e w3 ⟨rfl, hb3⟩; have HR3 := Lib.hid (HR2.out.keep hb3); have HB3 := Lib.hid (below_trans HB2.out hb3); have hr3 := HR3.out.2; rw [show usesB l.kind 6 = true from HU.out]; clear hb3))
              all_goals first
                | (go_ret
                   refine ⟨ret_bool (vNums_no hlt ?_).symm, HB3.out⟩
                   rw [numOK_zero HO.out (by rw [HU.out]; rfl), HX.out]
                   rw [Bool.and_eq_false_iff, decide_eq_false_iff_not, decide_eq_false_iff_not]
                   omega)
                | (go_roundw
                   case rel => exact ⟨7, by omega, by first | rfl | go_num, HR3.out, HB3.out, fun j hj => by
                     rcases Nat.lt_succ_iff_lt_or_eq.1 hj with h | h
                     · exact HA.out j h
                     · subst h; rw [numOK_zero HO.out (by rw [HU.out]; rfl), HX.out, decide_eq_true (by omega), decide_eq_true (by omega)]; rfl⟩
                   case measure => simp [intOf])
            · have hix' : ∀ W, (Instr.index 58 (.agg (numPtrs w.heap.size)) (.int .i64 12)).run Tryz.prog W = .ok (.pointer (some ⟨w.heap.size, o, none⟩)) W := hix
              go_wp2_with (first
                | (go_at_call 55; refine (limits_any _ _ _ (by omega) (by omega)).mono ?_; rintro e w2 ⟨rfl, hb2⟩; have HR2 := Lib.hid (HR.out.keep hb2); have HB2 := Lib.hid (below_trans HB.out hb2); have hr2 := HR2.out.2; clear hb2)
                | (go_at_call 22; refine (uses_any _ _ _ (by omega) (by omega)).mono ?_; rintro e w3 ⟨rfl, hb3⟩; have HR3 := Lib.hid (HR2.out.keep hb3); have HB3 := Lib.hid (below_trans HB2.out hb3); have hr3 := HR3.out.2; rw [show usesB l.kind 12 = true from HU.out]; clear hb3))
              all_goals first
                | (go_ret
                   refine ⟨ret_bool (vNums_no hlt ?_).symm, HB3.out⟩
                   rw [numOK_zero HO.out (by rw [HU.out]; rfl), HX.out]
                   rw [Bool.and_eq_false_iff, decide_eq_false_iff_not, decide_eq_false_iff_not]
                   omega)
                | (go_roundw
                   case rel => exact ⟨13, by omega, by first | rfl | go_num, HR3.out, HB3.out, fun j hj => by
                     rcases Nat.lt_succ_iff_lt_or_eq.1 hj with h | h
                     · exact HA.out j h
                     · subst h; rw [numOK_zero HO.out (by rw [HU.out]; rfl), HX.out, decide_eq_true (by omega), decide_eq_true (by omega)]; rfl⟩
                   case measure => simp [intOf])
          have e4 : ((k : Int) == 4) = false := by rw [beq_dec]; exact decide_eq_false (by omega)
          have e5 : ((k : Int) == 5) = false := by rw [beq_dec]; exact decide_eq_false (by omega)
          have e6 : ((k : Int) == 6) = false := by rw [beq_dec]; exact decide_eq_false (by omega)
          have e12 : ((k : Int) == 12) = false := by rw [beq_dec]; exact decide_eq_false (by omega)
          have hspB : specialB k = false := by simp [specialB]; omega
          have HSP := Lib.hid hspB
          clear hspB
          go_wp2_with (first
            | (go_at_call 55; refine (limits_any _ _ _ (by omega) (by omega)).mono ?_; rintro e w2 ⟨rfl, hb2⟩; have HR2 := Lib.hid (HR.out.keep hb2); have HB2 := Lib.hid (below_trans HB.out hb2); have hr2 := HR2.out.2; rw [HL.out, HH.out]; clear hb2)
            | (go_at_call 22; refine (uses_any _ _ _ (by omega) (by omega)).mono ?_; rintro e w3 ⟨rfl, hb3⟩; have HR3 := Lib.hid (HR2.out.keep hb3); have HB3 := Lib.hid (below_trans HB2.out hb3); have hr3 := HR3.out.2; rw [HU.out]; clear hb3))
          all_goals first
            | (go_roundw
               case rel => exact ⟨k + 1, by omega, by go_num, HR3.out, HB3.out, fun j hj => by
                 rcases Nat.lt_succ_iff_lt_or_eq.1 hj with h | h
                 · exact HA.out j h
                 · subst h; rw [numOK_lim HO.out (by rw [HU.out, HSP.out]; rfl), HX.out, HL.out, HH.out, decide_eq_true (by omega), decide_eq_true (by omega)]; rfl⟩
               case measure => simp [intOf]; omega)
            | (go_ret
               refine ⟨ret_bool (vNums_no hlt ?_).symm, HB3.out⟩
               rw [numOK_lim HO.out (by rw [HU.out, HSP.out]; rfl), HX.out, HL.out, HH.out]
               rw [Bool.and_eq_false_iff, decide_eq_false_iff_not, decide_eq_false_iff_not]
               omega)
        | false =>
          go_wp2_with (first
            | (go_at_call 55; refine (limits_any _ _ _ (by omega) (by omega)).mono ?_; rintro e w2 ⟨rfl, hb2⟩; have HR2 := Lib.hid (HR.out.keep hb2); have HB2 := Lib.hid (below_trans HB.out hb2); have hr2 := HR2.out.2; rw [HL.out, HH.out]; clear hb2)
            | (go_at_call 22; refine (uses_any _ _ _ (by omega) (by omega)).mono ?_; rintro e w3 ⟨rfl, hb3⟩; have HR3 := Lib.hid (HR2.out.keep hb3); have HB3 := Lib.hid (below_trans HB2.out hb3); have hr3 := HR3.out.2; rw [HU.out]; clear hb3))
          all_goals first
            | (go_roundw
               case rel => exact ⟨k + 1, by omega, by go_num, HR3.out, HB3.out, fun j hj => by
                 rcases Nat.lt_succ_iff_lt_or_eq.1 hj with h | h
                 · exact HA.out j h
                 · subst h; rw [numOK_zero HO.out (by rw [HU.out]; rfl), HX.out, decide_eq_true (by omega), decide_eq_true (by omega)]; rfl⟩
               case measure => simp [intOf]; omega)
            | (go_ret
               refine ⟨ret_bool (vNums_no hlt ?_).symm, HB3.out⟩
               rw [numOK_zero HO.out (by rw [HU.out]; rfl), HX.out]
               rw [Bool.and_eq_false_iff, decide_eq_false_iff_not, decide_eq_false_iff_not]
               omega)
    · have HE := Lib.hid (vNums_end (l := l) (bare := true) (fun j hj => HA.out j (by omega)))
      have hr0 := HR.out.2
      have b5 : (l.kind != 5) = decide (l.kind ≠ 5) := neq_dec _ _
      have b6 : (l.other != l.person) = decide (l.other ≠ l.person) := neq_dec _ _
      cases e5 : decide (l.kind ≠ 5)
      all_goals
        rw [e5] at b5 HE
        have H5 := Lib.hid e5
        clear e5
        go_wp2
        go_ret
        exact ⟨ret_bool (by rw [HE.out]; first | rfl | simp), HB.out⟩

theorem validNumbers_any (l : Lt) (A B : Option Addr) (n m c d : Nat) (vc : Value) (w : World) (hn : n ≤ 140737488355328) (hm : m ≤ 140737488355328) (hz : l.series.zone.size ≤ 140737488355328) :
    Calls Tryz.prog 39 #[.agg (ltCells l (.slice A n c) (.slice B m d) vc)] w (Gives (.bool (vNums l (bareB l.kind n m l.series))) w) := by
  by_cases h8 : l.kind = 8
  · have e : bareB l.kind n m l.series = noSer n m l.series := by unfold bareB; rw [decide_eq_true h8]; rfl
    rw [e]
    cases hb : noSer n m l.series with
    | true => exact validNumbers_8t l A B n m c d vc w h8 hn hm hz hb
    | false => exact validNumbers_8f l A B n m c d vc w h8 hn hm hz hb
  · exact validNumbers_not8 l _ _ _ n m w h8
end Go.Proofs.YthhbbebabmemfaaGreat
