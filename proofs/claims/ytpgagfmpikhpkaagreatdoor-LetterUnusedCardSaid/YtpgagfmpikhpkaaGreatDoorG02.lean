/- The texts NumsW, Eql, Change, Writer, Writers, Mk, in this order. -/
import Derived.Test.YtpgagfmpikhpkaaGreatDoorG01
import Derived.Maps.AppendAt
import Derived.BigQuiet
/- letter.validNumbers, walked. -/
namespace Go.Proofs.YtpgagfmpikhpkaaGreatDoor
open Go Go.RowKit

attribute [local go_sem] lt_get0 lt_get7 lt_get8 lt_get17 lt_get18 lt_get19 lt_get20 lt_get21 lt_get22 lt_get23
def NumsRel (l : Lt) (cs : Array Value) (bare : Bool) (w : World) (i : Value) (wr : World) : Prop :=
  ∃ k : Nat, k ≤ 17 ∧ i = .int .i64 k ∧ Row wr w.heap.size cs ∧ Below w.heap.size w wr ∧ ∀ j, j < k → numOK l bare j = true

set_option maxRecDepth 10000 in
set_option maxHeartbeats 1000000 in
theorem validNumbers_not8 (l : Lt) (vr vm vc : Value) (n m : Nat) (w : World) (h8 : l.kind ≠ 8) :
    Calls Tryz.prog 40 #[.agg (ltCells l vr vm vc)] w (Gives (.bool (vNums l (bareB l.kind n m l.series))) w) := by
  have hbare : bareB l.kind n m l.series = false := by unfold bareB; rw [decide_eq_false h8]; rfl
  rw [hbare]
  clear hbare
  have b8 : (l.kind == 8) = false := by rw [beq_dec]; exact decide_eq_false h8
  have R0 := Row.new w (ltCells l vr vm vc) 36
  have B0 := below_var w (.cells (ltCells l vr vm vc) 36)
  have H0 := Lib.hid R0
  have HB0 := Lib.hid B0
  clear R0 B0 h8
  go_enter Tryz.func40, Tryz.ntmps40
  go_wp2_with (go_at_call 26; refine (numbers_any _ _).mono ?_; rintro e w1 ⟨rfl, hb1⟩)
  have H1 := Lib.hid (H0.out.keep hb1)
  have HB1 := Lib.hid (below_trans HB0.out hb1)
  clear H0 HB0 hb1
  go_loopw [18] (fun i wr => NumsRel l (ltCells l vr vm vc) false w i wr) (fun i _ => 17 - (intOf i).toNat)
  case atStart => exact ⟨0, by omega, rfl, H1.out, HB1.out, fun j hj => absurd hj (by omega)⟩
  case round =>
    obtain ⟨k, hk, rfl, hrow, hbel, hall⟩ := hrel
    have HR := Lib.hid hrow
    have HB := Lib.hid hbel
    have HA := Lib.hid hall
    clear hrow hbel hall
    by_cases hlt : k < 17
    · have hix := fun W => index_nums w.heap.size k hlt W
      cases ho : numOff k with
      | none =>
        have hp : ptrAt w.heap.size k = .pointer none := by unfold ptrAt; rw [ho]
        rw [hp] at hix
        have HO := Lib.hid ho
        clear ho hp
        go_wp2
        go_roundw
        case rel => exact ⟨k + 1, by omega, by go_num, HR.out, HB.out, fun j hj => by
          rcases Nat.lt_succ_iff_lt_or_eq.1 hj with h | h
          · exact HA.out j h
          · subst h; exact numOK_nil HO.out⟩
        case measure => simp [intOf]; omega
      | some o =>
        have hp : ptrAt w.heap.size k = .pointer (some ⟨w.heap.size, o, none⟩) := by unfold ptrAt; rw [ho]; rfl
        rw [hp] at hix
        have hcell := lt_num l vr vm vc k o hlt ho
        have HO := Lib.hid ho
        clear ho hp
        obtain ⟨x, hx⟩ : ∃ x, numF l k = x := ⟨_, rfl⟩
        rw [hx] at hcell
        have HX := Lib.hid hx
        clear hx
        obtain ⟨u, hu⟩ : ∃ u, usesB l.kind k = u := ⟨_, rfl⟩
        have HU := Lib.hid hu
        clear hu
        obtain ⟨lo, hlo⟩ : ∃ x, limLow l.kind k = x := ⟨_, rfl⟩
        obtain ⟨hi, hhi⟩ : ∃ x, limHigh l.kind k = x := ⟨_, rfl⟩
        have HL := Lib.hid hlo
        have HH := Lib.hid hhi
        clear hlo hhi
        have hr0 := HR.out.2
        cases u with
        | true =>
          go_wp2_with (first
            | (go_at_call 59; refine (limits_any _ _ _ (by omega) (by omega)).mono ?_; rintro e w2 ⟨rfl, hb2⟩; have HR2 := Lib.hid (HR.out.keep hb2); have HB2 := Lib.hid (below_trans HB.out hb2); have hr2 := HR2.out.2; rw [HL.out, HH.out]; clear hb2)
            | (go_at_call 37; refine (uses_any _ _ _ (by omega) (by omega)).mono ?_; rintro e w3 ⟨rfl, hb3⟩; have HR3 := Lib.hid (HR2.out.keep hb3); have HB3 := Lib.hid (below_trans HB2.out hb3); have hr3 := HR3.out.2; rw [HU.out]; clear hb3))
          all_goals first
            | (go_roundw
               case rel => exact ⟨k + 1, by omega, by go_num, HR3.out, HB3.out, fun j hj => by
                 rcases Nat.lt_succ_iff_lt_or_eq.1 hj with h | h
                 · exact HA.out j h
                 · subst h; rw [numOK_lim HO.out (by rw [HU.out]; rfl), HX.out, HL.out, HH.out, decide_eq_true (by omega), decide_eq_true (by omega)]; rfl⟩
               case measure => simp [intOf]; omega)
            | (go_ret
               refine ⟨ret_bool (vNums_no hlt ?_).symm, HB3.out⟩
               rw [numOK_lim HO.out (by rw [HU.out]; rfl), HX.out, HL.out, HH.out]
               rw [Bool.and_eq_false_iff, decide_eq_false_iff_not, decide_eq_false_iff_not]
               omega)
        | false =>
          go_wp2_with (first
            | (go_at_call 59; refine (limits_any _ _ _ (by omega) (by omega)).mono ?_; rintro e w2 ⟨rfl, hb2⟩; have HR2 := Lib.hid (HR.out.keep hb2); have HB2 := Lib.hid (below_trans HB.out hb2); have hr2 := HR2.out.2; rw [HL.out, HH.out]; clear hb2)
            | (go_at_call 37; refine (uses_any _ _ _ (by omega) (by omega)).mono ?_; rintro e w3 ⟨rfl, hb3⟩; have HR3 := Lib.hid (HR2.out.keep hb3); have HB3 := Lib.hid (below_trans HB2.out hb3); have hr3 := HR3.out.2; rw [HU.out]; clear hb3))
          all_goals first
            | (go_roundw
               case rel => exact ⟨k + 1, by omega, by go_num, HR3.out, HB3.out, fun j hj => by
                 rcases Nat.lt_succ_iff_lt_or_eq.1 hj with h | h
                 · exact HA.out j h
                 · subst h; rw [numOK_zero HO.out (by rw [HU.out]; rfl), HX.out, decide_eq_true (by omega), decide_eq_true (by omega)]; rfl⟩
               case measure => simp [intOf]; omega)
            | (go_ret
               refine ⟨ret_bool (vNums_no hlt ?_).symm, HB3.out⟩
               rw [numOK_zero HO.out (by rw [HU.out]; rfl), HX.out]
               rw [Bool.and_eq_false_iff, decide_eq_false_iff_not, decide_eq_false_iff_not]
               omega)
    · have HE := Lib.hid (vNums_end (l := l) (bare := false) (fun j hj => HA.out j (by omega)))
      have hr0 := HR.out.2
      have b5 : (l.kind != 5) = decide (l.kind ≠ 5) := neq_dec _ _
      have b6 : (l.other != l.person) = decide (l.other ≠ l.person) := neq_dec _ _
      cases e5 : decide (l.kind ≠ 5)
      all_goals
        rw [e5] at b5 HE
        have H5 := Lib.hid e5
        clear e5
        go_wp2
        go_ret
        exact ⟨ret_bool (by rw [HE.out]; first | rfl | simp), HB.out⟩

set_option maxRecDepth 10000 in
set_option maxHeartbeats 1000000 in
theorem validNumbers_8f (l : Lt) (A B : Option Addr) (n m c d : Nat) (vc : Value) (w : World) (h8 : l.kind = 8) (hn : n ≤ 140737488355328) (hm : m ≤ 140737488355328) (hz : l.series.zone.size ≤ 140737488355328) (hbare : noSer n m l.series = false) :
    Calls Tryz.prog 40 #[.agg (ltCells l (.slice A n c) (.slice B m d) vc)] w (Gives (.bool (vNums l false)) w) := by
  have b8 : (l.kind == 8) = true := by rw [beq_dec]; exact decide_eq_true h8
  have HBR := Lib.hid hbare
  have H0 := Lib.hid (Row.new w (ltCells l (.slice A n c) (.slice B m d) vc) 36)
  have HB0 := Lib.hid (below_var w (.cells (ltCells l (.slice A n c) (.slice B m d) vc) 36))
  clear h8 hbare
  go_enter Tryz.func40, Tryz.ntmps40
  go_wp2_with (first
    | (go_at_call 42; refine (noSeries_ex _ _ _ _ _ _ _ _ hn hm hz).mono ?_; rintro e wn ⟨rfl, hbn⟩; have HN := Lib.hid (H0.out.keep hbn); have HBN := Lib.hid (below_trans HB0.out hbn); rw [HBR.out]; clear hbn)
    | (go_at_call 26; refine (numbers_any _ _).mono ?_; rintro e w1 ⟨rfl, hb1⟩))
  have H1 := Lib.hid (HN.out.keep hb1)
  have HB1 := Lib.hid (below_trans HBN.out hb1)
  clear HN HBN hb1
  go_loopw [18] (fun i wr => NumsRel l (ltCells l (.slice A n c) (.slice B m d) vc) false w i wr) (fun i _ => 17 - (intOf i).toNat)
  case atStart => exact ⟨0, by omega, rfl, H1.out, HB1.out, fun j hj => absurd hj (by omega)⟩
  case round =>
    obtain ⟨k, hk, rfl, hrow, hbel, hall⟩ := hrel
    have HR := Lib.hid hrow
    have HB := Lib.hid hbel
    have HA := Lib.hid hall
    clear hrow hbel hall
    by_cases hlt : k < 17
    · have hix := fun W => index_nums w.heap.size k hlt W
      cases ho : numOff k with
      | none =>
        have hp : ptrAt w.heap.size k = .pointer none := by unfold ptrAt; rw [ho]
        rw [hp] at hix
        have HO := Lib.hid ho
        clear ho hp
        go_wp2
        go_roundw
        case rel => exact ⟨k + 1, by omega, by go_num, HR.out, HB.out, fun j hj => by
          rcases Nat.lt_succ_iff_lt_or_eq.1 hj with h | h
          · exact HA.out j h
          · subst h; exact numOK_nil HO.out⟩
        case measure => simp [intOf]; omega
      | some o =>
        have hp : ptrAt w.heap.size k = .pointer (some ⟨w.heap.size, o, none⟩) := by unfold ptrAt; rw [ho]; rfl
        rw [hp] at hix
        have hcell := lt_num l (.slice A n c) (.slice B m d) vc k o hlt ho
        have HO := Lib.hid ho
        clear ho hp
        obtain ⟨x, hx⟩ : ∃ x, numF l k = x := ⟨_, rfl⟩
        rw [hx] at hcell
        have HX := Lib.hid hx
        clear hx
        obtain ⟨u, hu⟩ : ∃ u, usesB l.kind k = u := ⟨_, rfl⟩
        have HU := Lib.hid hu
        clear hu
        obtain ⟨lo, hlo⟩ : ∃ x, limLow l.kind k = x := ⟨_, rfl⟩
        obtain ⟨hi, hhi⟩ : ∃ x, limHigh l.kind k = x := ⟨_, rfl⟩
        have HL := Lib.hid hlo
        have HH := Lib.hid hhi
        clear hlo hhi
        have hr0 := HR.out.2
        cases u with
        | true =>
          go_wp2_with (first
            | (go_at_call 59; refine (limits_any _ _ _ (by omega) (by omega)).mono ?_; rintro e w2 ⟨rfl, hb2⟩; have HR2 := Lib.hid (HR.out.keep hb2); have HB2 := Lib.hid (below_trans HB.out hb2); have hr2 := HR2.out.2; rw [HL.out, HH.out]; clear hb2)
            | (go_at_call 37; refine (uses_any _ _ _ (by omega) (by omega)).mono ?_; rintro e w3 ⟨rfl, hb3⟩; have HR3 := Lib.hid (HR2.out.keep hb3); have HB3 := Lib.hid (below_trans HB2.out hb3); have hr3 := HR3.out.2; rw [HU.out]; clear hb3))
          all_goals first
            | (go_roundw
               case rel => exact ⟨k + 1, by omega, by go_num, HR3.out, HB3.out, fun j hj => by
                 rcases Nat.lt_succ_iff_lt_or_eq.1 hj with h | h
                 · exact HA.out j h
                 · subst h; rw [numOK_lim HO.out (by rw [HU.out]; rfl), HX.out, HL.out, HH.out, decide_eq_true (by omega), decide_eq_true (by omega)]; rfl⟩
               case measure => simp [intOf]; omega)
            | (go_ret
               refine ⟨ret_bool (vNums_no hlt ?_).symm, HB3.out⟩
               rw [numOK_lim HO.out (by rw [HU.out]; rfl), HX.out, HL.out, HH.out]
               rw [Bool.and_eq_false_iff, decide_eq_false_iff_not, decide_eq_false_iff_not]
               omega)
        | false =>
          go_wp2_with (first
            | (go_at_call 59; refine (limits_any _ _ _ (by omega) (by omega)).mono ?_; rintro e w2 ⟨rfl, hb2⟩; have HR2 := Lib.hid (HR.out.keep hb2); have HB2 := Lib.hid (below_trans HB.out hb2); have hr2 := HR2.out.2; rw [HL.out, HH.out]; clear hb2)
            | (go_at_call 37; refine (uses_any _ _ _ (by omega) (by omega)).mono ?_; rintro e w3 ⟨rfl, hb3⟩; have HR3 := Lib.hid (HR2.out.keep hb3); have HB3 := Lib.hid (below_trans HB2.out hb3); have hr3 := HR3.out.2; rw [HU.out]; clear hb3))
          all_goals first
            | (go_roundw
               case rel => exact ⟨k + 1, by omega, by go_num, HR3.out, HB3.out, fun j hj => by
                 rcases Nat.lt_succ_iff_lt_or_eq.1 hj with h | h
                 · exact HA.out j h
                 · subst h; rw [numOK_zero HO.out (by rw [HU.out]; rfl), HX.out, decide_eq_true (by omega), decide_eq_true (by omega)]; rfl⟩
               case measure => simp [intOf]; omega)
            | (go_ret
               refine ⟨ret_bool (vNums_no hlt ?_).symm, HB3.out⟩
               rw [numOK_zero HO.out (by rw [HU.out]; rfl), HX.out]
               rw [Bool.and_eq_false_iff, decide_eq_false_iff_not, decide_eq_false_iff_not]
               omega)
    · have HE := Lib.hid (vNums_end (l := l) (bare := false) (fun j hj => HA.out j (by omega)))
      have hr0 := HR.out.2
      have b5 : (l.kind != 5) = decide (l.kind ≠ 5) := neq_dec _ _
      have b6 : (l.other != l.person) = decide (l.other ≠ l.person) := neq_dec _ _
      cases e5 : decide (l.kind ≠ 5)
      all_goals
        rw [e5] at b5 HE
        have H5 := Lib.hid e5
        clear e5
        go_wp2
        go_ret
        exact ⟨ret_bool (by rw [HE.out]; first | rfl | simp), HB.out⟩

set_option maxRecDepth 10000 in
set_option maxHeartbeats 1000000 in
theorem validNumbers_8t (l : Lt) (A B : Option Addr) (n m c d : Nat) (vc : Value) (w : World) (h8 : l.kind = 8) (hn : n ≤ 140737488355328) (hm : m ≤ 140737488355328) (hz : l.series.zone.size ≤ 140737488355328) (hbare : noSer n m l.series = true) :
    Calls Tryz.prog 40 #[.agg (ltCells l (.slice A n c) (.slice B m d) vc)] w (Gives (.bool (vNums l true)) w) := by
  have b8 : (l.kind == 8) = true := by rw [beq_dec]; exact decide_eq_true h8
  have HBR := Lib.hid hbare
  have H0 := Lib.hid (Row.new w (ltCells l (.slice A n c) (.slice B m d) vc) 36)
  have HB0 := Lib.hid (below_var w (.cells (ltCells l (.slice A n c) (.slice B m d) vc) 36))
  clear h8 hbare
  go_enter Tryz.func40, Tryz.ntmps40
  go_wp2_with (first
    | (go_at_call 42; refine (noSeries_ex _ _ _ _ _ _ _ _ hn hm hz).mono ?_; rintro e wn ⟨rfl, hbn⟩; have HN := Lib.hid (H0.out.keep hbn); have HBN := Lib.hid (below_trans HB0.out hbn); rw [HBR.out]; clear hbn)
    | (go_at_call 26; refine (numbers_any _ _).mono ?_; rintro e w1 ⟨rfl, hb1⟩))
  have H1 := Lib.hid (HN.out.keep hb1)
  have HB1 := Lib.hid (below_trans HBN.out hb1)
  clear HN HBN hb1
  go_loopw [18] (fun i wr => NumsRel l (ltCells l (.slice A n c) (.slice B m d) vc) true w i wr) (fun i _ => 17 - (intOf i).toNat)
  case atStart => exact ⟨0, by omega, rfl, H1.out, HB1.out, fun j hj => absurd hj (by omega)⟩
  case round =>
    obtain ⟨k, hk, rfl, hrow, hbel, hall⟩ := hrel
    have HR := Lib.hid hrow
    have HB := Lib.hid hbel
    have HA := Lib.hid hall
    clear hrow hbel hall
    by_cases hlt : k < 17
    · have hix := fun W => index_nums w.heap.size k hlt W
      cases ho : numOff k with
      | none =>
        have hp : ptrAt w.heap.size k = .pointer none := by unfold ptrAt; rw [ho]
        rw [hp] at hix
        have HO := Lib.hid ho
        clear ho hp
        go_wp2
        go_roundw
        case rel => exact ⟨k + 1, by omega, by go_num, HR.out, HB.out, fun j hj => by
          rcases Nat.lt_succ_iff_lt_or_eq.1 hj with h | h
          · exact HA.out j h
          · subst h; exact numOK_nil HO.out⟩
        case measure => simp [intOf]; omega
      | some o =>
        have hp : ptrAt w.heap.size k = .pointer (some ⟨w.heap.size, o, none⟩) := by unfold ptrAt; rw [ho]; rfl
        rw [hp] at hix
        have hcell := lt_num l (.slice A n c) (.slice B m d) vc k o hlt ho
        have HO := Lib.hid ho
        clear ho hp
        obtain ⟨x, hx⟩ : ∃ x, numF l k = x := ⟨_, rfl⟩
        rw [hx] at hcell
        have HX := Lib.hid hx
        clear hx
        obtain ⟨u, hu⟩ : ∃ u, usesB l.kind k = u := ⟨_, rfl⟩
        have HU := Lib.hid hu
        clear hu
        obtain ⟨lo, hlo⟩ : ∃ x, limLow l.kind k = x := ⟨_, rfl⟩
        obtain ⟨hi, hhi⟩ : ∃ x, limHigh l.kind k = x := ⟨_, rfl⟩
        have HL := Lib.hid hlo
        have HH := Lib.hid hhi
        clear hlo hhi
        have hr0 := HR.out.2
        cases u with
        | true =>
          by_cases hsp : k = 4 ∨ k = 5 ∨ k = 6 ∨ k = 12
          · rcases hsp with rfl | rfl | rfl | rfl
            · have hix' : ∀ W, (Instr.index 66 (.agg (numPtrs w.heap.size)) (.int .i64 4)).run Tryz.prog W = .ok (.pointer (some ⟨w.heap.size, o, none⟩)) W := hix
              go_wp2_with (first
                | (go_at_call 59; refine (limits_any _ _ _ (by omega) (by omega)).mono ?_; rintro e w2 ⟨rfl, hb2⟩; have HR2 := Lib.hid (HR.out.keep hb2); have HB2 := Lib.hid (below_trans HB.out hb2); have hr2 := HR2.out.2; clear hb2)
                | (go_at_call 37; refine (uses_any _ _ _ (by omega) (by omega)).mono ?_; rintro e w3 ⟨rfl, hb3⟩; have HR3 := Lib.hid (HR2.out.keep hb3); have HB3 := Lib.hid (below_trans HB2.out hb3); have hr3 := HR3.out.2; rw [show usesB l.kind 4 = true from HU.out]; clear hb3))
              all_goals first
                | (go_ret
                   refine ⟨ret_bool (vNums_no hlt ?_).symm, HB3.out⟩
                   rw [numOK_zero HO.out (by rw [HU.out]; rfl), HX.out]
                   rw [Bool.and_eq_false_iff, decide_eq_false_iff_not, decide_eq_false_iff_not]
                   omega)
                | (go_roundw
                   case rel => exact ⟨5, by omega, by first | rfl | go_num, HR3.out, HB3.out, fun j hj => by
                     rcases Nat.lt_succ_iff_lt_or_eq.1 hj with h | h
                     · exact HA.out j h
                     · subst h; rw [numOK_zero HO.out (by rw [HU.out]; rfl), HX.out, decide_eq_true (by omega), decide_eq_true (by omega)]; rfl⟩
                   case measure => simp [intOf])
            · have hix' : ∀ W, (Instr.index 66 (.agg (numPtrs w.heap.size)) (.int .i64 5)).run Tryz.prog W = .ok (.pointer (some ⟨w.heap.size, o, none⟩)) W := hix
              go_wp2_with (first
                | (go_at_call 59; refine (limits_any _ _ _ (by omega) (by omega)).mono ?_; rintro e w2 ⟨rfl, hb2⟩; have HR2 := Lib.hid (HR.out.keep hb2); have HB2 := Lib.hid (below_trans HB.out hb2); have hr2 := HR2.out.2; clear hb2)
                | (go_at_call 37; refine (uses_any _ _ _ (by omega) (by omega)).mono ?_; rintro e w3 ⟨rfl, hb3⟩; have HR3 := Lib.hid (HR2.out.keep hb3); have HB3 := Lib.hid (below_trans HB2.out hb3); have hr3 := HR3.out.2; rw [show usesB l.kind 5 = true from HU.out]; clear hb3))
              all_goals first
                | (go_ret
                   refine ⟨ret_bool (vNums_no hlt ?_).symm, HB3.out⟩
                   rw [numOK_zero HO.out (by rw [HU.out]; rfl), HX.out]
                   rw [Bool.and_eq_false_iff, decide_eq_false_iff_not, decide_eq_false_iff_not]
                   omega)
                | (go_roundw
                   case rel => exact ⟨6, by omega, by first | rfl | go_num, HR3.out, HB3.out, fun j hj => by
                     rcases Nat.lt_succ_iff_lt_or_eq.1 hj with h | h
                     · exact HA.out j h
                     · subst h; rw [numOK_zero HO.out (by rw [HU.out]; rfl), HX.out, decide_eq_true (by omega), decide_eq_true (by omega)]; rfl⟩
                   case measure => simp [intOf])
            · have hix' : ∀ W, (Instr.index 66 (.agg (numPtrs w.heap.size)) (.int .i64 6)).run Tryz.prog W = .ok (.pointer (some ⟨w.heap.size, o, none⟩)) W := hix
              go_wp2_with (first
                | (go_at_call 59; refine (limits_any _ _ _ (by omega) (by omega)).mono ?_; rintro e w2 ⟨rfl, hb2⟩; have HR2 := Lib.hid (HR.out.keep hb2); have HB2 := Lib.hid (below_trans HB.out hb2); have hr2 := HR2.out.2; clear hb2)
                | (go_at_call 37; refine (uses_any _ _ _ (by omega) (by omega)).mono ?_; rintro e w3 ⟨rfl, hb3⟩; have HR3 := Lib.hid (HR2.out.keep hb3); have HB3 := Lib.hid (below_trans HB2.out hb3); have hr3 := HR3.out.2; rw [show usesB l.kind 6 = true from HU.out]; clear hb3))
              all_goals first
                | (go_ret
                   refine ⟨ret_bool (vNums_no hlt ?_).symm, HB3.out⟩
                   rw [numOK_zero HO.out (by rw [HU.out]; rfl), HX.out]
                   rw [Bool.and_eq_false_iff, decide_eq_false_iff_not, decide_eq_false_iff_not]
                   omega)
                | (go_roundw
                   case rel => exact ⟨7, by omega, by first | rfl | go_num, HR3.out, HB3.out, fun j hj => by
                     rcases Nat.lt_succ_iff_lt_or_eq.1 hj with h | h
                     · exact HA.out j h
                     · subst h; rw [numOK_zero HO.out (by rw [HU.out]; rfl), HX.out, decide_eq_true (by omega), decide_eq_true (by omega)]; rfl⟩
                   case measure => simp [intOf])
            · have hix' : ∀ W, (Instr.index 66 (.agg (numPtrs w.heap.size)) (.int .i64 12)).run Tryz.prog W = .ok (.pointer (some ⟨w.heap.size, o, none⟩)) W := hix
              go_wp2_with (first
                | (go_at_call 59; refine (limits_any _ _ _ (by omega) (by omega)).mono ?_; rintro e w2 ⟨rfl, hb2⟩; have HR2 := Lib.hid (HR.out.keep hb2); have HB2 := Lib.hid (below_trans HB.out hb2); have hr2 := HR2.out.2; clear hb2)
                | (go_at_call 37; refine (uses_any _ _ _ (by omega) (by omega)).mono ?_; rintro e w3 ⟨rfl, hb3⟩; have HR3 := Lib.hid (HR2.out.keep hb3); have HB3 := Lib.hid (below_trans HB2.out hb3); have hr3 := HR3.out.2; rw [show usesB l.kind 12 = true from HU.out]; clear hb3))
              all_goals first
                | (go_ret
                   refine ⟨ret_bool (vNums_no hlt ?_).symm, HB3.out⟩
                   rw [numOK_zero HO.out (by rw [HU.out]; rfl), HX.out]
                   rw [Bool.and_eq_false_iff, decide_eq_false_iff_not, decide_eq_false_iff_not]
                   omega)
                | (go_roundw
                   case rel => exact ⟨13, by omega, by first | rfl | go_num, HR3.out, HB3.out, fun j hj => by
                     rcases Nat.lt_succ_iff_lt_or_eq.1 hj with h | h
                     · exact HA.out j h
                     · subst h; rw [numOK_zero HO.out (by rw [HU.out]; rfl), HX.out, decide_eq_true (by omega), decide_eq_true (by omega)]; rfl⟩
                   case measure => simp [intOf])
          have e4 : ((k : Int) == 4) = false := by rw [beq_dec]; exact decide_eq_false (by omega)
          have e5 : ((k : Int) == 5) = false := by rw [beq_dec]; exact decide_eq_false (by omega)
          have e6 : ((k : Int) == 6) = false := by rw [beq_dec]; exact decide_eq_false (by omega)
          have e12 : ((k : Int) == 12) = false := by rw [beq_dec]; exact decide_eq_false (by omega)
          have hspB : specialB k = false := by simp [specialB]; omega
          have HSP := Lib.hid hspB
          clear hspB
          go_wp2_with (first
            | (go_at_call 59; refine (limits_any _ _ _ (by omega) (by omega)).mono ?_; rintro e w2 ⟨rfl, hb2⟩; have HR2 := Lib.hid (HR.out.keep hb2); have HB2 := Lib.hid (below_trans HB.out hb2); have hr2 := HR2.out.2; rw [HL.out, HH.out]; clear hb2)
            | (go_at_call 37; refine (uses_any _ _ _ (by omega) (by omega)).mono ?_; rintro e w3 ⟨rfl, hb3⟩; have HR3 := Lib.hid (HR2.out.keep hb3); have HB3 := Lib.hid (below_trans HB2.out hb3); have hr3 := HR3.out.2; rw [HU.out]; clear hb3))
          all_goals first
            | (go_roundw
               case rel => exact ⟨k + 1, by omega, by go_num, HR3.out, HB3.out, fun j hj => by
                 rcases Nat.lt_succ_iff_lt_or_eq.1 hj with h | h
                 · exact HA.out j h
                 · subst h; rw [numOK_lim HO.out (by rw [HU.out, HSP.out]; rfl), HX.out, HL.out, HH.out, decide_eq_true (by omega), decide_eq_true (by omega)]; rfl⟩
               case measure => simp [intOf]; omega)
            | (go_ret
               refine ⟨ret_bool (vNums_no hlt ?_).symm, HB3.out⟩
               rw [numOK_lim HO.out (by rw [HU.out, HSP.out]; rfl), HX.out, HL.out, HH.out]
               rw [Bool.and_eq_false_iff, decide_eq_false_iff_not, decide_eq_false_iff_not]
               omega)
        | false =>
          go_wp2_with (first
            | (go_at_call 59; refine (limits_any _ _ _ (by omega) (by omega)).mono ?_; rintro e w2 ⟨rfl, hb2⟩; have HR2 := Lib.hid (HR.out.keep hb2); have HB2 := Lib.hid (below_trans HB.out hb2); have hr2 := HR2.out.2; rw [HL.out, HH.out]; clear hb2)
            | (go_at_call 37; refine (uses_any _ _ _ (by omega) (by omega)).mono ?_; rintro e w3 ⟨rfl, hb3⟩; have HR3 := Lib.hid (HR2.out.keep hb3); have HB3 := Lib.hid (below_trans HB2.out hb3); have hr3 := HR3.out.2; rw [HU.out]; clear hb3))
          all_goals first
            | (go_roundw
               case rel => exact ⟨k + 1, by omega, by go_num, HR3.out, HB3.out, fun j hj => by
                 rcases Nat.lt_succ_iff_lt_or_eq.1 hj with h | h
                 · exact HA.out j h
                 · subst h; rw [numOK_zero HO.out (by rw [HU.out]; rfl), HX.out, decide_eq_true (by omega), decide_eq_true (by omega)]; rfl⟩
               case measure => simp [intOf]; omega)
            | (go_ret
               refine ⟨ret_bool (vNums_no hlt ?_).symm, HB3.out⟩
               rw [numOK_zero HO.out (by rw [HU.out]; rfl), HX.out]
               rw [Bool.and_eq_false_iff, decide_eq_false_iff_not, decide_eq_false_iff_not]
               omega)
    · have HE := Lib.hid (vNums_end (l := l) (bare := true) (fun j hj => HA.out j (by omega)))
      have hr0 := HR.out.2
      have b5 : (l.kind != 5) = decide (l.kind ≠ 5) := neq_dec _ _
      have b6 : (l.other != l.person) = decide (l.other ≠ l.person) := neq_dec _ _
      cases e5 : decide (l.kind ≠ 5)
      all_goals
        rw [e5] at b5 HE
        have H5 := Lib.hid e5
        clear e5
        go_wp2
        go_ret
        exact ⟨ret_bool (by rw [HE.out]; first | rfl | simp), HB.out⟩

theorem validNumbers_any (l : Lt) (A B : Option Addr) (n m c d : Nat) (vc : Value) (w : World) (hn : n ≤ 140737488355328) (hm : m ≤ 140737488355328) (hz : l.series.zone.size ≤ 140737488355328) :
    Calls Tryz.prog 40 #[.agg (ltCells l (.slice A n c) (.slice B m d) vc)] w (Gives (.bool (vNums l (bareB l.kind n m l.series))) w) := by
  by_cases h8 : l.kind = 8
  · have e : bareB l.kind n m l.series = noSer n m l.series := by unfold bareB; rw [decide_eq_true h8]; rfl
    rw [e]
    cases hb : noSer n m l.series with
    | true => exact validNumbers_8t l A B n m c d vc w h8 hn hm hz hb
    | false => exact validNumbers_8f l A B n m c d vc w h8 hn hm hz hb
  · exact validNumbers_not8 l _ _ _ n m w h8
end Go.Proofs.YtpgagfmpikhpkaaGreatDoor

/- '==' between whole values: moves, spans. -/
namespace Go.Proofs.YtpgagfmpikhpkaaGreatDoor
open Go Go.RowKit

theorem eql_move (d t n l d' t' n' l' : Int) (b b' : Bool) (W : World) :
    (binOp .eql 25 (.agg #[I d, .bool b, I t, I n, I l]) (.agg #[I d', .bool b', I t', I n', I l'])).run Tryz.prog W =
      .ok (.bool (decide (d = d') && (b == b') && decide (t = t') && decide (n = n') && decide (l = l'))) W := by
  by_cases h1 : d = d' <;> by_cases h2 : b = b' <;> by_cases h3 : t = t' <;> by_cases h4 : n = n' <;> by_cases h5 : l = l'
  all_goals simp [go_sem, h1, h2, h3, h4, h5]
theorem eql_span (a b a' b' : Int) (W : World) :
    (binOp .eql 32 (.agg #[I a, I b]) (.agg #[I a', I b'])).run Tryz.prog W = .ok (.bool (decide (a = a') && decide (b = b'))) W := by
  by_cases h1 : a = a' <;> by_cases h2 : b = b'
  all_goals simp [go_sem, h1, h2]
end Go.Proofs.YtpgagfmpikhpkaaGreatDoor

/- letter.validChange. -/
namespace Go.Proofs.YtpgagfmpikhpkaaGreatDoor
open Go Go.RowKit

def mvZ (m : Mv) : Bool := decide (m.day = 0) && (m.drop == false) && decide (m.toDay = 0) && decide (m.minute = 0) && decide (m.length = 0)
def vChange (l : Lt) (nz : Bool) : Bool :=
  if l.scope = 1 then vMove l.move && decide (l.move.day = l.day) && nz else if l.scope = 3 then mvZ l.move && decide (l.day = 0) else mvZ l.move
theorem validMove_ex (m : Mv) (w : World) : Calls Tryz.prog 60 #[.agg #[I m.day, .bool m.drop, I m.toDay, I m.minute, I m.length]] w (Gives (.bool (vMove m)) w) := validMove_any m w

attribute [local go_sem] lt_get10 lt_get11 lt_get12 lt_get13 lt_get14 lt_get15 lt_get16 lt_get17 lt_get18 lt_get19 lt_get20 lt_get21 lt_get22 lt_get23
set_option maxRecDepth 10000 in
set_option maxHeartbeats 1000000 in
theorem validChange_any (l : Lt) (A B : Option Addr) (n m c d : Nat) (vc : Value) (w : World) (hn : n ≤ 140737488355328) (hm : m ≤ 140737488355328) (hz : l.series.zone.size ≤ 140737488355328) :
    Calls Tryz.prog 61 #[.agg (ltCells l (.slice A n c) (.slice B m d) vc)] w (Gives (.bool (vChange l (noSer n m l.series))) w) := by
  have heqm := fun W => eql_move l.move.day l.move.toDay l.move.minute l.move.length 0 0 0 0 l.move.drop false W
  obtain ⟨mz, hmz⟩ : ∃ x, mvZ l.move = x := ⟨_, rfl⟩
  rw [show (decide (l.move.day = 0) && (l.move.drop == false) && decide (l.move.toDay = 0) && decide (l.move.minute = 0) && decide (l.move.length = 0)) = mz from hmz] at heqm
  obtain ⟨vm', hvm⟩ : ∃ x, vMove l.move = x := ⟨_, rfl⟩
  obtain ⟨nz, hnz⟩ : ∃ x, noSer n m l.series = x := ⟨_, rfl⟩
  have HM := Lib.hid hmz
  have HV := Lib.hid hvm
  have HN := Lib.hid hnz
  clear hmz hvm hnz
  have H0 := Lib.hid (Row.new w (ltCells l (.slice A n c) (.slice B m d) vc) 36)
  have HB0 := Lib.hid (below_var w (.cells (ltCells l (.slice A n c) (.slice B m d) vc) 36))
  by_cases h1 : l.scope = 1
  · have b1 : (l.scope == 1) = true := by rw [beq_dec]; exact decide_eq_true h1
    have bd : (l.move.day == l.day) = decide (l.move.day = l.day) := beq_dec _ _
    have HE : Hid (vChange l (noSer n m l.series) = (vm' && decide (l.move.day = l.day) && nz)) := by unfold vChange; rw [if_pos h1, HV.out, HN.out]; exact rfl
    rw [HE.out]
    clear h1 heqm HE
    cases vm' <;> cases hd : decide (l.move.day = l.day)
    all_goals
      rw [hd] at bd
      clear hd
      go_enter Tryz.func61, Tryz.ntmps61
      go_wp2_with (first
        | (go_at_call 60; refine (validMove_ex _ _).mono ?_; rintro e w1 ⟨rfl, hb1⟩; have H1 := Lib.hid (H0.out.keep hb1); have HB1 := Lib.hid (below_trans HB0.out hb1); have hr1 := H1.out.2; rw [HV.out]; clear hb1)
        | (go_at_call 42; refine (noSeries_ex _ _ _ _ _ _ _ _ hn hm hz).mono ?_; rintro e w2 ⟨rfl, hb2⟩; have HB2 := Lib.hid (below_trans HB1.out hb2); rw [HN.out]; clear hb2))
      go_ret
      first | exact ⟨rfl, HB2.out⟩ | exact ⟨rfl, HB1.out⟩
  · have b1 : (l.scope == 1) = false := by rw [beq_dec]; exact decide_eq_false h1
    by_cases h3 : l.scope = 3
    · have b3 : (l.scope == 3) = true := by rw [beq_dec]; exact decide_eq_true h3
      have bd : (l.day == 0) = decide (l.day = 0) := beq_dec _ _
      have HE : Hid (vChange l (noSer n m l.series) = (mz && decide (l.day = 0))) := by unfold vChange; rw [if_neg h1, if_pos h3, HM.out]; exact rfl
      rw [HE.out]
      clear h1 h3 HE
      cases mz
      all_goals
        go_enter Tryz.func61, Tryz.ntmps61
        go_wp2
        go_ret
        refine ⟨ret_bool ?_, HB0.out⟩
        first | rfl | (rw [Bool.true_and]; rfl) | simp
    · have b3 : (l.scope == 3) = false := by rw [beq_dec]; exact decide_eq_false h3
      have HE : Hid (vChange l (noSer n m l.series) = mz) := by unfold vChange; rw [if_neg h1, if_neg h3, HM.out]; exact rfl
      rw [HE.out]
      clear h1 h3 HE
      go_enter Tryz.func61, Tryz.ntmps61
      go_wp2
      go_ret
      exact ⟨rfl, HB0.out⟩
end Go.Proofs.YtpgagfmpikhpkaaGreatDoor

/- (*letter.writer).number: the lowest bytes of a number, appended. -/
namespace Go.Proofs.YtpgagfmpikhpkaaGreatDoor
open Go Go.RowKit

def byteOf (n : Int) : UInt8 := UInt8.ofNat (n % 256).toNat
theorem byteOf_cell (n : Int) : Extern.Stop.cell (byteOf n) = .int .u8 (n % 256) := by
  have h0 : 0 ≤ n % 256 := Int.emod_nonneg _ (by omega)
  have h1 : n % 256 < 256 := Int.emod_lt_of_pos _ (by omega)
  have h2 : (n % 256).toNat < 256 := by omega
  have h3 : (UInt8.ofNat (n % 256).toNat).toNat = (n % 256).toNat := by rw [UInt8.toNat_ofNat']; exact Nat.mod_eq_of_lt h2
  show Value.int .u8 (((UInt8.ofNat (n % 256).toNat).toNat : Nat) : Int) = _
  rw [h3, Int.toNat_of_nonneg h0]
def le : Int → Nat → List UInt8
  | _, 0 => []
  | n, s + 1 => byteOf n :: le (n / 256) s
def shiftBy : Int → Nat → Int
  | n, 0 => n
  | n, k + 1 => shiftBy n k / 256
theorem shiftBy_div (n : Int) (k : Nat) : shiftBy (n / 256) k = shiftBy n (k + 1) := by
  induction k with
  | zero => rfl
  | succ k ih => show shiftBy (n / 256) k / 256 = _; rw [ih]; rfl
theorem le_snoc (n : Int) (k : Nat) : le n (k + 1) = le n k ++ [byteOf (shiftBy n k)] := by
  induction k generalizing n with
  | zero => rfl
  | succ k ih => rw [le, ih, shiftBy_div]; rfl
theorem le_length (n : Int) (k : Nat) : (le n k).length = k := by
  induction k generalizing n with
  | zero => rfl
  | succ k ih => simp [le, ih]
theorem shiftBy_bd (n : Int) (k : Nat) (h0 : -9223372036854775808 ≤ n) (h1 : n ≤ 9223372036854775807) : -9223372036854775808 ≤ shiftBy n k ∧ shiftBy n k ≤ 9223372036854775807 := by
  induction k with
  | zero => exact ⟨h0, h1⟩
  | succ k ih => unfold shiftBy; omega

/-- The writer at block g: the letter's address, and the bytes written so far in a row of their own. -/
def WSt (w : World) (g : Nat) (lp v : Value) (bs : List UInt8) : Prop :=
  w.heap[g]? = some (.cells #[lp, v] 77 (0, 0)) ∧ w.ownsRow (g + 1) 5 1 v bs.length (bs.map Extern.Stop.cell)
/-- Only the writer, the row of its bytes and new blocks have changed. -/
structure WKeep (g : Nat) (v : Value) (w : World) (v' : Value) (w' : World) : Prop where
  os : w'.os = w.os
  tape : w'.tape = w.tape
  output : w'.output = w.output
  size : w.heap.size ≤ w'.heap.size
  block : ∀ k, k < w.heap.size → k ≠ g → some k ≠ v.ownBlock → w'.heap[k]? = w.heap[k]?
  own : v'.ownBlock = v.ownBlock ∨ ∃ b, v'.ownBlock = some b ∧ w.heap.size ≤ b
theorem WKeep.refl (g : Nat) (v : Value) (w : World) : WKeep g v w v w := ⟨rfl, rfl, rfl, Nat.le_refl _, fun _ _ _ _ => rfl, .inl rfl⟩
theorem WKeep.trans {g : Nat} {v v1 v2 : Value} {w w1 w2 : World} (h : WKeep g v w v1 w1) (k : WKeep g v1 w1 v2 w2) : WKeep g v w v2 w2 := by
  refine ⟨k.os.trans h.os, k.tape.trans h.tape, k.output.trans h.output, Nat.le_trans h.size k.size, fun b hb hg hv => ?_, ?_⟩
  · refine (k.block b (Nat.lt_of_lt_of_le hb h.size) hg ?_).trans (h.block b hb hg hv)
    rcases h.own with e | ⟨b1, e, hb1⟩
    · rw [e]; exact hv
    · rw [e]; intro h'; injection h' with h'; omega
  · rcases k.own with e | ⟨b, e, hb⟩
    · rcases h.own with e1 | ⟨b1, e1, hb1⟩
      · exact .inl (e.trans e1)
      · exact .inr ⟨b1, e.trans e1, hb1⟩
    · exact .inr ⟨b, e, Nat.le_trans h.size hb⟩
theorem ownsRow_far {w : World} {base e size n : Nat} {v u : Value} {xs : List Value} {p : Addr} (h : w.ownsRow base e size v n xs) (hp : some p.block ≠ v.ownBlock) : (w.setCell p u).ownsRow base e size v n xs := by
  refine ⟨h.1, ?_⟩
  rcases h.2 with h | ⟨g, cap, cur, rfl, hg, hh, h1, h2, h3, h4⟩
  · exact .inl h
  · refine .inr ⟨g, cap, cur, rfl, hg, ?_, h1, h2, h3, h4⟩
    rw [heap_setCell_other w p g u (fun e => hp (by rw [← e]; rfl))]
    exact hh
theorem own_ge {w : World} {base e size n : Nat} {v : Value} {xs : List Value} (h : w.ownsRow base e size v n xs) (b : Nat) (hb : b < base) : some b ≠ v.ownBlock := by
  rcases h.2 with ⟨rfl, _⟩ | ⟨g, cap, cur, rfl, hg, _⟩
  · simp [Value.ownBlock]
  · intro e; have : b = g := by simpa [Value.ownBlock] using e
    omega
theorem own_form {w : World} {base e size n : Nat} {v : Value} {xs : List Value} (h : w.ownsRow base e size v n xs) (hn : 0 < n) : ∃ g cap, v = .slice (some ⟨g, 0, none⟩) n cap ∧ g < w.heap.size := by
  rcases h.2 with ⟨_, h0⟩ | ⟨g, cap, cur, rfl, _, hh, _⟩
  · omega
  · exact ⟨g, cap, rfl, (Array.getElem?_eq_some_iff.1 hh).1⟩
theorem own_lt {w : World} {base e size n : Nat} {v : Value} {xs : List Value} (h : w.ownsRow base e size v n xs) : ∀ b, v.ownBlock = some b → b < w.heap.size := by
  intro b hb
  rcases h.2 with ⟨rfl, _⟩ | ⟨g, cap, cur, rfl, _, hh, _⟩
  · simp [Value.ownBlock] at hb
  · have : g = b := by simpa [Value.ownBlock] using hb
    subst this; exact (Array.getElem?_eq_some_iff.1 hh).1
/-- One byte more. -/
theorem wst_step {w w1 : World} {g : Nat} {lp v v' : Value} {bs : List UInt8} {c : UInt8} {o : Obj} (h : WSt w g lp v bs) (hg : g < w.heap.size)
    (hown : w1.ownsRow (g + 1) 5 1 v' (bs.length + 1) (bs.map Extern.Stop.cell ++ [Extern.Stop.cell c])) (hgrow : (w.alloc o).grownBy w1 v.ownBlock)
    (hat : v'.ownBlock = v.ownBlock ∨ v'.ownBlock = some (w.heap.size + 1)) :
    w1.heap[g]? = some (.cells #[lp, v] 77 (0, 0)) ∧ WSt (w1.setCell ⟨g, 1, none⟩ v') g lp v' (bs ++ [c]) ∧ WKeep g v w v' (w1.setCell ⟨g, 1, none⟩ v') := by
  have hne : some g ≠ v.ownBlock := own_ge h.2 g (Nat.lt_succ_self g)
  have hg1 : w1.heap[g]? = some (.cells #[lp, v] 77 (0, 0)) := by
    rw [hgrow.block g (by simp; omega) hne, Below.heap_alloc w o g hg]; exact h.1
  refine ⟨hg1, ⟨?_, ?_⟩, ?_⟩
  · rw [heap_setCell_same w1 g 1 _ _ v' hg1]; rfl
  · have := ownsRow_far (u := v') (p := ⟨g, 1, none⟩) hown (own_ge hown g (Nat.lt_succ_self g))
    simpa using this
  · refine ⟨hgrow.os, hgrow.tape, hgrow.output, ?_, fun k hk hkg hkv => ?_, ?_⟩
    · have := hgrow.size; simp [World.setCell] at this ⊢; omega
    · rw [heap_setCell_other w1 _ k v' hkg, hgrow.block k (by simp; omega) hkv, Below.heap_alloc w o k hk]
    · rcases hat with e | e
      · exact .inl e
      · exact .inr ⟨_, e, by omega⟩

theorem info_u8 : (Tryz.prog.info? 5).map (fun i => (i.zero, i.size, i.bytes)) = some (some (.int .u8 0), 1, 1) := by kernel_rfl
def NumPost (w : World) (g : Nat) (lp v : Value) (bs : List UInt8) (e : Ending) (w' : World) : Prop :=
  e = .returned (.tuple #[]) ∧ ∃ v', WSt w' g lp v' bs ∧ WKeep g v w v' w'
def NumRel (w : World) (g : Nat) (lp v : Value) (bs : List UInt8) (n : Int) (size : Nat) (x i : Value) (wr : World) : Prop :=
  ∃ k : Nat, k ≤ size ∧ i = .int .i64 k ∧ x = .int .i64 (shiftBy n k) ∧ ∃ v', WSt wr g lp v' (bs ++ le n k) ∧ WKeep g v w v' wr
set_option maxRecDepth 10000 in
set_option maxHeartbeats 1000000 in
theorem number_any (w : World) (g : Nat) (lp v : Value) (bs : List UInt8) (n : Int) (size : Nat) (hn0 : -9223372036854775808 ≤ n) (hn1 : n ≤ 9223372036854775807) (hs : size ≤ 8) (hl : bs.length ≤ 1099511627776) (hg : g < w.heap.size) (hst : WSt w g lp v bs) :
    Calls Tryz.prog 31 #[.pointer (some ⟨g, 0, none⟩), I n, I size] w (NumPost w g lp v (bs ++ le n size)) := by
  obtain ⟨i0, hi, hz0, hz1, hz2⟩ := info_parts info_u8
  have HST := Lib.hid hst
  clear hst
  go_enter Tryz.func31, Tryz.ntmps31
  go_wp2
  go_loopw [1, 7] (fun x i wr => NumRel w g lp v bs n size x i wr) (fun _ i _ => size - (intOf i).toNat)
  case atStart => exact ⟨0, Nat.zero_le _, rfl, rfl, v, by simpa [le] using HST.out, WKeep.refl _ _ _⟩
  case round =>
    obtain ⟨k, hk, rfl, rfl, v1, hw1, hk1⟩ := hrel
    by_cases hlt : k < size
    · obtain ⟨x, hx⟩ : ∃ x, shiftBy n k = x := ⟨_, rfl⟩
      have hbd := shiftBy_bd n k hn0 hn1
      rw [hx] at hbd ⊢
      have HX := Lib.hid hx
      obtain ⟨B, hB⟩ : ∃ B, bs ++ le n k = B := ⟨_, rfl⟩
      have hlen : B.length ≤ 1099511627784 := by rw [← hB, List.length_append, le_length]; omega
      rw [hB] at hw1
      have HBB := Lib.hid hB
      have hc := cell_of_row wr g 1 _ _ _ hw1.1
      have hgr : g < wr.heap.size := Nat.lt_of_lt_of_le hg hk1.size
      have HW := Lib.hid hw1
      have HK := Lib.hid hk1
      have hown := Lib.hid hw1.2
      clear hx hw1 hk1 hB
      go_wp2_with (at_builtin; refine wpList_append_own_at _ rfl _ _ 42 rfl (g + 1) 5 i0 (.int .u8 0) 1 1 Tryz.underlying42 hi hz0 hz1 hz2 rfl (by decide) _ _ _ rfl (hown.out.alloc _) ⟨wr.heap.size, 0, none⟩ 1 1 [Extern.Stop.cell (byteOf x)] rfl rfl ?c1 ?c2 ?c3 ?c4 ?c5 ?_)
      case c1 =>
        rw [byteOf_cell]
        exact cell_one_new _ _ _
      case c2 => intro u hu; simp at hu; subst hu; rfl
      case c3 => unfold maxLen; omega
      case c4 => omega
      case c5 => simp; omega
      intro v' w1 hown' hgrow _ hat
      obtain ⟨hg1, hst1, hkp1⟩ := wst_step HW.out hgr hown' hgrow hat
      obtain ⟨g', cap', rfl, _⟩ := own_form hown' (Nat.succ_pos _)
      have hc1 := cell_of_row w1 g 1 _ _ _ hg1
      have hf1 := frozen_of_row w1 g 1 _ _ hg1
      have HST1 := Lib.hid hst1
      have HKP1 := Lib.hid hkp1
      clear hown' hgrow hat hg1 hst1 hkp1 hc
      go_wp2
      go_roundw
      case rel => exact ⟨k + 1, by omega, by go_num, by unfold shiftBy; rw [HX.out], _, by rw [le_snoc, ← List.append_assoc, HBB.out, HX.out]; exact HST1.out, HK.out.trans HKP1.out⟩
      case measure => simp [intOf]; omega
    · have hke : k = size := by omega
      have HKE := Lib.hid hke
      have HW := Lib.hid hw1
      have HK := Lib.hid hk1
      clear hke hw1 hk1
      go_wp2
      go_end0
      exact ⟨rfl, v1, by rw [← HKE.out]; exact HW.out, HK.out⟩
end Go.Proofs.YtpgagfmpikhpkaaGreatDoor

/- The methods of letter.writer: window, move, cells. -/
namespace Go.Proofs.YtpgagfmpikhpkaaGreatDoor
open Go Go.RowKit

abbrev pt (b : Nat) : Value := .pointer (some ⟨b, 0, none⟩)
theorem number8 (w : World) (g : Nat) (lp v : Value) (bs : List UInt8) (n : Int) (hn : -9223372036854775808 ≤ n ∧ n ≤ 9223372036854775807) (hl : bs.length ≤ 1099511627776) (hg : g < w.heap.size) (hst : WSt w g lp v bs) :
    Calls Tryz.prog 31 #[pt g, I n, I 8] w (NumPost w g lp v (bs ++ le n 8)) := number_any w g lp v bs n 8 hn.1 hn.2 (by omega) hl hg hst
theorem number4 (w : World) (g : Nat) (lp v : Value) (bs : List UInt8) (n : Int) (hn : -9223372036854775808 ≤ n ∧ n ≤ 9223372036854775807) (hl : bs.length ≤ 1099511627776) (hg : g < w.heap.size) (hst : WSt w g lp v bs) :
    Calls Tryz.prog 31 #[pt g, I n, I 4] w (NumPost w g lp v (bs ++ le n 4)) := number_any w g lp v bs n 4 hn.1 hn.2 (by omega) hl hg hst
theorem number1 (w : World) (g : Nat) (lp v : Value) (bs : List UInt8) (n : Int) (hn : -9223372036854775808 ≤ n ∧ n ≤ 9223372036854775807) (hl : bs.length ≤ 1099511627776) (hg : g < w.heap.size) (hst : WSt w g lp v bs) :
    Calls Tryz.prog 31 #[pt g, I n, I 1] w (NumPost w g lp v (bs ++ le n 1)) := number_any w g lp v bs n 1 hn.1 hn.2 (by omega) hl hg hst

/-- What a method of the writer is given: the writer at g, the letter at b. -/
structure WIn (w : World) (g b : Nat) (cs : Array Value) (v : Value) (bs : List UInt8) : Prop where
  st : WSt w g (pt b) v bs
  row : Row w b cs
  lt : b < g
  gl : g < w.heap.size
theorem WKeep.old {g : Nat} {lp v v' : Value} {w w' : World} {bs : List UInt8} (h : WKeep g v w v' w') (hst : WSt w g lp v bs) (k : Nat) (hk : k < g) (hkw : k < w.heap.size) : w'.heap[k]? = w.heap[k]? :=
  h.block k hkw (by omega) (own_ge hst.2 k (by omega))
theorem WIn.next {w w' : World} {g b : Nat} {cs : Array Value} {v v' : Value} {bs bs' : List UInt8} (h : WIn w g b cs v bs) (hst : WSt w' g (pt b) v' bs') (hk : WKeep g v w v' w') : WIn w' g b cs v' bs' :=
  ⟨hst, ⟨Nat.lt_of_lt_of_le h.row.1 hk.size, fun i => (World.cell?_of_block (a := ⟨b, i, none⟩) (hk.old h.st b h.lt h.row.1)).trans (h.row.2 i)⟩, h.lt, Nat.lt_of_lt_of_le h.gl hk.size⟩
theorem WKeep.ints {g : Nat} {lp v v' : Value} {w w' : World} {bs : List UInt8} {B : Nat} {A : Option Addr} {zs : List Int} (h : WKeep g v w v' w') (hst : WSt w g lp v bs) (hB : B ≤ g) (hg : g < w.heap.size) (hi : IntsAt w B A zs) : IntsAt w' B A zs := by
  rcases hi with hi | ⟨b, off, hA, hbB, hc⟩
  · exact .inl hi
  · exact .inr ⟨b, off, hA, hbB, fun j hj => (World.cell?_of_block (a := ⟨b, off + j, none⟩) (h.old hst b (by omega) (by omega))).trans (hc j hj)⟩
def fits (n : Int) : Prop := -9223372036854775808 ≤ n ∧ n ≤ 9223372036854775807

attribute [local go_sem] lt_get27 lt_get28 lt_get29
set_option maxRecDepth 10000 in
set_option maxHeartbeats 1000000 in
theorem window_any (w : World) (g b : Nat) (l : Lt) (vr vm vc v : Value) (bs : List UInt8) (hin : WIn w g b (ltCells l vr vm vc) v bs) (hl : bs.length ≤ 1099511627760) (h1 : fits l.wfrom) (h2 : fits l.wto) :
    Calls Tryz.prog 34 #[pt g] w (NumPost w g (pt b) v (bs ++ (le l.wfrom 8 ++ le l.wto 8))) := by
  have HI := Lib.hid hin
  have hc0 := cell_of_row w g 0 _ _ _ hin.st.1
  have hr0 := hin.row.2
  have hl2 : (bs ++ le l.wfrom 8).length ≤ 1099511627776 := by rw [List.length_append, le_length]; omega
  have HL2 := Lib.hid hl2
  clear hin hl2
  go_enter Tryz.func34, Tryz.ntmps34
  go_wp2_with fail
  refine (number8 _ _ _ _ bs _ h1 (by omega) HI.out.gl HI.out.st).mono ?_
  rintro e w1 ⟨rfl, v1, hs1, hk1⟩
  have HI1 := Lib.hid (HI.out.next hs1 hk1)
  have HK1 := Lib.hid hk1
  have hc1 := cell_of_row w1 g 0 _ _ _ hs1.1
  have hr1 := HI1.out.row.2
  clear hs1 hk1
  go_wp2_with fail
  refine (number8 _ _ _ _ _ _ h2 HL2.out HI1.out.gl HI1.out.st).mono ?_
  rintro e w2 ⟨rfl, v2, hs2, hk2⟩
  have HS2 := Lib.hid hs2
  have HK2 := Lib.hid hk2
  clear hs2 hk2
  go_wp2
  go_end0
  exact ⟨rfl, v2, by rw [← List.append_assoc]; exact HS2.out, HK1.out.trans HK2.out⟩
end Go.Proofs.YtpgagfmpikhpkaaGreatDoor

/- kalendsref02.Mod and (*kalendsref07.Maker).Pick: a number in the range that is asked for; only the maker's count has changed. -/
namespace Go.Proofs.YtpgagfmpikhpkaaGreatDoor
open Go Go.RowKit

theorem emod_of (a b : Int) (hb : 0 < b) : a % b = if a.tmod b < 0 then a.tmod b + b else a.tmod b := by
  by_cases h : 0 ≤ a
  · rw [if_neg (by have := Int.tmod_nonneg b h; omega), Int.tmod_eq_emod_of_nonneg h]
  · have h1 : a.tmod b ≤ 0 := by
      have := Int.tmod_nonneg b (show 0 ≤ -a by omega)
      rw [Int.neg_tmod] at this; omega
    have h2 : -b < a.tmod b := by
      have := Int.tmod_lt_of_pos (-a) hb
      rw [Int.neg_tmod] at this; omega
    have h3 : a % b = (a.tmod b) % b := by
      rw [Int.tmod_def]
      rw [Int.sub_emod, Int.mul_emod_right]; simp
    rw [h3]
    split
    · rw [← Int.add_emod_right, Int.emod_eq_of_lt (by omega) (by omega)]
    · rw [Int.emod_eq_of_lt (by omega) (by omega)]
theorem tmod_gt (a b : Int) (hb : 0 < b) : -b < a.tmod b := by
  have := Int.tmod_lt_of_pos (-a) hb
  rw [Int.neg_tmod] at this; omega
set_option maxRecDepth 10000 in
set_option maxHeartbeats 400000 in
theorem mod_any (a b : Int) (w : World) (hb : 0 < b) (hb2 : b ≤ 1000000000000000000) (ha : fits a) :
    Calls Tryz.prog 20 #[I a, I b] w fun e w' => e = .returned (I (a % b)) ∧ w' = w := by
  have he := emod_of a b hb
  obtain ⟨ha1, ha2⟩ := ha
  have hb0 : b ≠ 0 := by omega
  have hb1 : b ≠ -1 := by omega
  have h2 := Int.tmod_lt_of_pos a hb
  have h3 := tmod_gt a b hb
  obtain ⟨q, hq⟩ : ∃ q, a.tmod b = q := ⟨_, rfl⟩
  rw [hq] at he h2 h3
  by_cases h : q < 0
  · rw [if_pos h] at he
    go_enter Tryz.func20, Tryz.ntmps20
    go_wp2
    go_ret
    exact ⟨by first | rfl | (rw [he]; rfl), rfl⟩
  · rw [if_neg h] at he
    go_enter Tryz.func20, Tryz.ntmps20
    go_wp2
    go_ret
    exact ⟨by first | rfl | (rw [he]; rfl), rfl⟩
/-- Only the maker's block and new blocks have changed. -/
structure MKeep (mb : Nat) (w w' : World) : Prop where
  os : w'.os = w.os
  tape : w'.tape = w.tape
  output : w'.output = w.output
  size : w.heap.size ≤ w'.heap.size
  block : ∀ k, k < w.heap.size → k ≠ mb → w'.heap[k]? = w.heap[k]?
theorem MKeep.refl (mb : Nat) (w : World) : MKeep mb w w := ⟨rfl, rfl, rfl, Nat.le_refl _, fun _ _ _ => rfl⟩
theorem MKeep.trans {mb : Nat} {w w1 w2 : World} (h : MKeep mb w w1) (k : MKeep mb w1 w2) : MKeep mb w w2 :=
  ⟨k.os.trans h.os, k.tape.trans h.tape, k.output.trans h.output, Nat.le_trans h.size k.size, fun b hb hn => (k.block b (Nat.lt_of_lt_of_le hb h.size) hn).trans (h.block b hb hn)⟩
theorem MKeep.of_below {mb : Nat} {w w' : World} (h : Below w.heap.size w w') : MKeep mb w w' := ⟨h.os, h.tape, h.output, h.size, fun k hk _ => h.block k hk⟩
theorem MKeep.below {mb B : Nat} {w w' : World} (h : MKeep mb w w') (hB : B ≤ mb) (hs : B ≤ w.heap.size) : Below B w w' := ⟨h.os, h.tape, h.output, h.size, fun k hk => h.block k (by omega) (by omega)⟩
theorem MKeep.set {mb : Nat} {w w1 : World} (h : MKeep mb w w1) (o : Nat) (u : Value) : MKeep mb w (w1.setCell ⟨mb, o, none⟩ u) :=
  ⟨h.os, h.tape, h.output, by simpa [World.setCell] using h.size, fun b hb hn => (heap_setCell_other w1 _ b u hn).trans (h.block b hb hn)⟩
theorem MKeep.draws {mb : Nat} {w w1 : World} (h : MKeep mb w w1) (n : Nat) : MKeep mb w (w1.drewN n) := ⟨h.os, h.tape, h.output, h.size, h.block⟩
theorem MKeep.draw {mb : Nat} {w w1 : World} (h : MKeep mb w w1) : MKeep mb w w1.drew := ⟨h.os, h.tape, h.output, h.size, h.block⟩
def mkCells (A : Option Addr) (n c at_ nodes : Nat) : Array Value := #[.slice A n c, I at_, I 2, I nodes]
/-- The maker at block mb: the numbers xs (which lie below it), how many were used, how many nodes were made. -/
def MkSt (w : World) (mb : Nat) (xs : List Int) (at_ nodes : Nat) : Prop :=
  ∃ A c, w.heap[mb]? = some (.cells (mkCells A xs.length c at_ nodes) 57 (0, 0)) ∧ IntsAt w mb A xs
structure XsOK (xs : List Int) : Prop where
  len : xs.length ≤ 60
  fit : ∀ j, j < xs.length → fits (xs[j]?.getD 0)
theorem MkSt.lt {w : World} {mb : Nat} {xs : List Int} {a n : Nat} (h : MkSt w mb xs a n) : mb < w.heap.size := by
  obtain ⟨A, c, h, _⟩ := h
  exact (Array.getElem?_eq_some_iff.1 h).1
theorem MkSt.grow {w w' : World} {mb : Nat} {xs : List Int} {a n : Nat} (h : MkSt w mb xs a n) (hb : Below w.heap.size w w') : MkSt w' mb xs a n := by
  have hl := h.lt
  obtain ⟨A, c, h1, h2⟩ := h
  exact ⟨A, c, (hb.block mb hl).trans h1, h2.keep (hb.mono (by omega))⟩
theorem MkSt.draws {w : World} {mb : Nat} {xs : List Int} {a n : Nat} (h : MkSt w mb xs a n) (q : Nat) : MkSt (w.drewN q) mb xs a n := by
  obtain ⟨A, c, h1, h2⟩ := h
  exact ⟨A, c, h1, h2⟩
theorem MkSt.setAt {w : World} {mb : Nat} {xs : List Int} {a n : Nat} (h : MkSt w mb xs a n) (a' : Nat) : MkSt (w.setCell ⟨mb, 1, none⟩ (I a')) mb xs a' n := by
  obtain ⟨A, c, h1, h2⟩ := h
  exact ⟨A, c, by rw [heap_setCell_same w mb 1 _ _ _ h1]; rfl, h2.keep ((Below.refl mb w).setCell (p := ⟨mb, 1, none⟩) (Nat.le_refl _) _)⟩
theorem MkSt.setNodes {w : World} {mb : Nat} {xs : List Int} {a n : Nat} (h : MkSt w mb xs a n) (n' : Nat) : MkSt (w.setCell ⟨mb, 3, none⟩ (I n')) mb xs a n' := by
  obtain ⟨A, c, h1, h2⟩ := h
  exact ⟨A, c, by rw [heap_setCell_same w mb 3 _ _ _ h1]; rfl, h2.keep ((Below.refl mb w).setCell (p := ⟨mb, 3, none⟩) (Nat.le_refl _) _)⟩
def Picked (w : World) (mb : Nat) (xs : List Int) (at_ nodes : Nat) (n : Int) (e : Ending) (w' : World) : Prop :=
  ∃ r, e = .returned (I r) ∧ 0 ≤ r ∧ r < n ∧ MkSt w' mb xs (at_ + 1) nodes ∧ MKeep mb w w'
set_option maxRecDepth 10000 in
set_option maxHeartbeats 1000000 in
theorem pick_any (w : World) (mb : Nat) (xs : List Int) (at_ nodes : Nat) (n : Int) (h : MkSt w mb xs at_ nodes) (hx : XsOK xs) (hat : at_ ≤ 1000000000) (hn : 0 < n) (hn2 : n ≤ 1000000000000000000) :
    Calls Tryz.prog 18 #[pt mb, I n] w (Picked w mb xs at_ nodes n) := by
  have HS := Lib.hid (h.setAt (at_ + 1))
  have HK := Lib.hid ((MKeep.refl mb w).set 1 (I ((at_ + 1 : Nat) : Int)))
  obtain ⟨A, c, h1, h2⟩ := h
  have c0 : w.cell? ⟨mb, 0, none⟩ = some (.slice A xs.length c) := cell_of_row w mb 0 _ _ _ h1
  have c1 : w.cell? ⟨mb, 1, none⟩ = some (I at_) := cell_of_row w mb 1 _ _ _ h1
  have f1 := frozen_of_row w mb 1 _ _ h1
  have hl := hx.len
  by_cases hle : at_ < xs.length
  · have hfx := hx.fit at_ hle
    rcases h2 with h2 | ⟨b, off, rfl, hbm, hc⟩
    · omega
    have hcx := hc at_ hle
    obtain ⟨x, hx0⟩ : ∃ x, xs[at_]?.getD 0 = x := ⟨_, rfl⟩
    rw [hx0] at hcx hfx
    have hltI : (at_ : Int) < (xs.length : Int) := by omega
    have hne : ¬ b = mb := by omega
    have hwr : IntKind.i64.wrap (at_ : Int) = (at_ : Int) := by rw [IntKind.wrap_i64]; omega
    have h0I : (0 : Int) ≤ (at_ : Int) := by omega
    have hd : decide ((xs.length : Int) < (at_ : Int) + 1) = false := decide_eq_false (by omega)
    have HM := Lib.hid (fun W => mod_any x n W hn hn2 hfx)
    clear hx0 hc h1 hx hfx
    go_enter Tryz.func18, Tryz.ntmps18
    go_wp2
    go_quiet (fail)
    go_wp2
    have HS1 := Lib.hid (HS.out.draws nq)
    have HK1 := Lib.hid (HK.out.draws nq)
    have k0 : ((w.setCell ⟨mb, 1, none⟩ (I ((at_ + 1 : Nat) : Int))).drewN nq).cell? ⟨mb, 0, none⟩ = some (.slice (some ⟨b, off, none⟩) xs.length c) := (World.cell?_setCell_other _ _ _ _ (by intro e; injection e with _ e2; omega)).trans c0
    have k1 : ((w.setCell ⟨mb, 1, none⟩ (I ((at_ + 1 : Nat) : Int))).drewN nq).cell? ⟨mb, 1, none⟩ = some (I ((at_ : Int) + 1)) := World.cell?_setCell_same' _ _ _ (by rw [c1]; rfl)
    have k2 : ((w.setCell ⟨mb, 1, none⟩ (I ((at_ + 1 : Nat) : Int))).drewN nq).cell? ⟨b, off + at_, none⟩ = some (I x) := (World.cell?_setCell_other _ _ _ _ (by intro e; injection e with e1; omega)).trans hcx
    obtain ⟨W1, hW1⟩ : ∃ W, (w.setCell ⟨mb, 1, none⟩ (I ((at_ + 1 : Nat) : Int))).drewN nq = W := ⟨_, rfl⟩
    rw [hW1] at HS1 HK1 k0 k1 k2
    have hW1' : (w.setCell ⟨mb, 1, none⟩ (Value.int IntKind.i64 ((at_ : Int) + 1))).drewN nq = W1 := hW1
    rw [hW1']
    clear hW1 hW1' HS HK c0 c1 hcx f1
    go_quiet (first | (go_at_call 20; refine Calls.quiet_of_same (HM.out _)))
    go_wp2
    go_ret
    exact ⟨_, rfl, Int.emod_nonneg _ (by omega), Int.emod_lt_of_pos _ hn, HS1.out.draws _, HK1.out.draws _⟩
  · have hd : decide ((xs.length : Int) < (at_ : Int) + 1) = true := decide_eq_true (by omega)
    have hdI : (xs.length : Int) < (at_ : Int) + 1 := by omega
    clear h1 h2 hx
    go_enter Tryz.func18, Tryz.ntmps18
    go_wp2
    go_quiet (fail)
    go_wp2
    go_ret
    exact ⟨0, rfl, Int.le_refl _, hn, HS.out.draws _, HK.out.draws _⟩
end Go.Proofs.YtpgagfmpikhpkaaGreatDoor
