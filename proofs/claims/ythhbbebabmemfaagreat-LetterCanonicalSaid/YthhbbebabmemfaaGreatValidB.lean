/- letter.Valid for letters that do not come to series.Valid: the code. -/
import Derived.Test.YthhbbebabmemfaaGreatValidW
import Derived.BigQuiet
import Derived.Deep.AppendLies
import Derived.Deep.CutBlock
import Derived.Deep.DeepCutAuto
import Derived.Deep.DrawnRows
import Derived.Deep.MidRow
import Derived.Deep.QuietTactic
import Derived.Deep.RegionHeld3
import Derived.Deep.RegionLaw
import Derived.Deep.WholeRow
import Derived.Great.BuildSlice
import Derived.Laws.BytesString
import Derived.Laws.CopyOwn
import Derived.Laws.EntriesVeiled
import Derived.Laws.MakeOwn
import Derived.Laws.ResultCell
import Derived.Laws.Rows
import Derived.Laws.Tables
import Derived.Lib.Hide
import Derived.LoopIn
import Derived.LoopNIn
import Derived.Maps.AppendAt
import Derived.Outline
import Derived.OwnWalkIn
import Derived.RangeFuncBound
import Derived.RangeFuncBox
import Derived.RangeFuncCalls
import Derived.RangeFuncLeaves
import Derived.RangeFuncNested
import Derived.Shelf.Abstract
import Derived.Shelf.Bytes.SlSmallAll
import Derived.Shelf.RegionOpen
import Derived.StillTailTactics
import Derived.Stop.BytesEq
import Derived.TacticsInMore
import Derived.WalkKit
import Derived.WalkLawsBesides
import Derived.WalkSpells
namespace Go.Proofs.YthhbbebabmemfaaGreat
open Go Go.RowKit

theorem noSeries_lt (l : Lt) (s : Sl) (w : World) (h : LtOK l) :
    Calls Tryz.prog 41 #[.agg #[.slice s.A l.series.rule.length s.c, I l.series.minute, I l.series.length, .string l.series.zone, I l.series.gap, I l.series.fold, .slice s.B l.series.moves.length s.d]] w (Gives (.bool (nzOf l)) w) :=
  noSeries_any l.series s.A s.B _ _ s.c s.d w h.rule h.moves h.zone
theorem headOK_iff {l : Lt} (h : headOK l = true) : (1 ≤ l.kind ∧ l.kind ≤ 18) ∧ srvIn l.src = true ∧ srvIn l.dst = true ∧ (l.src == l.dst) = false := by
  unfold headOK at h
  simp only [Bool.and_eq_true, decide_eq_true_eq] at h
  obtain ⟨⟨⟨h1, h2⟩, h3⟩, h4⟩ := h
  exact ⟨h1, h2, h3, by rw [beq_dec]; exact decide_eq_false h4⟩
attribute [local go_sem] ltVal_get lt_get0 lt_get1 lt_get2 lt_get10 lt_get17 lt_get18 lt_get19 lt_get20 lt_get21 lt_get22 lt_get23 lt_get29

set_option maxRecDepth 10000 in
set_option maxHeartbeats 4000000 in
theorem valid_nos (l : Lt) (s : Sl) (w : World) (hok : LtOK l) (hi : IntsAt w w.heap.size s.C l.cells) (hh : headOK l = true) (hno : bodyOK l = true → l.cells.length ≤ 65536 → noSerB l = true) :
    Calls Tryz.prog 12 #[.agg (ltVal l s)] w (Gives (I (vCode l 0)) w) := by
  obtain ⟨⟨hk1, hk2⟩, h1, h2, he⟩ := headOK_iff hh
  have HC := Lib.hid (show vCode l 0 = if bodyOK l = false then 1 else if 65536 < l.cells.length then 2 else if noSerB l = true then 0 else 0 by unfold vCode; rw [if_neg (by rw [hh]; decide)])
  have H1 := Lib.hid h1
  have H2 := Lib.hid h2
  have HR0 := Lib.hid (Row.new w (ltVal l s) 37)
  have HB0 := Lib.hid (below_var w (.cells (ltVal l s) 37))
  have HSZ : Hid ((Tryz.prog.info? 37).map (·.size) = some (ltVal l s).size) := Lib.hid (by unfold ltVal; rw [lt_size _ _ _ _ hok.ref]; kernel_rfl)
  obtain ⟨b1, hb1⟩ : ∃ x, vNums l (bareB l.kind l.series.rule.length l.series.moves.length l.series) = x := ⟨_, rfl⟩
  obtain ⟨b2, hb2⟩ : ∃ x, oth l = x := ⟨_, rfl⟩
  have HBO := Lib.hid (show bodyOK l = (b1 && b2) by unfold bodyOK; rw [hb1, hb2])
  have HB1 := Lib.hid hb1
  have HB2 := Lib.hid hb2
  have HOK := Lib.hid hok
  have HI := Lib.hid hi
  have HNO := Lib.hid hno
  clear hh h1 h2 hb1 hb2 hok hi hno
  cases b1
  · as_aux_lemma =>
    go_enter Tryz.func12, Tryz.ntmps12
    go_wp2_with (first
      | (go_at_call 38; refine (server_any _ _).mono ?_; rintro e w' ⟨rfl, rfl⟩; first | rw [H1.out] | rw [H2.out])
      | (refine wpList_load_Row rfl _ _ rfl w.heap.size rfl (ltVal l s) HR0.out _ Tryz.underlying37 rfl HSZ.out ?_)
      | (go_at_call 39; refine (validNumbers_lt l s _ HOK.out).mono ?_; rintro e w1 ⟨rfl, hb1⟩; have HBb := Lib.hid (below_trans HB0.out hb1); rw [HB1.out]; clear hb1))
    go_ret
    exact ⟨ret_int (by rw [HC.out, HBO.out]; exact (if_pos rfl).symm), HBb.out⟩
  cases b2
  · as_aux_lemma =>
    go_enter Tryz.func12, Tryz.ntmps12
    go_wp2_with (first
      | (go_at_call 38; refine (server_any _ _).mono ?_; rintro e w' ⟨rfl, rfl⟩; first | rw [H1.out] | rw [H2.out])
      | (refine wpList_load_Row rfl _ _ rfl w.heap.size rfl (ltVal l s) (by first | with_reducible exact HRb.out | with_reducible exact HR0.out) _ Tryz.underlying37 rfl HSZ.out ?_)
      | (go_at_call 39; refine (validNumbers_lt l s _ HOK.out).mono ?_; rintro e w1 ⟨rfl, hb1⟩; have HRb := Lib.hid (HR0.out.keep hb1); have HBb := Lib.hid (below_trans HB0.out hb1); have HCb := Lib.hid ((HI.out.keep HBb.out).more HBb.out.size); have hrb := HRb.out.2; rw [HB1.out]; clear hb1)
      | (go_at_call 40; refine (validOthers_lt l s _ HOK.out HCb.out).mono ?_; rintro e w2 ⟨rfl, hb2⟩; have HBc := Lib.hid (below_trans HBb.out hb2); rw [HB2.out]; clear hb2))
    go_ret
    exact ⟨ret_int (by rw [HC.out, HBO.out]; exact (if_pos rfl).symm), HBc.out⟩
  by_cases hcl : 65536 < l.cells.length
  · as_aux_lemma =>
    go_enter Tryz.func12, Tryz.ntmps12
    go_wp2_with (first
      | (go_at_call 38; refine (server_any _ _).mono ?_; rintro e w' ⟨rfl, rfl⟩; first | rw [H1.out] | rw [H2.out])
      | (refine wpList_load_Row rfl _ _ rfl w.heap.size rfl (ltVal l s) (by first | with_reducible exact HRb.out | with_reducible exact HR0.out) _ Tryz.underlying37 rfl HSZ.out ?_)
      | (go_at_call 39; refine (validNumbers_lt l s _ HOK.out).mono ?_; rintro e w1 ⟨rfl, hb1⟩; have HRb := Lib.hid (HR0.out.keep hb1); have HBb := Lib.hid (below_trans HB0.out hb1); have HCb := Lib.hid ((HI.out.keep HBb.out).more HBb.out.size); have hrb := HRb.out.2; rw [HB1.out]; clear hb1)
      | (go_at_call 40; refine (validOthers_lt l s _ HOK.out HCb.out).mono ?_; rintro e w2 ⟨rfl, hb2⟩; have HRc := Lib.hid (HRb.out.keep hb2); have HBc := Lib.hid (below_trans HBb.out hb2); have hrc := HRc.out.2; rw [HB2.out]; clear hb2))
    go_ret
    exact ⟨ret_int (by rw [HC.out, HBO.out, if_neg (by decide), if_pos hcl]), HBc.out⟩
  have hnb := HNO.out (by rw [HBO.out]; rfl) (by omega)
  have HCC := Lib.hid (show vCode l 0 = 0 by rw [HC.out, HBO.out, if_neg (by decide), if_neg hcl, if_pos hnb])
  obtain ⟨u, hu⟩ : ∃ x, usesB l.kind 10 = x := ⟨_, rfl⟩
  have HU := Lib.hid hu
  unfold noSerB at hnb
  rw [hu] at hnb
  clear hu HC HNO
  cases u
  · as_aux_lemma =>
    clear hnb
    go_enter Tryz.func12, Tryz.ntmps12
    go_wp2_with (first
      | (go_at_call 38; refine (server_any _ _).mono ?_; rintro e w' ⟨rfl, rfl⟩; first | rw [H1.out] | rw [H2.out])
      | (refine wpList_load_Row rfl _ _ rfl w.heap.size rfl (ltVal l s) (by first | with_reducible exact HRb.out | with_reducible exact HR0.out) _ Tryz.underlying37 rfl HSZ.out ?_)
      | (go_at_call 39; refine (validNumbers_lt l s _ HOK.out).mono ?_; rintro e w1 ⟨rfl, hb1⟩; have HRb := Lib.hid (HR0.out.keep hb1); have HBb := Lib.hid (below_trans HB0.out hb1); have HCb := Lib.hid ((HI.out.keep HBb.out).more HBb.out.size); have hrb := HRb.out.2; rw [HB1.out]; clear hb1)
      | (go_at_call 40; refine (validOthers_lt l s _ HOK.out HCb.out).mono ?_; rintro e w2 ⟨rfl, hb2⟩; have HRc := Lib.hid (HRb.out.keep hb2); have HBc := Lib.hid (below_trans HBb.out hb2); have hrc := HRc.out.2; rw [HB2.out]; clear hb2)
      | (go_at_call 22; refine (uses_any _ _ _ (by omega) (by omega)).mono ?_; rintro e w3 ⟨rfl, hb3⟩; have HRd := Lib.hid (HRc.out.keep hb3); have HBd := Lib.hid (below_trans HBc.out hb3); have hrd := HRd.out.2; rw [HU.out]; clear hb3))
    go_ret
    exact ⟨ret_int HCC.out.symm, HBd.out⟩
  · as_aux_lemma =>
    have hnz : nzOf l = true := by cases h : nzOf l <;> simp_all
    rw [hnz] at hnb
    have HNZ := Lib.hid hnz
    have h81 : (l.kind == 8) = true ∨ (l.kind == 8) = false ∧ (l.scope == 1) = true := by
      rw [beq_dec, beq_dec]
      cases h : decide (l.kind = 8)
      · right; refine ⟨rfl, ?_⟩; rw [h] at hnb; simpa using hnb
      · exact .inl rfl
    clear hnz hnb
    rcases h81 with h8 | ⟨h8, h1'⟩
    all_goals
      go_enter Tryz.func12, Tryz.ntmps12
      go_wp2_with (first
        | (go_at_call 38; refine (server_any _ _).mono ?_; rintro e w' ⟨rfl, rfl⟩; first | rw [H1.out] | rw [H2.out])
        | (refine wpList_load_Row rfl _ _ rfl w.heap.size rfl (ltVal l s) (by first | with_reducible exact HRb.out | with_reducible exact HR0.out) _ Tryz.underlying37 rfl HSZ.out ?_)
        | (go_at_call 39; refine (validNumbers_lt l s _ HOK.out).mono ?_; rintro e w1 ⟨rfl, hb1⟩; have HRb := Lib.hid (HR0.out.keep hb1); have HBb := Lib.hid (below_trans HB0.out hb1); have HCb := Lib.hid ((HI.out.keep HBb.out).more HBb.out.size); have hrb := HRb.out.2; rw [HB1.out]; clear hb1)
        | (go_at_call 40; refine (validOthers_lt l s _ HOK.out HCb.out).mono ?_; rintro e w2 ⟨rfl, hb2⟩; have HRc := Lib.hid (HRb.out.keep hb2); have HBc := Lib.hid (below_trans HBb.out hb2); have hrc := HRc.out.2; rw [HB2.out]; clear hb2)
        | (go_at_call 22; refine (uses_any _ _ _ (by omega) (by omega)).mono ?_; rintro e w3 ⟨rfl, hb3⟩; have HRd := Lib.hid (HRc.out.keep hb3); have HBd := Lib.hid (below_trans HBc.out hb3); have hrd := HRd.out.2; rw [HU.out]; clear hb3)
        | (go_at_call 41; refine (noSeries_lt l s _ HOK.out).mono ?_; rintro e w4 ⟨rfl, hb4⟩; have HRe := Lib.hid (HRd.out.keep hb4); have HBe := Lib.hid (below_trans HBd.out hb4); have hre := HRe.out.2; rw [HNZ.out]; clear hb4))
      go_ret
      exact ⟨ret_int HCC.out.symm, HBe.out⟩
end Go.Proofs.YthhbbebabmemfaaGreat
