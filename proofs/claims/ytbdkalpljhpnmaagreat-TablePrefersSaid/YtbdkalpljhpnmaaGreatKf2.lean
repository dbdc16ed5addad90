/- kalendsref13.Valid of made zones with yearly rules. -/
import Derived.Test.YtbdkalpljhpnmaaGreatKf
import Derived.BigQuiet
import Derived.Deep.AppendLies
import Derived.Deep.CutBlock
import Derived.Deep.DeepCutAuto
import Derived.Deep.DrawnRows
import Derived.Deep.MidRow
import Derived.Deep.QuietTactic
import Derived.Deep.RegionHeld3
import Derived.Deep.RegionLaw
import Derived.Deep.WholeRow
import Derived.Great.BuildSlice
import Derived.Handy
import Derived.Laws.BytesString
import Derived.Laws.CopyOwn
import Derived.Laws.EntriesVeiled
import Derived.Laws.MakeOwn
import Derived.Laws.ResultCell
import Derived.Laws.Rows
import Derived.Laws.Tables
import Derived.Lib.Hide
import Derived.LoopIn
import Derived.LoopNIn
import Derived.Maps.AppendAt
import Derived.Outline
import Derived.OwnWalkIn
import Derived.RangeFuncBound
import Derived.RangeFuncBox
import Derived.RangeFuncCalls
import Derived.RangeFuncLeaves
import Derived.RangeFuncNested
import Derived.Shelf.Abstract
import Derived.Shelf.Bytes.SlSmallAll
import Derived.Shelf.RegionOpen
import Derived.StillTailTactics
import Derived.Stop.BytesEq
import Derived.TacticsInMore
import Derived.WalkKit
import Derived.WalkLawsBesides
import Derived.WalkSpells
namespace Go.Proofs.YtbdkalpljhpnmaaGreat
open Go Go.RowKit

set_option maxRecDepth 10000 in
set_option maxHeartbeats 16000000 in
theorem rvalid_2 (z : Zn) (s : Zs) (w : World) (hm : ZnM z) (h : ZnAt w w.heap.size s z) (hyr : ∃ r0 r1, z.yearly = [r0, r1] ∧ YrS r0 ∧ YrS r1) : Calls Tryz.prog 52 #[.agg (znCells z s)] w (Gives (.int .i64 (rvF z)) w) := by
  have HYR : Hid (∀ W, Below w.heap.size w W → Calls Tryz.prog 69 #[.agg (znCells z s)] W (YrlP W (ysF z) (gapsF (ysF z) (zcyc z * 1440)))) := Lib.hid fun W hb => yearly_any z s W hm (h.grow hb)
  have HCY : Hid (∀ W, Below w.heap.size w W → Calls Tryz.prog 71 #[.agg (znCells z s)] W (Gives (I (zcyc z)) W)) := Lib.hid fun W hb => zcyc_yes z s W hm.cal (h.grow hb)
  have HVL : Hid (∀ W, Below w.heap.size w W → Calls Tryz.prog 67 #[.agg (calCells z.cal s.A s.a s.B s.b)] W (Gives (.bool true) W)) := Lib.hid fun W hb => refValid_yes z.cal s.A s.B s.a s.b W hm.cal ⟨h.months.grow hb, h.rules.grow hb⟩
  have HM := Lib.hid hm
  have HH := Lib.hid h
  have hmo := hm.cal.mo
  have hst := hm.start
  have hho := hm.hor
  have htl := hm.trl
  clear hm h
  obtain ⟨res, hres⟩ : ∃ r, rvF z = r := ⟨_, rfl⟩
  rw [hres]
  have HRES := Lib.hid hres
  clear hres
  obtain ⟨m, hmm⟩ : ∃ m, z.trans.length = m := ⟨_, rfl⟩
  rw [hmm] at htl
  have HMM := Lib.hid hmm
  obtain ⟨cal, st, tr, ho, yr⟩ := z
  obtain ⟨A0, a, R0, r, C0, c0, D0, d0⟩ := s
  simp only at hyr hmo hmm hst hho HMM ⊢
  obtain ⟨ep, hcep⟩ : ∃ ep, cal.epoch = ep := ⟨_, rfl⟩
  obtain ⟨lp, hclp⟩ : ∃ lp, cal.leap = lp := ⟨_, rfl⟩
  obtain ⟨n1, hn1⟩ : ∃ n, cal.rules.length = n := ⟨_, rfl⟩
  have hwa := fun W => within_yes st 1080 W (by omega) (by omega) (by omega)
  have hwb := fun W => within_yes ho 2251799813685248 W (by omega) (by omega) (by omega)
  have HWA := Lib.hid hwa
  have HWB := Lib.hid hwb
  clear hwa hwb
  obtain ⟨r0, r1, rfl, hr0, hr1⟩ := hyr
  unfold znCells calCells at *
  simp only [hcep, hclp, hmo, hn1, hmm, List.length_cons, List.length_nil, Nat.zero_add, Nat.reduceAdd] at HYR HCY HVL ⊢
  have HV := Lib.hid (CalV.start w #[I ep, .slice A0 2 a, I lp, .slice R0 n1 r, I st, .slice C0 m c0, I ho, .slice D0 2 d0] 41)
  clear hcep hclp hmo hn1 hmm
  go_enter Tryz.func52, Tryz.ntmps52
  go_wp2_with fail
  refine (HVL.out _ HV.out.up).mono ?_
  rintro e w1 ⟨rfl, hb1⟩
  have HW := Lib.hid (HV.out.grow hb1)
  clear hb1 HV HVL
  have v0 : w1.cell? ⟨w.heap.size, 0, none⟩ = some (I ep) := HW.out.row.2 0
  have v1 : w1.cell? ⟨w.heap.size, 1, none⟩ = some (.slice A0 2 a) := HW.out.row.2 1
  have v2 : w1.cell? ⟨w.heap.size, 2, none⟩ = some (I lp) := HW.out.row.2 2
  have v3 : w1.cell? ⟨w.heap.size, 3, none⟩ = some (.slice R0 n1 r) := HW.out.row.2 3
  have v4 : w1.cell? ⟨w.heap.size, 4, none⟩ = some (I st) := HW.out.row.2 4
  have v5 : w1.cell? ⟨w.heap.size, 5, none⟩ = some (.slice C0 m c0) := HW.out.row.2 5
  have v6 : w1.cell? ⟨w.heap.size, 6, none⟩ = some (I ho) := HW.out.row.2 6
  have v7 : w1.cell? ⟨w.heap.size, 7, none⟩ = some (.slice D0 2 d0) := HW.out.row.2 7
  go_wp2_with fail
  refine (HWA.out w1).mono ?_
  rintro e w2 ⟨rfl, rfl⟩
  go_wp2_with fail
  refine (HWB.out w2).mono ?_
  rintro e w3 ⟨rfl, rfl⟩
  go_wp2_with fail
  clear v0 v1 v2 v3 v4 v5 v6 v7
  go_loopw [3] (fun i wr => VRel w #[I ep, .slice A0 2 a, I lp, .slice R0 n1 r, I st, .slice C0 m c0, I ho, .slice D0 2 d0] m i wr) (fun i _ => m - (intOf i).toNat)
  case atStart => exact ⟨0, Nat.zero_le _, by go_num, HW.out⟩
  case round =>
    obtain ⟨k, hk, rfl, hv⟩ := hrel
    have HX := Lib.hid hv
    clear hv HW
    by_cases hlt : k < m
    · have hct := trans_at HH.out.trans HX.out.up (by show 0 < tr.length; rw [HMM.out]; omega)
      obtain ⟨tb, tf, hC, htc⟩ := hct
      simp only at hC
      subst hC
      have v0 : wr.cell? ⟨w.heap.size, 0, none⟩ = some (I ep) := HX.out.row.2 0
      have v1 : wr.cell? ⟨w.heap.size, 1, none⟩ = some (.slice A0 2 a) := HX.out.row.2 1
      have v2 : wr.cell? ⟨w.heap.size, 2, none⟩ = some (I lp) := HX.out.row.2 2
      have v3 : wr.cell? ⟨w.heap.size, 3, none⟩ = some (.slice R0 n1 r) := HX.out.row.2 3
      have v4 : wr.cell? ⟨w.heap.size, 4, none⟩ = some (I st) := HX.out.row.2 4
      have v5 : wr.cell? ⟨w.heap.size, 5, none⟩ = some (.slice (some ⟨tb, tf, none⟩) m c0) := HX.out.row.2 5
      have v6 : wr.cell? ⟨w.heap.size, 6, none⟩ = some (I ho) := HX.out.row.2 6
      have v7 : wr.cell? ⟨w.heap.size, 7, none⟩ = some (.slice D0 2 d0) := HX.out.row.2 7
      obtain ⟨x0, x1⟩ := htc k (by show k < tr.length; rw [HMM.out]; exact hlt)
      have hbd := ZnM.at_bd HM.out k (by show k < tr.length; rw [HMM.out]; exact hlt)
      simp only at x0 x1 hbd
      obtain ⟨a1, ha1⟩ : ∃ v, atI tr k = v := ⟨_, rfl⟩
      obtain ⟨o1, ho1⟩ : ∃ v, offI tr k = v := ⟨_, rfl⟩
      rw [ha1] at x0 hbd
      rw [ho1] at x1 hbd
      have HA1 := Lib.hid ha1
      clear ho1
      have i0 : (0 : Int) ≤ (k : Int) := by omega
      have i1 : (k : Int) < (m : Int) := by omega
      have hwo := fun W => within_yes o1 1080 W (by omega) (by omega) (by omega)
      have hwt := fun W => within_yes a1 2251799813685248 W (by omega) (by omega) (by omega)
      have HWO := Lib.hid hwo
      have HWT := Lib.hid hwt
      have hah : decide (ho ≤ a1) = false := decide_eq_false (by omega)
      clear hwo hwt ha1
      have x0p := fun (hk0 : 0 < k) => (htc (k - 1) (by show k - 1 < tr.length; rw [HMM.out]; omega)).1
      have hgp := fun (hk0 : 0 < k) => HM.out.gap (k - 1) (by show k - 1 + 1 < tr.length; rw [HMM.out]; omega)
      simp only at x0p hgp
      have HX0P := Lib.hid x0p
      have HGP := Lib.hid hgp
      clear x0p hgp
      go_wp2_with fail
      clear v0 v1 v2 v3 v4 v5 v6 v7
      have HX1 : Hid (CalV w #[I ep, .slice A0 2 a, I lp, .slice R0 n1 r, I st, .slice (some ⟨tb, tf, none⟩) m c0, I ho, .slice D0 2 d0] (wr.alloc (.cells #[I a1, I o1] 78))) := Lib.hid (HX.out.alloc _)
      have HU1 : Hid (Below wr.heap.size wr (wr.alloc (.cells #[I a1, I o1] 78))) := Lib.hid (below_var wr _)
      have HRW := (Row.new wr #[I a1, I o1] 78).2
      have t0 : (wr.alloc (.cells #[I a1, I o1] 78)).cell? ⟨wr.heap.size, 0, none⟩ = some (I a1) := HRW 0
      have t1 : (wr.alloc (.cells #[I a1, I o1] 78)).cell? ⟨wr.heap.size, 1, none⟩ = some (I o1) := HRW 1
      clear HRW x0 x1
      generalize wr.alloc (.cells #[I a1, I o1] 78) = W1 at HX1 HU1 t0 t1 ⊢
      have v0 : W1.cell? ⟨w.heap.size, 0, none⟩ = some (I ep) := HX1.out.row.2 0
      have v1 : W1.cell? ⟨w.heap.size, 1, none⟩ = some (.slice A0 2 a) := HX1.out.row.2 1
      have v2 : W1.cell? ⟨w.heap.size, 2, none⟩ = some (I lp) := HX1.out.row.2 2
      have v3 : W1.cell? ⟨w.heap.size, 3, none⟩ = some (.slice R0 n1 r) := HX1.out.row.2 3
      have v4 : W1.cell? ⟨w.heap.size, 4, none⟩ = some (I st) := HX1.out.row.2 4
      have v5 : W1.cell? ⟨w.heap.size, 5, none⟩ = some (.slice (some ⟨tb, tf, none⟩) m c0) := HX1.out.row.2 5
      have v6 : W1.cell? ⟨w.heap.size, 6, none⟩ = some (I ho) := HX1.out.row.2 6
      have v7 : W1.cell? ⟨w.heap.size, 7, none⟩ = some (.slice D0 2 d0) := HX1.out.row.2 7
      cases k with
      | zero =>
        go_quiet (first | (go_at_call 68; with_reducible refine Calls.quiet_of_same (HWO.out _)) | (go_at_call 68; with_reducible refine Calls.quiet_of_same (HWT.out _)))
        go_wp2_with fail
        go_roundw
        case rel => exact ⟨0 + 1, by omega, by go_num, HX1.out.grow (below_drewN' _ _)⟩
        case measure => simp [intOf]; omega
      | succ k' =>
        obtain ⟨tb2, tf2, hC2, htc2⟩ := trans_at HH.out.trans HX1.out.up (by show 0 < tr.length; rw [HMM.out]; omega)
        simp only at hC2
        injection hC2 with hC2
        injection hC2 with e1 e2
        subst e1 e2
        have x0p := (htc2 k' (by show k' < tr.length; rw [HMM.out]; omega)).1
        have hgp := HGP.out (by omega)
        rw [show k' + 1 - 1 = k' by omega, HA1.out] at hgp
        simp only at x0p
        have hbq := (ZnM.at_bd HM.out k' (by show k' < tr.length; rw [HMM.out]; omega)).2
        simp only at hbq
        obtain ⟨a2, ha2⟩ : ∃ v, atI tr k' = v := ⟨_, rfl⟩
        rw [ha2] at x0p hgp hbq
        clear ha2
        have j0 : decide ((0 : Int) < (k' : Int) + 1) = true := decide_eq_true (by omega)
        have j1 : ((k' + 1 : Nat) : Int) - 1 = (k' : Int) := by omega
        have j2 : (k' : Int) < (m : Int) := by omega
        have j3 : decide (a1 - a2 < 2160) = false := decide_eq_false (by omega)
        go_quiet (first | (go_at_call 68; with_reducible refine Calls.quiet_of_same (HWO.out _)) | (go_at_call 68; with_reducible refine Calls.quiet_of_same (HWT.out _)))
        go_wp2_with fail
        go_roundw
        case rel => exact ⟨k' + 1 + 1, by omega, by go_num, HX1.out.grow (below_drewN' _ _)⟩
        case measure => simp [intOf]; omega
    · have hnl : ¬ (k : Int) < (m : Int) := by omega
      have v0 : wr.cell? ⟨w.heap.size, 0, none⟩ = some (I ep) := HX.out.row.2 0
      have v1 : wr.cell? ⟨w.heap.size, 1, none⟩ = some (.slice A0 2 a) := HX.out.row.2 1
      have v2 : wr.cell? ⟨w.heap.size, 2, none⟩ = some (I lp) := HX.out.row.2 2
      have v3 : wr.cell? ⟨w.heap.size, 3, none⟩ = some (.slice R0 n1 r) := HX.out.row.2 3
      have v4 : wr.cell? ⟨w.heap.size, 4, none⟩ = some (I st) := HX.out.row.2 4
      have v5 : wr.cell? ⟨w.heap.size, 5, none⟩ = some (.slice C0 m c0) := HX.out.row.2 5
      have v6 : wr.cell? ⟨w.heap.size, 6, none⟩ = some (I ho) := HX.out.row.2 6
      have v7 : wr.cell? ⟨w.heap.size, 7, none⟩ = some (.slice D0 2 d0) := HX.out.row.2 7
      go_wp2_with fail
      clear v0 v1 v2 v3 v4 v5 v6 v7
      obtain ⟨yb, yo, hD, hyb, hyc⟩ := HH.out.yearly.there (by simp [Yr.cells])
      simp only at hD hyc
      subst hD
      have hya := rangeAt_keep (CellsAt.elem (s := 5) (f := Yr.cells) (xs := [r0, r1]) (fun _ _ => rfl) hyc 0 r0 rfl) HX.out.up hyb
      have hyd := rangeAt_keep (CellsAt.elem (s := 5) (f := Yr.cells) (xs := [r0, r1]) (fun _ _ => rfl) hyc 1 r1 rfl) HX.out.up hyb
      have y00 : wr.cell? ⟨yb, yo, none⟩ = some (I r0.month) := hya 0 _ rfl
      have y01 : wr.cell? ⟨yb, yo + 1, none⟩ = some (I r0.week) := hya 1 _ rfl
      have y02 : wr.cell? ⟨yb, yo + 2, none⟩ = some (I r0.wday) := hya 2 _ rfl
      have y03 : wr.cell? ⟨yb, yo + 3, none⟩ = some (I r0.minute) := hya 3 _ rfl
      have y04 : wr.cell? ⟨yb, yo + 4, none⟩ = some (I r0.off) := hya 4 _ rfl
      have hm0 : 1 ≤ r0.month ∧ r0.month ≤ 2 := by rcases hr0.mo with h | h <;> omega
      obtain ⟨-, hk0, hd0, hi0, ho0⟩ := hr0
      have hwy0 := fun W => within_yes r0.off 1080 W (by omega) (by omega) (by omega)
      have HWY0 := Lib.hid hwy0
      clear hwy0
      have y10 : wr.cell? ⟨yb, yo + 5, none⟩ = some (I r1.month) := hyd 0 _ rfl
      have y11 : wr.cell? ⟨yb, yo + 6, none⟩ = some (I r1.week) := hyd 1 _ rfl
      have y12 : wr.cell? ⟨yb, yo + 7, none⟩ = some (I r1.wday) := hyd 2 _ rfl
      have y13 : wr.cell? ⟨yb, yo + 8, none⟩ = some (I r1.minute) := hyd 3 _ rfl
      have y14 : wr.cell? ⟨yb, yo + 9, none⟩ = some (I r1.off) := hyd 4 _ rfl
      have hm1 : 1 ≤ r1.month ∧ r1.month ≤ 2 := by rcases hr1.mo with h | h <;> omega
      obtain ⟨-, hk1, hd1, hi1, ho1⟩ := hr1
      have hwy1 := fun W => within_yes r1.off 1080 W (by omega) (by omega) (by omega)
      have HWY1 := Lib.hid hwy1
      clear hwy1
      have hybl : yb < wr.heap.size := Nat.lt_of_lt_of_le hyb HX.out.up.size
      have hltw : w.heap.size < wr.heap.size := HX.out.row.1
      clear hya hyd hyc hyb
      have v0 : wr.cell? ⟨w.heap.size, 0, none⟩ = some (I ep) := HX.out.row.2 0
      have v1 : wr.cell? ⟨w.heap.size, 1, none⟩ = some (.slice A0 2 a) := HX.out.row.2 1
      have v2 : wr.cell? ⟨w.heap.size, 2, none⟩ = some (I lp) := HX.out.row.2 2
      have v3 : wr.cell? ⟨w.heap.size, 3, none⟩ = some (.slice R0 n1 r) := HX.out.row.2 3
      have v4 : wr.cell? ⟨w.heap.size, 4, none⟩ = some (I st) := HX.out.row.2 4
      have v5 : wr.cell? ⟨w.heap.size, 5, none⟩ = some (.slice C0 m c0) := HX.out.row.2 5
      have v6 : wr.cell? ⟨w.heap.size, 6, none⟩ = some (I ho) := HX.out.row.2 6
      have v7 : wr.cell? ⟨w.heap.size, 7, none⟩ = some (.slice (some ⟨yb, yo, none⟩) 2 d0) := HX.out.row.2 7
      refine wp_loop_rounds 3 ?_
      rw [rounds_succ]
      go_wp2_with fail
      refine (HWY0.out _).mono ?_
      rintro e wq ⟨rfl, rfl⟩
      go_wp2_with fail
      rw [rounds_succ]
      go_wp2_with fail
      refine (HWY1.out _).mono ?_
      rintro e wq ⟨rfl, rfl⟩
      go_wp2_with fail
      rw [rounds_succ]
      go_wp2_with fail
      clear v0 v1 v2 v3 v4 v5 v6 v7
      clear y00 y01 y02 y03 y04 y10 y11 y12 y13 y14 hm0 hk0 hd0 hi0 ho0 hm1 hk1 hd1 hi1 ho1 HWY0 HWY1 hybl hltw
      have HE := Lib.hid ((HX.out.alloc (.cells #[I r0.month, I r0.week, I r0.wday, I r0.minute, I r0.off] 80)).alloc (.cells #[I r1.month, I r1.week, I r1.wday, I r1.minute, I r1.off] 80))
      refine (HYR.out _ HE.out.up).mono ?_
      rintro e w4 ⟨A, n, c, hlen, rfl, hown, hb4⟩
      have HY : Hid (YS w #[I ep, .slice A0 2 a, I lp, .slice R0 n1 r, I st, .slice C0 m c0, I ho, .slice (some ⟨yb, yo, none⟩) 2 d0] w4 A n c (ysF ⟨cal, st, tr, ho, [r0, r1]⟩)) := Lib.hid ⟨HE.out.row.keep hb4, hown.lower HE.out.row.1, below_trans HE.out.up hb4, hlen⟩
      have hB := ysF_B _ HM.out
      have hzc := zcyc_bd _ HM.out.cal
      have hzg := zcyc_ge _ HM.out.cal
      obtain ⟨cyc, hcyc⟩ : ∃ v, zcyc ⟨cal, st, tr, ho, [r0, r1]⟩ = v := ⟨_, rfl⟩
      rw [hcyc] at hzc hzg HCY
      have HCYC := Lib.hid hcyc
      obtain ⟨ts, hts⟩ : ∃ v, ysF ⟨cal, st, tr, ho, [r0, r1]⟩ = v := ⟨_, rfl⟩
      rw [hts] at HY hB hlen
      have HTS := Lib.hid hts
      have hnl : n ≤ 1000 := by omega
      have HAF : Hid (∀ W, YS w #[I ep, .slice A0 2 a, I lp, .slice R0 n1 r, I st, .slice C0 m c0, I ho, .slice (some ⟨yb, yo, none⟩) 2 d0] W A n c ts → Calls Tryz.prog 70 #[.slice A n c, I cyc, I ho] W (Gives (.tuple #[.agg #[I (afterF ts (cyc * 1440) ho).1.at_, I (afterF ts (cyc * 1440) ho).1.off], .bool (afterF ts (cyc * 1440) ho).2]) W)) :=
        Lib.hid fun W hY => after_any (w.heap.size + 1) n c A ts cyc ho W hY.len hnl hY.own hB.1 hzg hzc.2 hho.1 hho.2
      obtain ⟨gp, hgp⟩ : ∃ g, gapsF ts (cyc * 1440) = g := ⟨_, rfl⟩
      have HGP := Lib.hid hgp
      rw [hts, hcyc, hgp]
      have hbts := Lib.hid hB.1
      clear hown hb4 hts hcyc hgp hB hlen hnl HX HYR
      cases gp with
      | false =>
        have HR1 : Hid (res = 1) := Lib.hid (by rw [← HRES.out]; unfold rvF; rw [HTS.out, HCYC.out, HGP.out]; rfl)
        go_wp2_with fail
        go_ret
        exact ⟨by rw [HR1.out]; rfl, HY.out.up⟩
      | true =>
        obtain ⟨af, haf⟩ : ∃ v, afterF ts (cyc * 1440) ho = v := ⟨_, rfl⟩
        rw [haf] at HAF
        have HAFV := Lib.hid haf
        clear haf
        obtain ⟨⟨xat, xof⟩, sm⟩ := af
        have HXB : Hid (-10000000000 ≤ xat ∧ xat ≤ 10000000000) := Lib.hid (by have h := after_bd (t := ho) (hbts.out) (show 1440 ≤ cyc * 1440 by omega) (by omega) hho.1 hho.2; rw [HAFV.out] at h; exact h)
        simp only at HAF
        have hlt4 : w.heap.size < w4.heap.size := HY.out.row.1
        have v0 : w4.cell? ⟨w.heap.size, 0, none⟩ = some (I ep) := HY.out.row.2 0
        have v1 : w4.cell? ⟨w.heap.size, 1, none⟩ = some (.slice A0 2 a) := HY.out.row.2 1
        have v2 : w4.cell? ⟨w.heap.size, 2, none⟩ = some (I lp) := HY.out.row.2 2
        have v3 : w4.cell? ⟨w.heap.size, 3, none⟩ = some (.slice R0 n1 r) := HY.out.row.2 3
        have v4 : w4.cell? ⟨w.heap.size, 4, none⟩ = some (I st) := HY.out.row.2 4
        have v5 : w4.cell? ⟨w.heap.size, 5, none⟩ = some (.slice C0 m c0) := HY.out.row.2 5
        have v6 : w4.cell? ⟨w.heap.size, 6, none⟩ = some (I ho) := HY.out.row.2 6
        have v7 : w4.cell? ⟨w.heap.size, 7, none⟩ = some (.slice (some ⟨yb, yo, none⟩) 2 d0) := HY.out.row.2 7
        go_upto_region 20 with fail
        go_cut [9, 10] (fun p ok wx => ∃ b, p = .pointer (some ⟨b, 0, none⟩) ∧ ok = .bool sm ∧ wx.cell? ⟨b, 0, none⟩ = some (I xat) ∧ CalV w #[I ep, .slice A0 2 a, I lp, .slice R0 n1 r, I st, .slice C0 m c0, I ho, .slice (some ⟨yb, yo, none⟩) 2 d0] wx)
        case first =>
          go_region_law (first
            | (go_simp; go_at_call 71; refine Calls.mono (HCY.out _ ?hcb) ?_; (case hcb => (first | exact HY.out.up.drew | exact (HY.out.call (below_var w4 _)).up.drew)); rintro e w5 ⟨rfl, hb5⟩; (first | have HS5 := Lib.hid (HY.out.call (below_trans (Below.refl _ w4).drew hb5)) | (have HS5 := Lib.hid (HY.out.call (below_trans (below_var w4 (.cells #[I 0, I 0] 78)).drew hb5)); have hz5 : w5.heap[w4.heap.size]? = some (.cells #[I 0, I 0] 78 (0, 0)) := (hb5.block _ (lt_of_blk (heap_alloc_last w4 (.cells #[I 0, I 0] 78)))).trans (heap_alloc_last w4 _); have q0 := cell_of_row _ _ 0 _ _ _ hz5; have q1 := cell_of_row _ _ 1 _ _ _ hz5; have qf := fun i => frozen_of_row _ _ i _ _ hz5)); have v6' : w5.cell? ⟨w.heap.size, 6, none⟩ = some (I ho) := HS5.out.row.2 6; have hlt5 : w.heap.size < w5.heap.size := HS5.out.row.1)
            | (go_simp; go_at_call 70; refine Calls.mono (HAF.out _ ?hcb) ?_; (case hcb => (first | exact HS5.out | exact HS5.out.call (below_var w5 _))); rintro e w6 ⟨rfl, hb6⟩; (first | have HS6 := Lib.hid (HS5.out.call hb6) | (have HS6 := Lib.hid (HS5.out.call (below_trans (below_var w5 (.cells #[I 0, I 0] 78)) hb6)); have hz6 : w6.heap[w5.heap.size]? = some (.cells #[I 0, I 0] 78 (0, 0)) := (hb6.block _ (lt_of_blk (heap_alloc_last w5 (.cells #[I 0, I 0] 78)))).trans (heap_alloc_last w5 _); have q0 := cell_of_row _ _ 0 _ _ _ hz6; have q1 := cell_of_row _ _ 1 _ _ _ hz6; have qf := fun i => frozen_of_row _ _ i _ _ hz6)); (try (have hz64 : w6.heap[w4.heap.size]? = some (.cells #[I 0, I 0] 78 (0, 0)) := (hb6.block _ (lt_of_blk hz5)).trans hz5; have q0 := cell_of_row _ _ 0 _ _ _ hz64; have q1 := cell_of_row _ _ 1 _ _ _ hz64; have qf := fun i => frozen_of_row _ _ i _ _ hz64))))
          all_goals
            go_wp2_with fail
            go_meet
            first
              | (have hzz := hz64; exact ⟨w4.heap.size, rfl, rfl, cell_of_row _ _ 0 _ _ _ (heap_setCell_same _ w4.heap.size 1 _ _ _ (heap_setCell_same _ w4.heap.size 0 _ _ _ hzz)), (HY.out.call (((below_trans (below_trans (below_var w4 _).drew hb5) hb6).setCell (p := ⟨w4.heap.size, 0, none⟩) (Nat.le_refl _) _).setCell (p := ⟨w4.heap.size, 1, none⟩) (Nat.le_refl _) _)).row, (HY.out.call (((below_trans (below_trans (below_var w4 _).drew hb5) hb6).setCell (p := ⟨w4.heap.size, 0, none⟩) (Nat.le_refl _) _).setCell (p := ⟨w4.heap.size, 1, none⟩) (Nat.le_refl _) _)).up⟩)
              | (have hzz := hz6; exact ⟨w5.heap.size, rfl, rfl, cell_of_row _ _ 0 _ _ _ (heap_setCell_same _ w5.heap.size 1 _ _ _ (heap_setCell_same _ w5.heap.size 0 _ _ _ hzz)), (HS5.out.call (((below_trans (below_var w5 _) hb6).setCell (p := ⟨w5.heap.size, 0, none⟩) (Nat.le_refl _) _).setCell (p := ⟨w5.heap.size, 1, none⟩) (Nat.le_refl _) _)).row, (HS5.out.call (((below_trans (below_var w5 _) hb6).setCell (p := ⟨w5.heap.size, 0, none⟩) (Nat.le_refl _) _).setCell (p := ⟨w5.heap.size, 1, none⟩) (Nat.le_refl _) _)).up⟩)
              | exact ⟨w6.heap.size, rfl, rfl, (Row.new w6 #[I xat, I xof] 78).2 0, (HS6.out.call (below_var w6 _)).row, (HS6.out.call (below_var w6 _)).up⟩
        case rest =>
          obtain ⟨b, rfl, rfl, hx, hcv⟩ := hcut
          have HXC := Lib.hid hx
          have HCV := Lib.hid hcv
          clear hx hcv HAF HCY HY hlt4
          clear v0 v1 v2 v3 v4 v5 v6 v7
          have x0 : wc.cell? ⟨b, 0, none⟩ = some (I xat) := HXC.out
          have v5 : wc.cell? ⟨w.heap.size, 5, none⟩ = some (.slice C0 m c0) := HCV.out.row.2 5
          cases sm with
          | false =>
            have HR0 : Hid (res = 0) := Lib.hid (by rw [← HRES.out]; unfold rvF lateF; rw [HTS.out, HCYC.out, HGP.out, HAFV.out]; rfl)
            go_wp2_with fail
            go_quiet (fail)
            go_wp2_with fail
            go_ret
            exact ⟨by rw [HR0.out]; rfl, below_trans HCV.out.up (below_drewN' _ _)⟩
          | true =>
            cases m with
            | zero =>
              have HR0 : Hid (res = 0) := Lib.hid (by rw [← HRES.out]; unfold rvF lateF; rw [HTS.out, HCYC.out, HGP.out, HAFV.out, HMM.out]; rfl)
              go_wp2_with fail
              go_quiet (fail)
              go_wp2_with fail
              go_ret
              exact ⟨by rw [HR0.out]; rfl, below_trans HCV.out.up (below_drewN' _ _)⟩
            | succ m' =>
              obtain ⟨tb, tf, hC, htc⟩ := trans_at HH.out.trans HCV.out.up (by show 0 < tr.length; rw [HMM.out]; omega)
              simp only at hC
              subst hC
              have y0 := (htc m' (by show m' < tr.length; rw [HMM.out]; omega)).1
              have hbd := (ZnM.at_bd HM.out m' (by show m' < tr.length; rw [HMM.out]; omega)).2
              simp only at y0 hbd
              obtain ⟨a1, ha1⟩ : ∃ v, atI tr m' = v := ⟨_, rfl⟩
              rw [ha1] at y0 hbd
              have HA1 := Lib.hid ha1
              clear ha1 htc
              have hxb : -10000000000 ≤ xat ∧ xat ≤ 10000000000 := HXB.out
              have j0 : decide ((0 : Int) < (m' : Int) + 1) = true := decide_eq_true (by omega)
              have j1 : (m' : Int) + 1 - 1 = (m' : Int) := by omega
              have j2 : (m' : Int) < (m' : Int) + 1 := by omega
              obtain ⟨t, ht⟩ : ∃ t, decide (xat - a1 < 2160) = t := ⟨_, rfl⟩
              have HT := Lib.hid ht
              have hlv : lateF ⟨cal, st, tr, ho, [r0, r1]⟩ = t := by
                unfold lateF
                rw [HTS.out, HCYC.out, HAFV.out, HMM.out]
                show (true && (decide (0 < m' + 1) && decide (xat - atI tr (m' + 1 - 1) < 2160))) = t
                rw [show m' + 1 - 1 = m' by omega, HA1.out, HT.out, decide_eq_true (show 0 < m' + 1 by omega)]
                rfl
              have HLV := Lib.hid hlv
              clear hlv
              cases t with
              | false =>
                have HR0 : Hid (res = 0) := Lib.hid (by rw [← HRES.out]; unfold rvF; rw [HTS.out, HCYC.out, HGP.out, HLV.out]; rfl)
                go_wp2_with fail
                go_quiet (fail)
                go_wp2_with fail
                go_ret
                exact ⟨by rw [HR0.out]; rfl, below_trans HCV.out.up (below_drewN' _ _)⟩
              | true =>
                have HR0 : Hid (res = 1) := Lib.hid (by rw [← HRES.out]; unfold rvF; rw [HTS.out, HCYC.out, HGP.out, HLV.out]; rfl)
                go_wp2_with fail
                go_quiet (fail)
                go_wp2_with fail
                go_ret
                exact ⟨by rw [HR0.out]; rfl, below_trans HCV.out.up (below_drewN' _ _)⟩
end Go.Proofs.YtbdkalpljhpnmaaGreat
