/- The texts SvN, Bnd, Flds, MadeD, MadeM, MadeC, MadeN, MadeW, in this order. -/
import Derived.Test.YthhbbebabmemfaaGreatG04
import Derived.BigQuiet
import Derived.Deep.AppendLies
import Derived.Deep.CutBlock
import Derived.Deep.DeepCutAuto
import Derived.Deep.DrawnRows
import Derived.Deep.MidRow
import Derived.Deep.QuietTactic
import Derived.Deep.RegionHeld3
import Derived.Deep.RegionLaw
import Derived.Deep.WholeRow
import Derived.Great.BuildSlice
import Derived.Laws.BytesString
import Derived.Laws.CopyOwn
import Derived.Laws.Cover3
import Derived.Laws.EntriesVeiled
import Derived.Laws.MakeOwn
import Derived.Laws.ResultCell
import Derived.Laws.Rows
import Derived.Laws.Tables
import Derived.Lib.Hide
import Derived.LoopIn
import Derived.LoopNIn
import Derived.MapKept
import Derived.Maps.AppendAt
import Derived.Outline
import Derived.OwnWalkIn
import Derived.RangeFuncBound
import Derived.RangeFuncBox
import Derived.RangeFuncCalls
import Derived.RangeFuncLeaves
import Derived.RangeFuncNested
import Derived.Shelf.Abstract
import Derived.Shelf.Bytes.SlSmallAll
import Derived.Shelf.RegionOpen
import Derived.StillTailTactics
import Derived.Stop.BytesEq
import Derived.TacticsInMore
import Derived.WalkKit
import Derived.WalkLawsBesides
import Derived.WalkSpells
import Derived.Test.YthhbbebabmemfaaGreatProg
import Derived.Test.YthhbbebabmemfaaGreatData
import Derived.Test.YthhbbebabmemfaaGreatG01
import Derived.Test.YthhbbebabmemfaaGreatG03
import Derived.Test.YthhbbebabmemfaaGreatReadD
import Derived.Test.YthhbbebabmemfaaGreatSan
/- series.moveOK, series.sound, series.Valid (where the series is valid). -/
namespace Go.Proofs.YthhbbebabmemfaaGreat
open Go Go.RowKit

theorem eql_mv_same (d t n l : Int) (b : Bool) (W : World) : (binOp .eql 26 (.agg #[I d, .bool b, I t, I n, I l]) (.agg #[I d, .bool b, I t, I n, I l])).run Tryz.prog W = .ok (.bool true) W := by
  simp [go_sem]
set_option maxRecDepth 10000 in
set_option maxHeartbeats 2000000 in
theorem moveOK_yes (m : Mv) (w : World) (h : MvGood m) : Calls Tryz.prog 82 #[.agg #[I m.day, .bool m.drop, I m.toDay, I m.minute, I m.length]] w (Gives (.bool true) w) := by
  have HB := Lib.hid (below_var w (.cells #[I m.day, .bool m.drop, I m.toDay, I m.minute, I m.length] 26))
  obtain ⟨d, b, t, n, l⟩ := m
  obtain ⟨h1, h2, h⟩ := h
  simp only at h1 h2 h
  rcases h with ⟨rfl, rfl, rfl, rfl⟩ | ⟨rfl, h3, h4, h5, h6, h7, h8⟩
  · have he := eql_mv_same d 0 0 0 true
    go_enter Tryz.func82, Tryz.ntmps82
    go_wp2_with (go_at_call 81; refine (seWithin_yes _ _ _ _ (by omega) (by omega)).mono ?_; rintro e w' ⟨rfl, rfl⟩)
    go_ret
    exact ⟨rfl, HB.out⟩
  · go_enter Tryz.func82, Tryz.ntmps82
    go_wp2_with (go_at_call 81; refine (seWithin_yes _ _ _ _ (by omega) (by omega)).mono ?_; rintro e w' ⟨rfl, rfl⟩)
    go_ret
    exact ⟨rfl, HB.out⟩
theorem mvOne {w wr : World} {B : Option Addr} {ms : List Mv} {n k : Nat} (hB : MovesAt w w.heap.size B ms) (hl : ms.length = n) (hb : Below w.heap.size w wr) (hk : k < n) :
    ∃ b m, B = some ⟨b, 0, none⟩ ∧ b < wr.heap.size ∧ ms[k]? = some m ∧ wr.rangeAt b (k * 5) (mvCells m).toList := by
  rcases (hB.keep hb) with h | ⟨b1, h1, h2, h3⟩
  · omega
  have hx : ms[k]? = some ms[k] := List.getElem?_eq_getElem (by omega)
  exact ⟨b1, ms[k], h1, Nat.lt_of_lt_of_le h2 hb.size, hx, h3 k _ hx⟩
/-- Inside the loop: the series' box and the move's variable. -/
structure SoS (w : World) (sc : Array Value) (W : World) : Prop where
  box : Row W w.heap.size sc
  lo : Below w.heap.size w W
theorem SoS.below {w W W' : World} {sc : Array Value} (h : SoS w sc W) (hb : Below W.heap.size W W') : SoS w sc W' := ⟨h.box.keep hb, below_trans h.lo hb⟩
structure SoL (w : World) (sc : Array Value) (mb : Nat) (mc : Array Value) (pvF : World → Prop) (W : World) : Prop where
  box : Row W w.heap.size sc
  mv : Row W mb mc
  pv : pvF W
  lo : Below w.heap.size w W
theorem SoL.grow {w W W' : World} {sc : Array Value} {mb : Nat} {mc : Array Value} {F : World → Prop} (h : SoL w sc mb mc F W) (hb : Below W.heap.size W W') (hp : F W') : SoL w sc mb mc F W' := ⟨h.box.keep hb, h.mv.keep hb, hp, below_trans h.lo hb⟩
theorem mvv_size (m : Mv) : (Tryz.prog.info? 26).map (·.size) = some (#[I m.day, .bool m.drop, I m.toDay, I m.minute, I m.length] : Array Value).size := by kernel_rfl
set_option maxRecDepth 10000 in
set_option maxHeartbeats 2000000 in
theorem sound_yes (s : Ser) (A B : Option Addr) (c e n mn : Nat) (ns : List NdV) (w : World) (hA : RulesAt w w.heap.size A ns) (hl : ns.length = n) (hok : RuleOK ns) (hB : MovesAt w w.heap.size B s.moves) (hml : s.moves.length = mn) (h : SerGood s) :
    Calls Tryz.prog 60 #[.agg #[.slice A n c, I s.minute, I s.length, .string s.zone, I s.gap, I s.fold, .slice B mn e]] w (Gives (.bool true) w) := by
  have HS0 : Hid (SoS w #[.slice A n c, I s.minute, I s.length, .string s.zone, I s.gap, I s.fold, .slice B mn e] (w.alloc (.cells #[.slice A n c, I s.minute, I s.length, .string s.zone, I s.gap, I s.fold, .slice B mn e] 31))) := Lib.hid ⟨Row.new w _ _, below_var w _⟩
  have HP := Lib.hid (fun w' (hb : Below w.heap.size w w') => part_yes A n c ns w' ((hA.keep hb).more hb.size) hl hok)
  have HB := Lib.hid hB
  have HML := Lib.hid hml
  have HG := Lib.hid h
  obtain ⟨⟨q1, q2⟩, ⟨q3, q4⟩, ⟨q5, q6⟩, ⟨q7, q8⟩, ⟨q9, q10⟩, q11, _, _⟩ := h
  obtain ⟨rule, mi, le, zo, ga, fo, ms⟩ := s
  simp only at q1 q2 q3 q4 q5 q6 q7 q8 q9 q10 q11 HS0 HB HML ⊢
  have q12 : ¬ (64 : Int) < (mn : Int) := by have := HML.out; omega
  clear hA hl hok hB hml q11
  go_enter Tryz.func60, Tryz.ntmps60
  go_wp2_with fail
  refine (HP.out _ HS0.out.lo).mono ?_
  rintro e1 w1 ⟨⟨v, rfl⟩, hb1⟩
  have HS1 := Lib.hid (HS0.out.below hb1)
  have g0 := HS1.out.box.2
  clear hb1 HP HS0
  go_wp2_with (go_at_call 81; refine (seWithin_yes _ _ _ _ (by omega) (by omega)).mono ?_; rintro e w' ⟨rfl, rfl⟩)
  clear g0
  go_loopw [53] (fun i wr => ∃ k : Nat, k ≤ mn ∧ i = I k ∧ SoS w #[.slice A n c, I mi, I le, .string zo, I ga, I fo, .slice B mn e] wr) (fun i _ => mn - (intOf i).toNat)
  case atStart => exact ⟨0, by omega, rfl, HS1.out⟩
  case round =>
    obtain ⟨k, hk, rfl, hso⟩ := hrel
    have HSO := Lib.hid hso
    clear hso HS1
    by_cases hlt : (k : Int) < (mn : Int)
    · have i0 : (0 : Int) ≤ (k : Int) := by omega
      have i1 : k < mn := by omega
      obtain ⟨b, m, hBe, hbl, hx, hr⟩ := mvOne HB.out HML.out HSO.out.lo i1
      have f0 : wr.cell? ⟨b, k * 5, none⟩ = some (I m.day) := hr 0 _ rfl
      have f1 : wr.cell? ⟨b, k * 5 + 1, none⟩ = some (.bool m.drop) := hr 1 _ rfl
      have f2 : wr.cell? ⟨b, k * 5 + 2, none⟩ = some (I m.toDay) := hr 2 _ rfl
      have f3 : wr.cell? ⟨b, k * 5 + 3, none⟩ = some (I m.minute) := hr 3 _ rfl
      have f4 : wr.cell? ⟨b, k * 5 + 4, none⟩ = some (I m.length) := hr 4 _ rfl
      have HGD : Hid (MvGood m) := Lib.hid (HG.out.mv m (List.mem_of_getElem? hx))
      have hne : ¬ b = wr.heap.size := by omega
      have HBV := Lib.hid (below_var wr (.cells #[I m.day, .bool m.drop, I m.toDay, I m.minute, I m.length] 26))
      have HSV := Lib.hid (HSO.out.below HBV.out)
      have HRV := Lib.hid (Row.new wr #[I m.day, .bool m.drop, I m.toDay, I m.minute, I m.length] 26)
      by_cases hk0 : k = 0
      · have hq : ¬ (0 : Int) < (k : Int) := by omega
        subst hBe
        clear hr hx hk0
        go_wp2_with fail
        have hS1 : SoL w #[.slice A n c, I mi, I le, .string zo, I ga, I fo, .slice (some ⟨b, 0, none⟩) mn e] wr.heap.size #[I m.day, .bool m.drop, I m.toDay, I m.minute, I m.length] (fun _ => True) (wr.alloc (.cells #[I m.day, .bool m.drop, I m.toDay, I m.minute, I m.length] 26)).drew := ⟨HSV.out.box, HRV.out, trivial, HSV.out.lo.drew⟩
        refine wp_region_held_drew (S := SoL w #[.slice A n c, I mi, I le, .string zo, I ga, I fo, .slice (some ⟨b, 0, none⟩) mn e] wr.heap.size #[I m.day, .bool m.drop, I m.toDay, I m.minute, I m.length] (fun _ => True)) (by kernel_rfl) hS1 (fun hH0 => ?_)
        refine wpAnyH_take_dst (i := 0) (v := _) (d := 58) rfl rfl (by kernel_rfl) (by kernel_rfl) (by kernel_rfl) (fun _ _ _ h => h) (yieldsIf_load_Row (by rfl) _ _ rfl wr.heap.size rfl #[I m.day, .bool m.drop, I m.toDay, I m.minute, I m.length] _ (fun w' h => h.mv) Tryz.underlying26 rfl (mvv_size m)) (by assumption) ?r0a
        try simp only [Act.put, List.setIfInBounds_toArray, List.set_cons_zero, List.set_cons_succ]
        refine wpAnyH_ready (rs := [1]) (by kernel_rfl) (by simp) ?_
        refine AllReadyH.cons rfl (fun K hK => ?_) AllReadyH.nil
        go_simp
        refine (moveOK_yes m _ HGD.out).mono ?_
        rintro v5 w5 ⟨rfl, hb5⟩
        have hS5 := hS1.grow hb5 trivial
        clear hb5
        refine hK.out _ _ hS5 (fun hHeld => ?_)
        clear hHeld
        clear hK K
        try simp only [Act.put, List.setIfInBounds_toArray, List.set_cons_zero, List.set_cons_succ]
        refine wpAnyH_take_dst (i := 2) (v := ?v2a) (d := 60) rfl rfl (by kernel_rfl) (by kernel_rfl) (by kernel_rfl) (fun _ _ _ h => h) (Or.inl ⟨by rfl, ?hy2a⟩) (by assumption) ?r2a
        case hy2a => intro w' hSw; have k0 := hSw.mv.2; have k1 := hSw.box.2; have k2 := hSw.pv; clear hSw; first | (go_simp; done) | (go_simp; with_reducible rfl)
        try simp only [Act.put, List.setIfInBounds_toArray, List.set_cons_zero, List.set_cons_succ]
        refine wpAnyH_take_dst (i := 3) (v := ?v3a) (d := 61) rfl rfl (by kernel_rfl) (by kernel_rfl) (by kernel_rfl) (fun _ _ _ h => h) (Or.inl ⟨by rfl, ?hy3a⟩) (by assumption) ?r3a
        case hy3a => intro w' hSw; have k0 := hSw.mv.2; have k1 := hSw.box.2; have k2 := hSw.pv; clear hSw; first | (go_simp; done) | (go_simp; with_reducible rfl)
        try simp only [Act.put, List.setIfInBounds_toArray, List.set_cons_zero, List.set_cons_succ]
        refine wpAnyH_take_dst (i := 4) (v := ?v4a) (d := 62) rfl rfl (by kernel_rfl) (by kernel_rfl) (by kernel_rfl) (fun _ _ _ h => h) (Or.inl ⟨by rfl, ?hy4a⟩) (by assumption) ?r4a
        case hy4a => intro w' hSw; have k0 := hSw.mv.2; have k1 := hSw.box.2; have k2 := hSw.pv; clear hSw; first | (go_simp; done) | (go_simp; with_reducible rfl)
        try simp only [Act.put, List.setIfInBounds_toArray, List.set_cons_zero, List.set_cons_succ]
        refine wpAnyH_take_dst (i := 5) (v := .bool false) (d := 63) rfl rfl (by kernel_rfl) (by kernel_rfl) (by kernel_rfl) (fun _ _ _ h => h) (Or.inl ⟨by rfl, ?hy5a⟩) (by assumption) ?r5a
        case hy5a => intro w' hSw; clear hSw; first | (go_simp; done) | (go_simp; omega) | (go_simp; rw [decide_eq_false hq]; done) | (go_simp; rw [decide_eq_false hq]; rfl)
        try simp only [Act.put, List.setIfInBounds_toArray, List.set_cons_zero, List.set_cons_succ]
        refine wpAnyH_take_dst (i := 6) (v := ?v6a) (d := 64) rfl rfl (by kernel_rfl) (by kernel_rfl) (by kernel_rfl) (fun _ _ _ h => h) (Or.inl ⟨by rfl, ?hy6a⟩) (by assumption) ?r6a
        case hy6a => intro w' hSw; have k0 := hSw.mv.2; have k1 := hSw.box.2; have k2 := hSw.pv; clear hSw; first | (go_simp; done) | (go_simp; with_reducible rfl)
        try simp only [Act.put, List.setIfInBounds_toArray, List.set_cons_zero, List.set_cons_succ]
        refine wpAnyH_take_dst (i := 7) (v := undef) (d := 65) rfl rfl (by kernel_rfl) (by kernel_rfl) (by kernel_rfl) (fun _ _ _ h => h) (Or.inr ⟨by rfl, rfl⟩) (by assumption) ?r7a
        try simp only [Act.put, List.setIfInBounds_toArray, List.set_cons_zero, List.set_cons_succ]
        refine wpAnyH_take_dst (i := 8) (v := undef) (d := 66) rfl rfl (by kernel_rfl) (by kernel_rfl) (by kernel_rfl) (fun _ _ _ h => h) (Or.inr ⟨by rfl, rfl⟩) (by assumption) ?r8a
        try simp only [Act.put, List.setIfInBounds_toArray, List.set_cons_zero, List.set_cons_succ]
        refine wpAnyH_take_dst (i := 9) (v := undef) (d := 67) rfl rfl (by kernel_rfl) (by kernel_rfl) (by kernel_rfl) (fun _ _ _ h => h) (Or.inr ⟨by rfl, rfl⟩) (by assumption) ?r9a
        try simp only [Act.put, List.setIfInBounds_toArray, List.set_cons_zero, List.set_cons_succ]
        refine wpAnyH_take_dst (i := 10) (v := undef) (d := 68) rfl rfl (by kernel_rfl) (by kernel_rfl) (by kernel_rfl) (fun _ _ _ h => h) (Or.inr ⟨by rfl, rfl⟩) (by assumption) ?r10a
        try simp only [Act.put, List.setIfInBounds_toArray, List.set_cons_zero, List.set_cons_succ]
        refine wpAnyH_take_dst (i := 11) (v := undef) (d := 69) rfl rfl (by kernel_rfl) (by kernel_rfl) (by kernel_rfl) (fun _ _ _ h => h) (Or.inr ⟨by rfl, rfl⟩) (by assumption) ?r11a
        try simp only [Act.put, List.setIfInBounds_toArray, List.set_cons_zero, List.set_cons_succ]
        refine wpAnyH_take_dst (i := 12) (v := undef) (d := 70) rfl rfl (by kernel_rfl) (by kernel_rfl) (by kernel_rfl) (fun _ _ _ h => h) (Or.inr ⟨by rfl, rfl⟩) (by assumption) ?r12a
        try simp only [Act.put, List.setIfInBounds_toArray, List.set_cons_zero, List.set_cons_succ]
        refine wpAnyH_take_dst (i := 13) (v := undef) (d := 71) rfl rfl (by kernel_rfl) (by kernel_rfl) (by kernel_rfl) (fun _ _ _ h => h) (Or.inr ⟨by rfl, rfl⟩) (by assumption) ?r13a
        try simp only [Act.put, List.setIfInBounds_toArray, List.set_cons_zero, List.set_cons_succ]
        refine wpAnyH_take_dst (i := 14) (v := undef) (d := 72) rfl rfl (by kernel_rfl) (by kernel_rfl) (by kernel_rfl) (fun _ _ _ h => h) (Or.inr ⟨by rfl, rfl⟩) (by assumption) ?r14a
        try simp only [Act.put, List.setIfInBounds_toArray, List.set_cons_zero, List.set_cons_succ]
        refine wpAnyH_take_dst (i := 15) (v := undef) (d := 73) rfl rfl (by kernel_rfl) (by kernel_rfl) (by kernel_rfl) (fun _ _ _ h => h) (Or.inr ⟨by rfl, rfl⟩) (by assumption) ?r15a
        try simp only [Act.put, List.setIfInBounds_toArray, List.set_cons_zero, List.set_cons_succ]
        refine wpAnyH_take_dst (i := 16) (v := undef) (d := 74) rfl rfl (by kernel_rfl) (by kernel_rfl) (by kernel_rfl) (fun _ _ _ h => h) (Or.inr ⟨by rfl, rfl⟩) (by assumption) ?r16a
        try simp only [Act.put, List.setIfInBounds_toArray, List.set_cons_zero, List.set_cons_succ]
        refine wpAnyH_take_dst (i := 17) (v := ?v17a) (d := 75) rfl rfl (by kernel_rfl) (by kernel_rfl) (by kernel_rfl) (fun _ _ _ h => h) (Or.inl ⟨by rfl, ?hy17a⟩) (by assumption) ?r17a
        case hy17a => intro w' hSw; have k0 := hSw.mv.2; have k1 := hSw.box.2; have k2 := hSw.pv; clear hSw; first | (go_simp; done) | (go_simp; with_reducible rfl)
        try simp only [Act.put, List.setIfInBounds_toArray, List.set_cons_zero, List.set_cons_succ]
        refine wpAnyH_take_dst (i := 18) (v := ?v18a) (d := 76) rfl rfl (by kernel_rfl) (by kernel_rfl) (by kernel_rfl) (fun _ _ _ h => h) (Or.inl ⟨by rfl, ?hy18a⟩) (by assumption) ?r18a
        case hy18a => intro w' hSw; have k0 := hSw.mv.2; have k1 := hSw.box.2; have k2 := hSw.pv; clear hSw; first | (go_simp; done) | (go_simp; with_reducible rfl)
        try simp only [Act.put, List.setIfInBounds_toArray, List.set_cons_zero, List.set_cons_succ]
        refine wpAnyH_done (by kernel_rfl) ?_ _
        clear hH0
        go_wp2_with fail
        go_roundw
        case rel => exact ⟨k + 1, by omega, by go_num, ⟨hS5.box, hS5.lo⟩⟩
        case measure => simp [intOf]; omega
      · have hq : (0 : Int) < (k : Int) := by omega
        obtain ⟨b', p, hBe', hbl', hx', hr'⟩ := mvOne (k := k - 1) HB.out HML.out HSO.out.lo (by omega)
        have hbb : b = b' := by rw [hBe] at hBe'; injection hBe' with h; injection h with h _ _
        subst hbb
        subst hBe
        have hpd : ¬ m.day ≤ p.day := by
          have h1 : k - 1 < ms.length := by have := HML.out; omega
          have h2 : k < ms.length := by have := HML.out; omega
          have h3 := List.pairwise_iff_getElem.1 HG.out.up (k - 1) k h1 h2 (by omega)
          rw [List.getElem?_eq_getElem h1] at hx'
          rw [List.getElem?_eq_getElem h2] at hx
          injection hx with hx
          injection hx' with hx'
          subst hx hx'
          simp only at h3
          omega
        have HPR : Hid (wr.cell? ⟨b, (k - 1) * 5, none⟩ = some (I p.day)) := Lib.hid (hr' 0 _ rfl)
        have hwk : IntKind.i64.wrap ((k : Int) - 1) = ((k - 1 : Nat) : Int) := by rw [IntKind.wrap_i64]; omega
        have i2 : (0 : Int) ≤ ((k - 1 : Nat) : Int) := by omega
        have i3 : ((k - 1 : Nat) : Int) < (mn : Int) := by omega
        have i4 : k - 1 < mn := by omega
        clear hr hr' hx hx' hk0
        go_wp2_with fail
        have hS1 : SoL w #[.slice A n c, I mi, I le, .string zo, I ga, I fo, .slice (some ⟨b, 0, none⟩) mn e] wr.heap.size #[I m.day, .bool m.drop, I m.toDay, I m.minute, I m.length] (fun w' => w'.cell? ⟨b, (k - 1) * 5, none⟩ = some (I p.day)) (wr.alloc (.cells #[I m.day, .bool m.drop, I m.toDay, I m.minute, I m.length] 26)).drew := ⟨HSV.out.box, HRV.out, (World.cell?_of_block (a := ⟨b, (k - 1) * 5, none⟩) (HBV.out.block b hbl)).trans HPR.out, HSV.out.lo.drew⟩
        refine wp_region_held_drew (S := SoL w #[.slice A n c, I mi, I le, .string zo, I ga, I fo, .slice (some ⟨b, 0, none⟩) mn e] wr.heap.size #[I m.day, .bool m.drop, I m.toDay, I m.minute, I m.length] (fun w' => w'.cell? ⟨b, (k - 1) * 5, none⟩ = some (I p.day))) (by kernel_rfl) hS1 (fun hH0 => ?_)
        refine wpAnyH_take_dst (i := 0) (v := _) (d := 58) rfl rfl (by kernel_rfl) (by kernel_rfl) (by kernel_rfl) (fun _ _ _ h => h) (yieldsIf_load_Row (by rfl) _ _ rfl wr.heap.size rfl #[I m.day, .bool m.drop, I m.toDay, I m.minute, I m.length] _ (fun w' h => h.mv) Tryz.underlying26 rfl (mvv_size m)) (by assumption) ?r0b
        try simp only [Act.put, List.setIfInBounds_toArray, List.set_cons_zero, List.set_cons_succ]
        refine wpAnyH_ready (rs := [1]) (by kernel_rfl) (by simp) ?_
        refine AllReadyH.cons rfl (fun K hK => ?_) AllReadyH.nil
        go_simp
        refine (moveOK_yes m _ HGD.out).mono ?_
        rintro v5 w5 ⟨rfl, hb5⟩
        have hS5 := hS1.grow hb5 ((World.cell?_of_block (a := ⟨b, (k - 1) * 5, none⟩) (hb5.block b (by show b < (wr.alloc _).heap.size; simp; omega))).trans hS1.pv)
        clear hb5
        refine hK.out _ _ hS5 (fun hHeld => ?_)
        clear hHeld
        clear hK K
        try simp only [Act.put, List.setIfInBounds_toArray, List.set_cons_zero, List.set_cons_succ]
        refine wpAnyH_take_dst (i := 2) (v := ?v2b) (d := 60) rfl rfl (by kernel_rfl) (by kernel_rfl) (by kernel_rfl) (fun _ _ _ h => h) (Or.inl ⟨by rfl, ?hy2b⟩) (by assumption) ?r2b
        case hy2b => intro w' hSw; have k0 := hSw.mv.2; have k1 := hSw.box.2; have k2 := hSw.pv; clear hSw; first | (go_simp; done) | (go_simp; with_reducible rfl)
        try simp only [Act.put, List.setIfInBounds_toArray, List.set_cons_zero, List.set_cons_succ]
        refine wpAnyH_take_dst (i := 3) (v := ?v3b) (d := 61) rfl rfl (by kernel_rfl) (by kernel_rfl) (by kernel_rfl) (fun _ _ _ h => h) (Or.inl ⟨by rfl, ?hy3b⟩) (by assumption) ?r3b
        case hy3b => intro w' hSw; have k0 := hSw.mv.2; have k1 := hSw.box.2; have k2 := hSw.pv; clear hSw; first | (go_simp; done) | (go_simp; with_reducible rfl)
        try simp only [Act.put, List.setIfInBounds_toArray, List.set_cons_zero, List.set_cons_succ]
        refine wpAnyH_take_dst (i := 4) (v := ?v4b) (d := 62) rfl rfl (by kernel_rfl) (by kernel_rfl) (by kernel_rfl) (fun _ _ _ h => h) (Or.inl ⟨by rfl, ?hy4b⟩) (by assumption) ?r4b
        case hy4b => intro w' hSw; have k0 := hSw.mv.2; have k1 := hSw.box.2; have k2 := hSw.pv; clear hSw; first | (go_simp; done) | (go_simp; with_reducible rfl)
        try simp only [Act.put, List.setIfInBounds_toArray, List.set_cons_zero, List.set_cons_succ]
        refine wpAnyH_take_dst (i := 5) (v := .bool true) (d := 63) rfl rfl (by kernel_rfl) (by kernel_rfl) (by kernel_rfl) (fun _ _ _ h => h) (Or.inl ⟨by rfl, ?hy5b⟩) (by assumption) ?r5b
        case hy5b => intro w' hSw; clear hSw; first | (go_simp; done) | (go_simp; omega) | (go_simp; rw [decide_eq_true hq]; done) | (go_simp; rw [decide_eq_true hq]; rfl)
        try simp only [Act.put, List.setIfInBounds_toArray, List.set_cons_zero, List.set_cons_succ]
        refine wpAnyH_take_dst (i := 6) (v := ?v6b) (d := 64) rfl rfl (by kernel_rfl) (by kernel_rfl) (by kernel_rfl) (fun _ _ _ h => h) (Or.inl ⟨by rfl, ?hy6b⟩) (by assumption) ?r6b
        case hy6b => intro w' hSw; have k0 := hSw.mv.2; have k1 := hSw.box.2; have k2 := hSw.pv; clear hSw; first | (go_simp; done) | (go_simp; with_reducible rfl)
        try simp only [Act.put, List.setIfInBounds_toArray, List.set_cons_zero, List.set_cons_succ]
        refine wpAnyH_take_dst (i := 7) (v := ?v7b) (d := 65) rfl rfl (by kernel_rfl) (by kernel_rfl) (by kernel_rfl) (fun _ _ _ h => h) (Or.inl ⟨by rfl, ?hy7b⟩) (by assumption) ?r7b
        case hy7b => intro w' hSw; have k0 := hSw.mv.2; have k1 := hSw.box.2; have k2 := hSw.pv; clear hSw; first | (go_simp; done) | (go_simp; with_reducible rfl)
        try simp only [Act.put, List.setIfInBounds_toArray, List.set_cons_zero, List.set_cons_succ]
        refine wpAnyH_take_dst (i := 8) (v := ?v8b) (d := 66) rfl rfl (by kernel_rfl) (by kernel_rfl) (by kernel_rfl) (fun _ _ _ h => h) (Or.inl ⟨by rfl, ?hy8b⟩) (by assumption) ?r8b
        case hy8b => intro w' hSw; have k0 := hSw.mv.2; have k1 := hSw.box.2; have k2 := hSw.pv; clear hSw; first | (go_simp; done) | (go_simp; with_reducible rfl)
        try simp only [Act.put, List.setIfInBounds_toArray, List.set_cons_zero, List.set_cons_succ]
        refine wpAnyH_take_dst (i := 9) (v := ?v9b) (d := 67) rfl rfl (by kernel_rfl) (by kernel_rfl) (by kernel_rfl) (fun _ _ _ h => h) (Or.inl ⟨by rfl, ?hy9b⟩) (by assumption) ?r9b
        case hy9b => intro w' hSw; have k0 := hSw.mv.2; have k1 := hSw.box.2; have k2 := hSw.pv; clear hSw; first | (go_simp; done) | (go_simp; with_reducible rfl)
        try simp only [Act.put, List.setIfInBounds_toArray, List.set_cons_zero, List.set_cons_succ]
        refine wpAnyH_take_dst (i := 10) (v := ?v10b) (d := 68) rfl rfl (by kernel_rfl) (by kernel_rfl) (by kernel_rfl) (fun _ _ _ h => h) (Or.inl ⟨by rfl, ?hy10b⟩) (by assumption) ?r10b
        case hy10b => intro w' hSw; have k0 := hSw.mv.2; have k1 := hSw.box.2; have k2 := hSw.pv; clear hSw; first | (go_simp; done) | (go_simp; with_reducible rfl)
        try simp only [Act.put, List.setIfInBounds_toArray, List.set_cons_zero, List.set_cons_succ]
        refine wpAnyH_take_dst (i := 11) (v := ?v11b) (d := 69) rfl rfl (by kernel_rfl) (by kernel_rfl) (by kernel_rfl) (fun _ _ _ h => h) (Or.inl ⟨by rfl, ?hy11b⟩) (by assumption) ?r11b
        case hy11b => intro w' hSw; have k0 := hSw.mv.2; have k1 := hSw.box.2; have k2 := hSw.pv; clear hSw; first | (go_simp; done) | (go_simp; with_reducible rfl)
        try simp only [Act.put, List.setIfInBounds_toArray, List.set_cons_zero, List.set_cons_succ]
        refine wpAnyH_take_dst (i := 12) (v := ?v12b) (d := 70) rfl rfl (by kernel_rfl) (by kernel_rfl) (by kernel_rfl) (fun _ _ _ h => h) (Or.inl ⟨by rfl, ?hy12b⟩) (by assumption) ?r12b
        case hy12b => intro w' hSw; have k0 := hSw.mv.2; have k1 := hSw.box.2; have k2 := hSw.pv; clear hSw; first | (go_simp; done) | (go_simp; with_reducible rfl)
        try simp only [Act.put, List.setIfInBounds_toArray, List.set_cons_zero, List.set_cons_succ]
        refine wpAnyH_take_dst (i := 13) (v := ?v13b) (d := 71) rfl rfl (by kernel_rfl) (by kernel_rfl) (by kernel_rfl) (fun _ _ _ h => h) (Or.inl ⟨by rfl, ?hy13b⟩) (by assumption) ?r13b
        case hy13b => intro w' hSw; have k0 := hSw.mv.2; have k1 := hSw.box.2; have k2 := hSw.pv; clear hSw; first | (go_simp; done) | (go_simp; with_reducible rfl)
        try simp only [Act.put, List.setIfInBounds_toArray, List.set_cons_zero, List.set_cons_succ]
        refine wpAnyH_take_dst (i := 14) (v := ?v14b) (d := 72) rfl rfl (by kernel_rfl) (by kernel_rfl) (by kernel_rfl) (fun _ _ _ h => h) (Or.inl ⟨by rfl, ?hy14b⟩) (by assumption) ?r14b
        case hy14b => intro w' hSw; have k0 := hSw.mv.2; have k1 := hSw.box.2; have k2 := hSw.pv; clear hSw; first | (go_simp; done) | (go_simp; with_reducible rfl)
        try simp only [Act.put, List.setIfInBounds_toArray, List.set_cons_zero, List.set_cons_succ]
        refine wpAnyH_take_dst (i := 15) (v := ?v15b) (d := 73) rfl rfl (by kernel_rfl) (by kernel_rfl) (by kernel_rfl) (fun _ _ _ h => h) (Or.inl ⟨by rfl, ?hy15b⟩) (by assumption) ?r15b
        case hy15b => intro w' hSw; have k0 := hSw.mv.2; have k1 := hSw.box.2; have k2 := hSw.pv; clear hSw; first | (go_simp; done) | (go_simp; with_reducible rfl)
        try simp only [Act.put, List.setIfInBounds_toArray, List.set_cons_zero, List.set_cons_succ]
        refine wpAnyH_take_dst (i := 16) (v := .bool false) (d := 74) rfl rfl (by kernel_rfl) (by kernel_rfl) (by kernel_rfl) (fun _ _ _ h => h) (Or.inl ⟨by rfl, ?hy16b⟩) (by assumption) ?r16b
        case hy16b => intro w' hSw; clear hSw; first | (go_simp; done) | (go_simp; with_reducible rfl) | (go_simp; simp [hpd]; done) | (go_simp; simp; omega)
        try simp only [Act.put, List.setIfInBounds_toArray, List.set_cons_zero, List.set_cons_succ]
        refine wpAnyH_take_dst (i := 17) (v := ?v17b) (d := 75) rfl rfl (by kernel_rfl) (by kernel_rfl) (by kernel_rfl) (fun _ _ _ h => h) (Or.inl ⟨by rfl, ?hy17b⟩) (by assumption) ?r17b
        case hy17b => intro w' hSw; have k0 := hSw.mv.2; have k1 := hSw.box.2; have k2 := hSw.pv; clear hSw; first | (go_simp; done) | (go_simp; with_reducible rfl)
        try simp only [Act.put, List.setIfInBounds_toArray, List.set_cons_zero, List.set_cons_succ]
        refine wpAnyH_take_dst (i := 18) (v := ?v18b) (d := 76) rfl rfl (by kernel_rfl) (by kernel_rfl) (by kernel_rfl) (fun _ _ _ h => h) (Or.inl ⟨by rfl, ?hy18b⟩) (by assumption) ?r18b
        case hy18b => intro w' hSw; have k0 := hSw.mv.2; have k1 := hSw.box.2; have k2 := hSw.pv; clear hSw; first | (go_simp; done) | (go_simp; with_reducible rfl)
        try simp only [Act.put, List.setIfInBounds_toArray, List.set_cons_zero, List.set_cons_succ]
        refine wpAnyH_done (by kernel_rfl) ?_ _
        clear hH0
        go_wp2_with fail
        go_roundw
        case rel => exact ⟨k + 1, by omega, by go_num, ⟨hS5.box, hS5.lo⟩⟩
        case measure => simp [intOf]; omega
    · go_wp2_with fail
      go_ret
      exact ⟨rfl, HSO.out.lo⟩
set_option maxRecDepth 10000 in
set_option maxHeartbeats 2000000 in
theorem seriesValid_yes (s : Ser) (A B : Option Addr) (c e n mn cb cc : Nat) (ns : List NdV) (xs : List CalV) (w : World) (hA : RulesAt w w.heap.size A ns) (hl : ns.length = n) (hok : RuleOK ns) (hB : MovesAt w w.heap.size B s.moves) (hml : s.moves.length = mn) (h : SerGood s) (hc : CalsAt w w.heap.size cb xs) :
    Calls Tryz.prog 42 #[.agg #[.slice A n c, I s.minute, I s.length, .string s.zone, I s.gap, I s.fold, .slice B mn e], .slice (some ⟨cb, 0, none⟩) 3 cc] w (Gives (I 0) w) := by
  have HS0 : Hid (SoS w #[.slice A n c, I s.minute, I s.length, .string s.zone, I s.gap, I s.fold, .slice B mn e] (w.alloc (.cells #[.slice A n c, I s.minute, I s.length, .string s.zone, I s.gap, I s.fold, .slice B mn e] 31))) := Lib.hid ⟨Row.new w _ _, below_var w _⟩
  have HV := Lib.hid (fun w' (hb : Below w.heap.size w w') => ruleValid_yes A n c cb cc ns xs w' ((hA.keep hb).more hb.size) hl hok ((hc.keep hb).more hb.size))
  have HSD := Lib.hid (fun w' (hb : Below w.heap.size w w') => sound_yes s A B c e n mn ns w' ((hA.keep hb).more hb.size) hl hok ((hB.keep hb).more hb.size) hml h)
  have q9 : ¬ (32 : Int) < (s.zone.size : Int) := by have := h.zo; omega
  have q10 : ¬ (64 : Int) < (mn : Int) := by have := h.ml; omega
  obtain ⟨rule, mi, le, zo, ga, fo, ms⟩ := s
  simp only at q9 HS0 HSD ⊢
  clear hA hl hok hB hml h hc
  go_enter Tryz.func42, Tryz.ntmps42
  go_wp2_with fail
  refine (HV.out _ HS0.out.lo).mono ?_
  rintro e1 w1 ⟨rfl, hb1⟩
  have HS1 := Lib.hid (HS0.out.below hb1)
  have g0 := HS1.out.box.2
  clear hb1 HV HS0
  go_wp2_with fail
  refine (HSD.out _ HS1.out.lo).mono ?_
  rintro e1 w2 ⟨rfl, hb2⟩
  have HS2 := Lib.hid (HS1.out.below hb2)
  clear hb2 HSD g0
  go_wp2_with fail
  go_ret
  exact ⟨rfl, HS2.out.lo⟩
end Go.Proofs.YthhbbebabmemfaaGreat

/- kalendsref20.bounds. -/
namespace Go.Proofs.YthhbbebabmemfaaGreat
open Go Go.RowKit

/-- The range of a field that is a number. -/
def bnd (k : Int) (f : Nat) : Int × Int :=
  match f with
  | 0 => (1, 1099511627776)
  | 1 => if (k == 1) = true then (1, 1) else if ((k == 6) || (k == 7)) = true then (2, 1099511627776) else (1, 1099511627776)
  | 2 => (0, 15)
  | 3 => (1, 64)
  | 4 => (0, 511)
  | 5 => if (k == 8) = true then (0, 63) else (0, 511)
  | 6 => (0, 255)
  | 7 => (1, 3)
  | 8 => (0, 1099511627776)
  | 11 => (0, 2251799813685248)
  | 13 => (1, 4)
  | _ => if (k == 8) = true then (1, 512) else if (k == 14) = true then (0, 5) else (0, 18)
theorem bnd_ok (k : Int) (f : Nat) : 0 ≤ (bnd k f).1 ∧ (bnd k f).1 ≤ (bnd k f).2 ∧ (bnd k f).2 ≤ 2251799813685248 := by
  unfold bnd
  split <;> (repeat' split) <;> decide
def BndGot (k : Int) (f : Nat) (w : World) (e : Ending) (w' : World) : Prop := e = .returned (.tuple #[I (bnd k f).1, I (bnd k f).2]) ∧ w' = w
set_option maxRecDepth 10000 in
set_option maxHeartbeats 4000000 in
theorem bounds_any (k : Int) (f : Nat) (hf : f < 17) (w : World) : Calls Tryz.prog 51 #[I k, I f] w (BndGot k f w) := by
  have hf' : f = 0 ∨ f = 1 ∨ f = 2 ∨ f = 3 ∨ f = 4 ∨ f = 5 ∨ f = 6 ∨ f = 7 ∨ f = 8 ∨ f = 9 ∨ f = 10 ∨ f = 11 ∨ f = 12 ∨ f = 13 ∨ f = 14 ∨ f = 15 ∨ f = 16 := by omega
  clear hf
  rcases hf' with rfl | rfl | rfl | rfl | rfl | rfl | rfl | rfl | rfl | rfl | rfl | rfl | rfl | rfl | rfl | rfl | rfl
  · go_enter Tryz.func51, Tryz.ntmps51
    go_wp2
    go_ret2
    exact ⟨rfl, rfl⟩
  · cases h1 : (k == 1)
    · cases h6 : (k == 6)
      · cases h7 : (k == 7)
        · go_enter Tryz.func51, Tryz.ntmps51
          go_wp2
          go_ret2
          exact ⟨by unfold bnd; simp only [h1, h6, h7]; rfl, rfl⟩
        · go_enter Tryz.func51, Tryz.ntmps51
          go_wp2
          go_ret2
          exact ⟨by unfold bnd; simp only [h1, h6, h7]; rfl, rfl⟩
      · go_enter Tryz.func51, Tryz.ntmps51
        go_wp2
        go_ret2
        exact ⟨by unfold bnd; simp only [h1, h6]; rfl, rfl⟩
    · go_enter Tryz.func51, Tryz.ntmps51
      go_wp2
      go_ret2
      exact ⟨by unfold bnd; simp only [h1]; rfl, rfl⟩
  · go_enter Tryz.func51, Tryz.ntmps51
    go_wp2
    go_ret2
    exact ⟨rfl, rfl⟩
  · go_enter Tryz.func51, Tryz.ntmps51
    go_wp2
    go_ret2
    exact ⟨rfl, rfl⟩
  · go_enter Tryz.func51, Tryz.ntmps51
    go_wp2
    go_ret2
    exact ⟨rfl, rfl⟩
  · cases h8 : (k == 8)
    · go_enter Tryz.func51, Tryz.ntmps51
      go_wp2
      go_ret2
      exact ⟨by unfold bnd; simp only [h8]; rfl, rfl⟩
    · go_enter Tryz.func51, Tryz.ntmps51
      go_wp2
      go_ret2
      exact ⟨by unfold bnd; simp only [h8]; rfl, rfl⟩
  · go_enter Tryz.func51, Tryz.ntmps51
    go_wp2
    go_ret2
    exact ⟨rfl, rfl⟩
  · go_enter Tryz.func51, Tryz.ntmps51
    go_wp2
    go_ret2
    exact ⟨rfl, rfl⟩
  · go_enter Tryz.func51, Tryz.ntmps51
    go_wp2
    go_ret2
    exact ⟨rfl, rfl⟩
  · cases h8 : (k == 8)
    · cases h14 : (k == 14)
      · go_enter Tryz.func51, Tryz.ntmps51
        go_wp2
        go_ret2
        exact ⟨by unfold bnd; simp only [h8, h14]; rfl, rfl⟩
      · go_enter Tryz.func51, Tryz.ntmps51
        go_wp2
        go_ret2
        exact ⟨by unfold bnd; simp only [h8, h14]; rfl, rfl⟩
    · go_enter Tryz.func51, Tryz.ntmps51
      go_wp2
      go_ret2
      exact ⟨by unfold bnd; simp only [h8]; rfl, rfl⟩
  · cases h8 : (k == 8)
    · cases h14 : (k == 14)
      · go_enter Tryz.func51, Tryz.ntmps51
        go_wp2
        go_ret2
        exact ⟨by unfold bnd; simp only [h8, h14]; rfl, rfl⟩
      · go_enter Tryz.func51, Tryz.ntmps51
        go_wp2
        go_ret2
        exact ⟨by unfold bnd; simp only [h8, h14]; rfl, rfl⟩
    · go_enter Tryz.func51, Tryz.ntmps51
      go_wp2
      go_ret2
      exact ⟨by unfold bnd; simp only [h8]; rfl, rfl⟩
  · go_enter Tryz.func51, Tryz.ntmps51
    go_wp2
    go_ret2
    exact ⟨rfl, rfl⟩
  · cases h8 : (k == 8)
    · cases h14 : (k == 14)
      · go_enter Tryz.func51, Tryz.ntmps51
        go_wp2
        go_ret2
        exact ⟨by unfold bnd; simp only [h8, h14]; rfl, rfl⟩
      · go_enter Tryz.func51, Tryz.ntmps51
        go_wp2
        go_ret2
        exact ⟨by unfold bnd; simp only [h8, h14]; rfl, rfl⟩
    · go_enter Tryz.func51, Tryz.ntmps51
      go_wp2
      go_ret2
      exact ⟨by unfold bnd; simp only [h8]; rfl, rfl⟩
  · go_enter Tryz.func51, Tryz.ntmps51
    go_wp2
    go_ret2
    exact ⟨rfl, rfl⟩
  · cases h8 : (k == 8)
    · cases h14 : (k == 14)
      · go_enter Tryz.func51, Tryz.ntmps51
        go_wp2
        go_ret2
        exact ⟨by unfold bnd; simp only [h8, h14]; rfl, rfl⟩
      · go_enter Tryz.func51, Tryz.ntmps51
        go_wp2
        go_ret2
        exact ⟨by unfold bnd; simp only [h8, h14]; rfl, rfl⟩
    · go_enter Tryz.func51, Tryz.ntmps51
      go_wp2
      go_ret2
      exact ⟨by unfold bnd; simp only [h8]; rfl, rfl⟩
  · cases h8 : (k == 8)
    · cases h14 : (k == 14)
      · go_enter Tryz.func51, Tryz.ntmps51
        go_wp2
        go_ret2
        exact ⟨by unfold bnd; simp only [h8, h14]; rfl, rfl⟩
      · go_enter Tryz.func51, Tryz.ntmps51
        go_wp2
        go_ret2
        exact ⟨by unfold bnd; simp only [h8, h14]; rfl, rfl⟩
    · go_enter Tryz.func51, Tryz.ntmps51
      go_wp2
      go_ret2
      exact ⟨by unfold bnd; simp only [h8]; rfl, rfl⟩
  · cases h8 : (k == 8)
    · cases h14 : (k == 14)
      · go_enter Tryz.func51, Tryz.ntmps51
        go_wp2
        go_ret2
        exact ⟨by unfold bnd; simp only [h8, h14]; rfl, rfl⟩
      · go_enter Tryz.func51, Tryz.ntmps51
        go_wp2
        go_ret2
        exact ⟨by unfold bnd; simp only [h8, h14]; rfl, rfl⟩
    · go_enter Tryz.func51, Tryz.ntmps51
      go_wp2
      go_ret2
      exact ⟨by unfold bnd; simp only [h8]; rfl, rfl⟩
end Go.Proofs.YthhbbebabmemfaaGreat

/- kalendsref20.fields, Uses, numeric. -/
namespace Go.Proofs.YthhbbebabmemfaaGreat
open Go Go.RowKit

def fieldsT : List (List Int) := [[], [0, 1, 4, 10], [0, 1, 4], [0, 1, 4], [0, 1, 4, 9], [0, 1, 4, 5], [0, 1, 7, 8, 9, 10], [0, 1], [0, 4, 5, 6, 10, 11, 12, 15], [0, 6, 11, 15, 16], [0, 6, 12, 15, 16], [0, 12, 15, 16], [0, 12, 15, 16], [0, 15], [0, 12, 15, 16], [4, 5, 13, 14], [4, 5, 13, 14, 15, 16], [2, 3, 15, 16], [0, 16]]
def fieldsL (k : Nat) : List Int := (fieldsT[k]?).getD []
theorem fields_uses : ∀ k : Nat, k < 19 → ∀ f : Nat, f < 17 → (fieldsL k).contains (f : Int) = usesB (k : Int) (f : Int) := by decide +kernel
theorem fields_len : ∀ k : Nat, k < 19 → (fieldsL k).length ≤ 8 := by decide +kernel
set_option maxRecDepth 10000 in
set_option maxHeartbeats 4000000 in
theorem fields_any (k : Nat) (h1 : 1 ≤ k) (h2 : k ≤ 18) (w : World) : Calls Tryz.prog 49 #[I k] w fun e w' => e = .returned (.slice (some ⟨w.heap.size, 0, none⟩) (fieldsL k).length (fieldsL k).length) ∧ w' = w.alloc (.cells ((fieldsL k).map I).toArray 3) := by
  have hk : k = 1 ∨ k = 2 ∨ k = 3 ∨ k = 4 ∨ k = 5 ∨ k = 6 ∨ k = 7 ∨ k = 8 ∨ k = 9 ∨ k = 10 ∨ k = 11 ∨ k = 12 ∨ k = 13 ∨ k = 14 ∨ k = 15 ∨ k = 16 ∨ k = 17 ∨ k = 18 := by omega
  rcases hk with rfl | rfl | rfl | rfl | rfl | rfl | rfl | rfl | rfl | rfl | rfl | rfl | rfl | rfl | rfl | rfl | rfl | rfl
  all_goals
    go_enter Tryz.func49, Tryz.ntmps49
    go_wp2
    go_ret
    exact ⟨rfl, rfl⟩
set_option maxRecDepth 10000 in
set_option maxHeartbeats 1000000 in
theorem refUses_any (k : Nat) (h1 : 1 ≤ k) (h2 : k ≤ 18) (f : Int) (w : World) : Calls Tryz.prog 31 #[I k, I f] w (Gives (.bool ((fieldsL k).contains f)) w) := by
  have hlen := fields_len k (by omega)
  have HF := Lib.hid (fields_any k h1 h2 w)
  have HC : Hid (∀ j, j < (fieldsL k).length → (w.alloc (.cells ((fieldsL k).map I).toArray 3)).cell? ⟨w.heap.size, j, none⟩ = some (I ((fieldsL k)[j]?.getD 0))) := Lib.hid (fun j hj => by rw [(Row.new w _ _).2 j]; simp [hj])
  obtain ⟨zs, hz⟩ : ∃ zs, fieldsL k = zs := ⟨_, rfl⟩
  rw [hz] at hlen HF HC ⊢
  clear hz
  go_enter Tryz.func31, Tryz.ntmps31
  go_wp2_with fail
  refine HF.out.mono ?_
  rintro e w1 ⟨rfl, rfl⟩
  have HB := Lib.hid (below_var w (.cells (zs.map I).toArray 3))
  obtain ⟨W, hW⟩ : ∃ W, w.alloc (.cells (zs.map I).toArray 3) = W := ⟨_, rfl⟩
  rw [hW] at HB HC ⊢
  clear hW
  go_wp2_with fail
  go_loopw [6] (fun i wr => ∃ j : Nat, j ≤ zs.length ∧ i = I j ∧ wr = W ∧ (zs.take j).contains f = false) (fun i _ => zs.length - (intOf i).toNat)
  case atStart => exact ⟨0, by omega, rfl, rfl, rfl⟩
  case round =>
    obtain ⟨j, hj, rfl, rfl, hno⟩ := hrel
    have HNO := Lib.hid hno
    clear hno
    by_cases hlt : j < zs.length
    · have hltI : (j : Int) < (zs.length : Int) := by omega
      have hc := HC.out j hlt
      obtain ⟨x, hx⟩ : ∃ x, zs[j]?.getD 0 = x := ⟨_, rfl⟩
      rw [hx] at hc
      have hxe : zs[j]? = some x := by rw [List.getElem?_eq_getElem hlt] at hx ⊢; rw [← hx]; rfl
      have HX := Lib.hid hxe
      clear hx hxe
      cases hq : (x == f)
      · have HQ := Lib.hid hq
        go_wp2_with fail
        go_roundw
        case rel => exact ⟨j + 1, by omega, by go_num, by first | rfl | trivial, by rw [List.take_add_one, HX.out, List.contains_eq_any_beq, List.any_append, ← List.contains_eq_any_beq, HNO.out]; simp; have := HQ.out; rw [beq_dec] at this; have := of_decide_eq_false this; omega⟩
        case measure => simp [intOf]; omega
      · have hxf : x = f := by rw [beq_dec] at hq; exact of_decide_eq_true hq
        go_wp2_with fail
        go_ret
        refine ⟨?_, HB.out⟩
        have : zs.contains f = true := by rw [List.contains_iff_mem]; exact List.mem_of_getElem? (by rw [← hxf]; exact HX.out)
        rw [this]; rfl
    · have hje : j = zs.length := by omega
      have HJ := Lib.hid hje
      clear hje
      go_wp2_with fail
      go_ret
      refine ⟨?_, HB.out⟩
      have := HNO.out
      rw [HJ.out, List.take_length] at this
      rw [this]; rfl
def numB (f : Int) : Bool := decide (f ≤ 8) || (f == 11) || (f == 12) || (f == 13)
set_option maxRecDepth 10000 in
set_option maxHeartbeats 400000 in
theorem numeric_any (f : Int) (w : World) : Calls Tryz.prog 50 #[I f] w fun e w' => e = .returned (.bool (numB f)) ∧ w' = w := by
  unfold numB
  cases h0 : decide (f ≤ 8)
  · have h0' : ¬ f ≤ 8 := of_decide_eq_false h0
    cases h1 : (f == 11)
    · cases h2 : (f == 12)
      · cases h3 : (f == 13)
        all_goals
          go_enter Tryz.func50, Tryz.ntmps50
          go_wp2
          go_ret
          exact ⟨rfl, rfl⟩
      · go_enter Tryz.func50, Tryz.ntmps50
        go_wp2
        go_ret
        exact ⟨rfl, rfl⟩
    · go_enter Tryz.func50, Tryz.ntmps50
      go_wp2
      go_ret
      exact ⟨rfl, rfl⟩
  · have h0' : f ≤ 8 := of_decide_eq_true h0
    go_enter Tryz.func50, Tryz.ntmps50
    go_wp2
    go_ret
    exact ⟨rfl, rfl⟩
end Go.Proofs.YthhbbebabmemfaaGreat

/- kalendsref20.made: what it makes of a letter, and the letter under way. -/
namespace Go.Proofs.YthhbbebabmemfaaGreat
open Go Go.RowKit

/-- The letter's lists, in memory that is not older than block lo. -/
structure LtMem (lo : Nat) (w : World) (l : Lt) (s : Sl) (ns : List NdV) : Prop where
  rule : RuleIs lo w (.slice s.A l.series.rule.length s.c) ns
  names : l.series.rule = ns.map (·.d)
  moves : w.ownsRow lo 26 5 (.slice s.B l.series.moves.length s.d) l.series.moves.length (mvsCells l.series.moves)
  cells : w.ownsRow lo 3 1 (.slice s.C l.cells.length s.e) l.cells.length (l.cells.map I)
theorem LtMem.mkeep {lo mb : Nat} {w w' : World} {l : Lt} {s : Sl} {ns : List NdV} (h : LtMem lo w l s ns) (hk : MKeep mb w w') (hm : mb < lo) : LtMem lo w' l s ns :=
  ⟨h.rule.mkeep hk hm, h.names, ownsRow_mkeep h.moves hk hm, ownsRow_mkeep h.cells hk hm⟩
/-- A series that was made. -/
structure SerOK (ns : List NdV) (s : Ser) : Prop where
  names : s.rule = ns.map (·.d)
  made : MRule 3 ns
  len : ns.length ≤ 16
  within : Within 2002 ns
  mok : ∃ dd, dd ≤ 100 ∧ MvsOK s.moves dd
  mlen : s.moves.length ≤ 2
  min : 0 ≤ s.minute ∧ s.minute < 1440
  lng : 1 ≤ s.length ∧ s.length ≤ 200
  zone : ZoneOK s.zone
  gap : 0 ≤ s.gap ∧ s.gap < 3
  fold : 0 ≤ s.fold ∧ s.fold < 3
structure CellsOK (zs : List Int) : Prop where
  ne : 1 ≤ zs.length
  len : zs.length ≤ 5
  rng : ∀ z ∈ zs, 0 ≤ z ∧ z ≤ 15
  up : zs.Pairwise (· < ·)
/-- What one field becomes. -/
def MadeF (l : Lt) (ns : List NdV) (f : Nat) (l' : Lt) (ns' : List NdV) : Prop :=
  (numB f = true ∧ ∃ x, (bnd l.kind f).1 ≤ x ∧ x ≤ (bnd l.kind f).2 ∧ x < (bnd l.kind f).1 + 40 ∧ l' = setNum l f x ∧ ns' = ns) ∨
  (f = 9 ∧ ns' = ns ∧ (((l.kind = 4 ∨ l.scope = 1) ∧ ∃ m, l' = { l with move := m } ∧ MoveOK m.day m ∧ ((l.kind = 4 ∧ 0 ≤ m.day ∧ m.day < 40) ∨ (l.kind ≠ 4 ∧ m.day = l.day))) ∨ (l.kind ≠ 4 ∧ l.scope ≠ 1 ∧ l' = l))) ∨
  (f = 10 ∧ (((l.kind ≠ 6 ∨ l.scope ≠ 1) ∧ ∃ se, l' = { l with series := se } ∧ SerOK ns' se) ∨ (l.kind = 6 ∧ l.scope = 1 ∧ l' = l ∧ ns' = ns))) ∨
  (f = 14 ∧ ns' = ns ∧ ∃ a b, -1000 ≤ a ∧ a ≤ b ∧ b ≤ 9000 ∧ l' = { l with wfrom := a, wto := b }) ∨
  (f = 15 ∧ ns' = ns ∧ ∃ zs, l' = { l with cells := zs } ∧ CellsOK zs) ∨
  (f = 16 ∧ ns' = ns ∧ ∃ r, r.length = 32 ∧ l' = { l with ref := r })
def MadeP (w : World) (lo mb : Nat) (xs : List Int) (at_ nodes : Nat) (l : Lt) (s : Sl) (ns : List NdV) (f : Nat) (e : Ending) (w' : World) : Prop :=
  ∃ l' s' ns' a' n', e = .returned (.agg (ltVal l' s')) ∧ MadeF l ns f l' ns' ∧ LtMem lo w' l' s' ns' ∧ (f ≠ 15 → s'.C = s.C ∧ s'.e = s.e) ∧ MkSt w' mb xs a' n' ∧ a' ≤ at_ + 400 ∧ n' ≤ nodes + 16 ∧ MKeep mb w w'
/-- The letter's variable and the result's, beside the maker. -/
structure TS (w0 : World) (mb : Nat) (xs : List Int) (a nd : Nat) (cs : Array Value) (W : World) : Prop where
  hm : mb < w0.heap.size
  mkr : MkSt W mb xs a nd
  keep : MKeep mb w0 W
  var : W.heap[w0.heap.size]? = some (.cells cs 37 (0, 0))
  res : W.heap[w0.heap.size + 1]? = some (.cells (ltVal zLt zSl) 37 (0, 0))
section
variable {w0 W W' : World} {mb a a' nd nd' : Nat} {xs : List Int} {cs : Array Value}
theorem TS.lt (h : TS w0 mb xs a nd cs W) : w0.heap.size + 1 < W.heap.size := (Array.getElem?_eq_some_iff.1 h.res).1
theorem TS.cell (h : TS w0 mb xs a nd cs W) : ∀ i, W.cell? ⟨w0.heap.size, i, none⟩ = cs[i]? := fun i => cell_of_row W _ i _ _ _ h.var
theorem TS.froz (h : TS w0 mb xs a nd cs W) : ∀ i, W.frozen? ⟨w0.heap.size, i, none⟩ = false := fun i => frozen_of_row W _ i _ _ h.var
theorem TS.row (h : TS w0 mb xs a nd cs W) : Row W w0.heap.size cs := ⟨by have := h.lt; omega, h.cell⟩
theorem TS.step (h : TS w0 mb xs a nd cs W) (hm : MkSt W' mb xs a' nd') (hk : MKeep mb W W') : TS w0 mb xs a' nd' cs W' :=
  have h1 := h.hm
  have h4 := h.lt
  ⟨h.hm, hm, h.keep.trans hk, (hk.block _ (by omega) (by omega)).trans h.var, (hk.block _ (by omega) (by omega)).trans h.res⟩
theorem TS.below (h : TS w0 mb xs a nd cs W) (hb : Below W.heap.size W W') : TS w0 mb xs a nd cs W' := h.step (h.mkr.grow hb) (MKeep.of_below hb)
theorem TS.drew (h : TS w0 mb xs a nd cs W) : TS w0 mb xs a nd cs W.drew := ⟨h.hm, h.mkr, h.keep.draw, h.var, h.res⟩
theorem TS.pick (h : TS w0 mb xs a nd cs W) (hx : XsOK xs) (n : Int) (ha : a ≤ 1000000000) (hn : 0 < n) (hn2 : n ≤ 1000000000000000000) :
    Calls Tryz.prog 30 #[pt mb, I n] W fun e W' => ∃ r, e = .returned (I r) ∧ 0 ≤ r ∧ r < n ∧ MKeep mb W W' ∧ TS w0 mb xs (a + 1) nd cs W' :=
  (pick_any W mb xs a nd n h.mkr hx ha hn hn2).mono fun _ _ ⟨r, h1, h2, h3, h4, h5⟩ => ⟨r, h1, h2, h3, h5, h.step h4 h5⟩
theorem TS.store (h : TS w0 mb xs a nd cs W) (o : Nat) (v : Value) : TS w0 mb xs a nd (cs.setIfInBounds o v) (W.setCell ⟨w0.heap.size, o, none⟩ v) := by
  have h1 := h.hm
  have hb : Below w0.heap.size W (W.setCell ⟨w0.heap.size, o, none⟩ v) := (Below.refl _ W).setCell (p := ⟨w0.heap.size, o, none⟩) (Nat.le_refl _) _
  refine ⟨h.hm, h.mkr.far _ _ h1, ?_, heap_setCell_same W _ o _ _ _ h.var, (heap_setCell_other W _ _ v (by show w0.heap.size + 1 ≠ w0.heap.size; omega)).trans h.res⟩
  exact ⟨hb.os.trans h.keep.os, hb.tape.trans h.keep.tape, hb.output.trans h.keep.output, Nat.le_trans h.keep.size hb.size, fun k hk hn => (hb.block k (by omega)).trans (h.keep.block k hk hn)⟩
theorem TS.start {w : World} (hm : MkSt w mb xs a nd) : TS w mb xs a nd cs ((w.alloc (.cells cs 37)).alloc (.cells (ltVal zLt zSl) 37)) := by
  have hl := hm.lt
  have hb := below_trans (below_var w (.cells cs 37)) (below_var _ (.cells (ltVal zLt zSl) 37))
  exact ⟨hl, hm.grow hb, MKeep.of_below hb, heap_alloc2_old w _ _, heap_alloc2_new w _ _⟩
/-- Behind the store of the result. -/
theorem TS.fin (h : TS w0 mb xs a nd cs W) (ds : Array Value) : MkSt (W.setRow (w0.heap.size + 1) ds) mb xs a nd ∧ MKeep mb w0 (W.setRow (w0.heap.size + 1) ds) := by
  have h1 := h.hm
  have hb : Below w0.heap.size W (W.setRow (w0.heap.size + 1) ds) := below_setRow (Below.refl _ W) (Nat.le_succ _) _
  refine ⟨?_, ?_⟩
  · obtain ⟨A', c', g1, g2⟩ := h.mkr
    exact ⟨A', c', (setRow_other W _ mb _ (by omega)).trans g1, g2.keep (hb.mono (by omega))⟩
  · exact ⟨hb.os.trans h.keep.os, hb.tape.trans h.keep.tape, hb.output.trans h.keep.output, Nat.le_trans h.keep.size hb.size, fun k hk hn => (hb.block k (by omega)).trans (h.keep.block k hk hn)⟩
end
/-- A letter whose lists are those that came in. -/
theorem TS.done {w0 W : World} {lo mb a nd at_ nodes : Nat} {xs : List Int} {cs : Array Value} {l l' : Lt} {s s' : Sl} {ns ns' : List NdV} {f : Nat} (h : TS w0 mb xs a nd cs W) (hf : MadeF l ns f l' ns') (hmem : LtMem lo (W.setRow (w0.heap.size + 1) (ltVal l' s')) l' s' ns') (hC : f ≠ 15 → s'.C = s.C ∧ s'.e = s.e) (ha : a ≤ at_ + 400) (hn : nd ≤ nodes + 16) :
    MadeP w0 lo mb xs at_ nodes l s ns f (.returned (.agg (ltVal l' s'))) (W.setRow (w0.heap.size + 1) (ltVal l' s')) :=
  ⟨l', s', ns', a, nd, rfl, hf, hmem, hC, (h.fin _).1, ha, hn, (h.fin _).2⟩
theorem TS.done_same {w0 W : World} {lo mb a nd at_ nodes : Nat} {xs : List Int} {cs : Array Value} {l l' : Lt} {s : Sl} {ns : List NdV} {f : Nat} (h : TS w0 mb xs a nd cs W) (hf : MadeF l ns f l' ns) (hmem : LtMem lo w0 l s ns) (hlo : mb < lo) (hs : l'.series = l.series) (hc : l'.cells = l.cells) (ha : a ≤ at_ + 400) (hn : nd ≤ nodes + 16) :
    MadeP w0 lo mb xs at_ nodes l s ns f (.returned (.agg (ltVal l' s))) (W.setRow (w0.heap.size + 1) (ltVal l' s)) :=
  h.done hf (by
    have := hmem.mkeep (h.fin (ltVal l' s)).2 hlo
    exact ⟨by rw [hs]; exact this.rule, by rw [hs]; exact this.names, by rw [hs]; exact this.moves, by rw [hc]; exact this.cells⟩) (fun _ => ⟨rfl, rfl⟩) ha hn
end Go.Proofs.YthhbbebabmemfaaGreat

/- kalendsref20.made for the fields move, series and window. -/
namespace Go.Proofs.YthhbbebabmemfaaGreat
open Go Go.RowKit

def putAll (cs : Array Value) (o : Nat) : List Value → Array Value
  | [] => cs
  | v :: r => putAll (cs.setIfInBounds o v) (o + 1) r
theorem TS.storeAll {w0 : World} {mb a nd : Nat} {xs : List Int} : ∀ (vs : List Value) (o : Nat) (cs : Array Value) (W : World), TS w0 mb xs a nd cs W → TS w0 mb xs a nd (putAll cs o vs) (W.setCells w0.heap.size o vs)
  | [], _, _, _, h => h
  | v :: r, o, _, _, h => TS.storeAll r (o + 1) _ _ (h.store o v)
theorem TS.there {w0 W : World} {mb a nd : Nat} {xs : List Int} {cs : Array Value} (h : TS w0 mb xs a nd cs W) (o n : Nat) (hn : o + n ≤ cs.size) : W.there w0.heap.size o n := by
  intro j hj
  refine ⟨?_, h.froz _⟩
  rw [h.cell, Array.getElem?_eq_getElem (by omega)]; rfl
theorem put_move (l : Lt) (s : Sl) (m : Mv) : putAll (ltVal l s) 12 (mvCells m).toList = ltVal { l with move := m } s := by
  simp [putAll, ltVal, ltCells, mvCells]
def seC (se : Ser) (A B : Option Addr) (c d : Nat) : Array Value := #[.slice A se.rule.length c, I se.minute, I se.length, .string se.zone, I se.gap, I se.fold, .slice B se.moves.length d]
theorem put_series (l : Lt) (s : Sl) (A B : Option Addr) (c d : Nat) (se : Ser) : putAll (ltVal l s) 17 (seC se A B c d).toList = ltVal { l with series := se } { s with A := A, c := c, B := B, d := d } := by
  simp [putAll, ltVal, ltCells, seC]
theorem put_wfrom (l : Lt) (s : Sl) (x : Int) : (ltVal l s).setIfInBounds 27 (I x) = ltVal { l with wfrom := x } s := by
  simp [ltVal, ltCells]
theorem put_wto (l : Lt) (s : Sl) (x : Int) : (ltVal l s).setIfInBounds 28 (I x) = ltVal { l with wto := x } s := by
  simp [ltVal, ltCells]
theorem se_size (se : Ser) (A B : Option Addr) (c d : Nat) : (Tryz.prog.info? 31).map (·.size) = some (seC se A B c d).size := by kernel_rfl
theorem se_one (se : Ser) (A B : Option Addr) (c d : Nat) : (seC se A B c d).all (·.oneCell') = true := by kernel_rfl
theorem ltVal_size (l : Lt) (s : Sl) (h : l.ref.length = 32) : (ltVal l s).size = 62 := lt_size _ _ _ _ h
theorem own_formA {w : World} {base e size n : Nat} {v : Value} {xs : List Value} (h : w.ownsRow base e size v n xs) : ∃ A c, v = .slice A n c := by
  rcases h.2 with ⟨rfl, rfl⟩ | ⟨g, cap, cur, rfl, _⟩
  · exact ⟨_, _, rfl⟩
  · exact ⟨_, _, rfl⟩
theorem LtMem.step {lo mb : Nat} {w w' : World} {l l' : Lt} {s s' : Sl} {ns ns' : List NdV} (hr : RuleIs lo w' (.slice s'.A l'.series.rule.length s'.c) ns') (hn : l'.series.rule = ns'.map (·.d)) (hm : w'.ownsRow lo 26 5 (.slice s'.B l'.series.moves.length s'.d) l'.series.moves.length (mvsCells l'.series.moves))
    (h : LtMem lo w l s ns) (hk : MKeep mb w w') (hb : mb < lo) (hc : l'.cells = l.cells) (hC : s'.C = s.C) (he : s'.e = s.e) : LtMem lo w' l' s' ns' :=
  ⟨hr, hn, hm, by rw [hc, hC, he]; exact (h.mkeep hk hb).cells⟩
theorem setCells_other : ∀ (vs : List Value) (w : World) (b o k : Nat), k ≠ b → (w.setCells b o vs).heap[k]? = w.heap[k]?
  | [], _, _, _, _, _ => rfl
  | v :: r, w, b, o, k, h => (setCells_other r _ b (o + 1) k h).trans (heap_setCell_other w _ k v h)
theorem setCells_size : ∀ (vs : List Value) (w : World) (b o : Nat), (w.setCells b o vs).heap.size = w.heap.size
  | [], _, _, _ => rfl
  | v :: r, w, b, o => (setCells_size r _ b (o + 1)).trans (by simp [World.setCell])
theorem made_ser_done {w w3 : World} {lo mb a3 n3 at_ nodes : Nat} {xs : List Int} {l : Lt} {s : Sl} {ns ns' : List NdV} {ms : List Mv} {mi ln : Int} {zv : ByteArray} {gp fo : Int} {A B : Option Addr} {cr cm : Nat} {se : Ser}
    (hmem : LtMem lo w l s ns) (hlo : mb < lo) (hlw : lo ≤ w.heap.size) (hse : se = ⟨ns'.map (·.d), mi, ln, zv, gp, fo, ms⟩)
    (g : TS w mb xs a3 n3 (ltVal { l with series := se } { s with A := A, c := cr, B := B, d := cm }) (w3.setCells w.heap.size 17 (seC se A B cr cm).toList))
    (hsm : SerMade ((w.alloc (.cells (ltVal l s) 37)).alloc (.cells (ltVal zLt zSl) 37)) ns' ms mi ln zv gp fo (.slice A ns'.length cr) (.slice B ms.length cm) w3)
    (_hk3 : MKeep mb ((w.alloc (.cells (ltVal l s) 37)).alloc (.cells (ltVal zLt zSl) 37)) w3) (hks : l.kind ≠ 6 ∨ l.scope ≠ 1) (ha : a3 ≤ at_ + 400) (hn : n3 ≤ nodes + 16) :
    MadeP w lo mb xs at_ nodes l s ns 10 (.returned (.agg (ltVal { l with series := se } { s with A := A, c := cr, B := B, d := cm }))) ((w3.setCells w.heap.size 17 (seC se A B cr cm).toList).setRow (w.heap.size + 1) (ltVal { l with series := se } { s with A := A, c := cr, B := B, d := cm })) := by
  have hB : ∀ k, w.heap.size + 2 ≤ k → ((w3.setCells w.heap.size 17 (seC se A B cr cm).toList).setRow (w.heap.size + 1) (ltVal { l with series := se } { s with A := A, c := cr, B := B, d := cm })).heap[k]? = w3.heap[k]? := fun k hk => by
    rw [setRow_other _ _ k _ (by omega)]
    exact setCells_other _ _ _ _ k (by omega)
  have hsz : w3.heap.size ≤ ((w3.setCells w.heap.size 17 (seC se A B cr cm).toList).setRow (w.heap.size + 1) (ltVal { l with series := se } { s with A := A, c := cr, B := B, d := cm })).heap.size := by
    rw [show ∀ (W : World) b ds, (W.setRow b ds).heap.size = W.heap.size from fun W b ds => by simp]
    rw [setCells_size]; exact Nat.le_refl _
  subst hse
  have h2 : ((w.alloc (.cells (ltVal l s) 37)).alloc (.cells (ltVal zLt zSl) 37)).heap.size = w.heap.size + 2 := by simp
  have hr := hsm.rule
  have hmv := hsm.moves
  rw [h2] at hr hmv
  refine g.done (.inr (.inr (.inl ⟨rfl, .inl ⟨hks, _, rfl, ⟨rfl, hsm.made, hsm.len, hsm.within, hsm.mok, hsm.mlen, hsm.min, hsm.lng, hsm.zone, hsm.gap, hsm.fold⟩⟩⟩))) ?_ (fun _ => ⟨rfl, rfl⟩) ha hn
  refine LtMem.step ?_ rfl ?_ hmem (g.fin _).2 hlo rfl rfl rfl
  · show RuleIs _ _ (.slice A (ns'.map (·.d)).length cr) _
    rw [List.length_map]
    exact (hr.of_blocks hsz fun k hk _ => hB k (by omega)).lower (by omega)
  · exact ownsRow_base' (ownsRow_blocks hmv fun k hk _ => hB k (by omega)) (by omega)
attribute [local go_sem] ltVal_get lt_get0 lt_get10 lt_get11 lt_get27
set_option maxRecDepth 10000 in
set_option maxHeartbeats 4000000 in
theorem made_move (w : World) (lo mb : Nat) (xs : List Int) (at_ nodes : Nat) (l : Lt) (s : Sl) (ns : List NdV) (h : MkSt w mb xs at_ nodes) (hx : XsOK xs) (hat : at_ ≤ 100000) (hmem : LtMem lo w l s ns) (hlo : mb < lo) (_hlw : lo ≤ w.heap.size) (hr : l.ref.length = 32) :
    Calls Tryz.prog 32 #[pt mb, .agg (ltVal l s), I 9] w (MadeP w lo mb xs at_ nodes l s ns 9) := by
  have G0 : Hid (TS w mb xs at_ nodes (ltVal l s) ((w.alloc (.cells (ltVal l s) 37)).alloc (.cells (ltVal zLt zSl) 37))) := Lib.hid (TS.start h)
  have hml := h.lt
  have HM := Lib.hid hmem
  have HR := Lib.hid hr
  have HZ := Lib.hid (ltVal_size l s hr)
  clear h hmem hr
  by_cases hk4 : l.kind = 4
  · go_enter Tryz.func32, Tryz.ntmps32
    go_wp2_with (with_reducible refine g_alloc 37 ?_; refine wpList_alloc_as rfl _ rfl (ltVal zLt zSl) lt_zero ?_)
    refine (numeric_any 9 _).mono ?_
    rintro e w1 ⟨rfl, rfl⟩
    rw [show numB 9 = false from rfl]
    go_wp2_with fail
    refine (G0.out.pick hx 40 (by omega) (by omega) (by omega)).mono ?_
    rintro e w2 ⟨dy, rfl, d1, d2, -, g2⟩
    have g2c := g2.cell
    have G2 := Lib.hid g2
    clear g2
    go_wp2_with fail
    refine (madeMove_any _ mb xs _ nodes dy G2.out.mkr hx (by omega)).mono ?_
    rintro e w3 ⟨m, a3, rfl, hmv, hm3, ha3, hk3⟩
    have G3 := Lib.hid (G2.out.step hm3 hk3)
    have HT : Hid (w3.there w.heap.size 12 (mvCells m).size) := Lib.hid (G3.out.there 12 5 (by rw [HZ.out]; omega))
    have G4 : Hid (TS w mb xs a3 nodes (ltVal { l with move := m } s) (w3.setCells w.heap.size 12 (mvCells m).toList)) := Lib.hid (by have := G3.out.storeAll (mvCells m).toList 12; rw [put_move] at this; exact this)
    have HMV := Lib.hid hmv
    clear hm3 hk3 hmv
    clear g2c
    go_wp2_with (first
      | (with_reducible refine g_store 26 ?_; refine wpList_store_mid rfl _ _ _ rfl w.heap.size 12 (mvCells m) rfl rfl HT.out (mv_size _) (mv_one _) ?_)
      | (with_reducible refine g_load 37 ?_; refine wpList_load_Row rfl _ _ rfl w.heap.size rfl (ltVal { l with move := m } s) G4.out.row _ Tryz.underlying37 rfl (size62 _ _ HR.out) ?_)
      | (with_reducible refine g_store 37 ?_; refine wpList_store_row rfl _ _ _ rfl (w.heap.size + 1) (ltVal { l with move := m } s) rfl rfl 37 (ltVal zLt zSl) G4.out.res (size62 _ _ HR.out) (sz_eq _ _ HR.out) (ltVal_one _ _) ?_))
    exact bodyPost_ret (v := .agg (ltVal { l with move := m } s)) (results_cell_row rfl _ _ (w.heap.size + 1) _ (ltVal { l with move := m } s) (0, 0) _ rfl (setRow_heap _ _ _ _ _ _ G4.out.res) Tryz.underlying37 rfl (size62 _ _ HR.out)) rfl (G4.out.done_same (at_ := at_) (nodes := nodes) (.inr (.inl ⟨rfl, rfl, .inl ⟨.inl hk4, m, rfl, by rw [HMV.out.1]; exact HMV.out, .inl ⟨hk4, by rw [HMV.out.1]; exact d1, by rw [HMV.out.1]; exact d2⟩⟩⟩)) HM.out hlo rfl rfl (by omega) (by omega))
  by_cases hs1 : l.scope = 1
  · go_enter Tryz.func32, Tryz.ntmps32
    go_wp2_with (with_reducible refine g_alloc 37 ?_; refine wpList_alloc_as rfl _ rfl (ltVal zLt zSl) lt_zero ?_)
    refine (numeric_any 9 _).mono ?_
    rintro e w1 ⟨rfl, rfl⟩
    rw [show numB 9 = false from rfl]
    go_wp2_with fail
    refine (madeMove_any _ mb xs _ nodes l.day G0.out.mkr hx (by omega)).mono ?_
    rintro e w3 ⟨m, a3, rfl, hmv, hm3, ha3, hk3⟩
    have G3 := Lib.hid (G0.out.step hm3 hk3)
    have HT : Hid (w3.there w.heap.size 12 (mvCells m).size) := Lib.hid (G3.out.there 12 5 (by rw [HZ.out]; omega))
    have G4 : Hid (TS w mb xs a3 nodes (ltVal { l with move := m } s) (w3.setCells w.heap.size 12 (mvCells m).toList)) := Lib.hid (by have := G3.out.storeAll (mvCells m).toList 12; rw [put_move] at this; exact this)
    have HMV := Lib.hid hmv
    clear hm3 hk3 hmv
    go_wp2_with (first
      | (with_reducible refine g_store 26 ?_; refine wpList_store_mid rfl _ _ _ rfl w.heap.size 12 (mvCells m) rfl rfl HT.out (mv_size _) (mv_one _) ?_)
      | (with_reducible refine g_load 37 ?_; refine wpList_load_Row rfl _ _ rfl w.heap.size rfl (ltVal { l with move := m } s) G4.out.row _ Tryz.underlying37 rfl (size62 _ _ HR.out) ?_)
      | (with_reducible refine g_store 37 ?_; refine wpList_store_row rfl _ _ _ rfl (w.heap.size + 1) (ltVal { l with move := m } s) rfl rfl 37 (ltVal zLt zSl) G4.out.res (size62 _ _ HR.out) (sz_eq _ _ HR.out) (ltVal_one _ _) ?_))
    exact bodyPost_ret (v := .agg (ltVal { l with move := m } s)) (results_cell_row rfl _ _ (w.heap.size + 1) _ (ltVal { l with move := m } s) (0, 0) _ rfl (setRow_heap _ _ _ _ _ _ G4.out.res) Tryz.underlying37 rfl (size62 _ _ HR.out)) rfl (G4.out.done_same (at_ := at_) (nodes := nodes) (.inr (.inl ⟨rfl, rfl, .inl ⟨.inr hs1, m, rfl, by rw [HMV.out.1]; exact HMV.out, .inr ⟨hk4, HMV.out.1⟩⟩⟩)) HM.out hlo rfl rfl (by omega) (by omega))
  · go_enter Tryz.func32, Tryz.ntmps32
    go_wp2_with (with_reducible refine g_alloc 37 ?_; refine wpList_alloc_as rfl _ rfl (ltVal zLt zSl) lt_zero ?_)
    refine (numeric_any 9 _).mono ?_
    rintro e w1 ⟨rfl, rfl⟩
    rw [show numB 9 = false from rfl]
    go_wp2_with (first
      | (with_reducible refine g_load 37 ?_; refine wpList_load_Row rfl _ _ rfl w.heap.size rfl (ltVal l s) G0.out.row _ Tryz.underlying37 rfl (size62 _ _ HR.out) ?_)
      | (with_reducible refine g_store 37 ?_; refine wpList_store_row rfl _ _ _ rfl (w.heap.size + 1) (ltVal l s) rfl rfl 37 (ltVal zLt zSl) G0.out.res (size62 _ _ HR.out) (sz_eq _ _ HR.out) (ltVal_one _ _) ?_))
    exact bodyPost_ret (v := .agg (ltVal l s)) (results_cell_row rfl _ _ (w.heap.size + 1) _ (ltVal l s) (0, 0) _ rfl (setRow_heap _ _ _ _ _ _ G0.out.res) Tryz.underlying37 rfl (size62 _ _ HR.out)) rfl (G0.out.done_same (at_ := at_) (nodes := nodes) (.inr (.inl ⟨rfl, rfl, .inr ⟨hk4, hs1, rfl⟩⟩)) HM.out hlo rfl rfl (by omega) (by omega))
set_option maxRecDepth 10000 in
set_option maxHeartbeats 4000000 in
theorem made_series (w : World) (lo mb : Nat) (xs : List Int) (at_ nodes : Nat) (l : Lt) (s : Sl) (ns : List NdV) (h : MkSt w mb xs at_ nodes) (hx : XsOK xs) (hat : at_ ≤ 100000) (hnd : nodes ≤ 100000) (hmem : LtMem lo w l s ns) (hlo : mb < lo) (hlw : lo ≤ w.heap.size) (hr : l.ref.length = 32) :
    Calls Tryz.prog 32 #[pt mb, .agg (ltVal l s), I 10] w (MadeP w lo mb xs at_ nodes l s ns 10) := by
  have G0 : Hid (TS w mb xs at_ nodes (ltVal l s) ((w.alloc (.cells (ltVal l s) 37)).alloc (.cells (ltVal zLt zSl) 37))) := Lib.hid (TS.start h)
  have hml := h.lt
  have HM := Lib.hid hmem
  have HR := Lib.hid hr
  have HZ := Lib.hid (ltVal_size l s hr)
  clear h hmem hr
  by_cases hks : l.kind = 6 ∧ l.scope = 1
  · obtain ⟨hk6, hs1⟩ := hks
    go_enter Tryz.func32, Tryz.ntmps32
    go_wp2_with (with_reducible refine g_alloc 37 ?_; refine wpList_alloc_as rfl _ rfl (ltVal zLt zSl) lt_zero ?_)
    refine (numeric_any 10 _).mono ?_
    rintro e w1 ⟨rfl, rfl⟩
    rw [show numB 10 = false from rfl]
    go_wp2_with (first
      | (with_reducible refine g_load 37 ?_; refine wpList_load_Row rfl _ _ rfl w.heap.size rfl (ltVal l s) G0.out.row _ Tryz.underlying37 rfl (size62 _ _ HR.out) ?_)
      | (with_reducible refine g_store 37 ?_; refine wpList_store_row rfl _ _ _ rfl (w.heap.size + 1) (ltVal l s) rfl rfl 37 (ltVal zLt zSl) G0.out.res (size62 _ _ HR.out) (sz_eq _ _ HR.out) (ltVal_one _ _) ?_))
    exact bodyPost_ret (v := .agg (ltVal l s)) (results_cell_row rfl _ _ (w.heap.size + 1) _ (ltVal l s) (0, 0) _ rfl (setRow_heap _ _ _ _ _ _ G0.out.res) Tryz.underlying37 rfl (size62 _ _ HR.out)) rfl (G0.out.done_same (at_ := at_) (nodes := nodes) (.inr (.inr (.inl ⟨rfl, .inr ⟨hk6, hs1, rfl, rfl⟩⟩))) HM.out hlo rfl rfl (by omega) (by omega))
  have HKS : Hid (l.kind ≠ 6 ∨ l.scope ≠ 1) := Lib.hid (by omega)
  by_cases hk : l.kind = 6
  · have hs1 : l.scope ≠ 1 := fun e => hks ⟨hk, e⟩
    clear hks
    go_enter Tryz.func32, Tryz.ntmps32
    go_wp2_with (with_reducible refine g_alloc 37 ?_; refine wpList_alloc_as rfl _ rfl (ltVal zLt zSl) lt_zero ?_)
    refine (numeric_any 10 _).mono ?_
    rintro e w1 ⟨rfl, rfl⟩
    rw [show numB 10 = false from rfl]
    go_wp2_with fail
    refine (madeSeries_any _ mb xs at_ nodes G0.out.mkr hx hat hnd).mono ?_
    rintro e w3 ⟨ns', ms, mi, ln, zv, gp, fo, vr, vm, a3, n3, rfl, hsm, hm3, ha3, hn3, hk3⟩
    obtain ⟨B, cm, rfl⟩ := own_formA hsm.moves
    obtain ⟨A, cr, rfl⟩ := own_formA hsm.rule.row
    obtain ⟨se, hse⟩ : ∃ se : Ser, se = ⟨ns'.map (·.d), mi, ln, zv, gp, fo, ms⟩ := ⟨_, rfl⟩
    have hv : #[.slice A ns'.length cr, I mi, I ln, .string zv, I gp, I fo, .slice B ms.length cm] = seC se A B cr cm := by subst hse; simp [seC]
    rw [hv]
    have G3 := Lib.hid (G0.out.step hm3 hk3)
    have HT : Hid (w3.there w.heap.size 17 (seC se A B cr cm).size) := Lib.hid (G3.out.there 17 7 (by rw [HZ.out]; omega))
    have HSM := Lib.hid hsm
    have HSE := Lib.hid hse
    have G4 : Hid (TS w mb xs a3 n3 (ltVal { l with series := se } { s with A := A, c := cr, B := B, d := cm }) (w3.setCells w.heap.size 17 (seC se A B cr cm).toList)) := Lib.hid (by have := G3.out.storeAll (seC se A B cr cm).toList 17; rw [put_series] at this; exact this)
    have HK3 := Lib.hid hk3
    clear hm3 hk3 hsm hse hv
    go_wp2_with (first
      | (with_reducible refine g_store 31 ?_; refine wpList_store_mid rfl _ _ _ rfl w.heap.size 17 (seC se A B cr cm) rfl rfl HT.out (se_size _ _ _ _ _) (se_one _ _ _ _ _) ?_)
      | (with_reducible refine g_load 37 ?_; refine wpList_load_Row rfl _ _ rfl w.heap.size rfl (ltVal { l with series := se } { s with A := A, c := cr, B := B, d := cm }) G4.out.row _ Tryz.underlying37 rfl (size62 _ _ HR.out) ?_)
      | (with_reducible refine g_store 37 ?_; refine wpList_store_row rfl _ _ _ rfl (w.heap.size + 1) (ltVal { l with series := se } { s with A := A, c := cr, B := B, d := cm }) rfl rfl 37 (ltVal zLt zSl) G4.out.res (size62 _ _ HR.out) (sz_eq _ _ HR.out) (ltVal_one _ _) ?_))
    exact bodyPost_ret (v := .agg (ltVal { l with series := se } { s with A := A, c := cr, B := B, d := cm })) (results_cell_row rfl _ _ (w.heap.size + 1) _ (ltVal { l with series := se } { s with A := A, c := cr, B := B, d := cm }) (0, 0) _ rfl (setRow_heap _ _ _ _ _ _ G4.out.res) Tryz.underlying37 rfl (size62 _ _ HR.out)) rfl (made_ser_done HM.out hlo hlw HSE.out G4.out HSM.out HK3.out HKS.out (by omega) (by omega))
  · clear hks
    go_enter Tryz.func32, Tryz.ntmps32
    go_wp2_with (with_reducible refine g_alloc 37 ?_; refine wpList_alloc_as rfl _ rfl (ltVal zLt zSl) lt_zero ?_)
    refine (numeric_any 10 _).mono ?_
    rintro e w1 ⟨rfl, rfl⟩
    rw [show numB 10 = false from rfl]
    go_wp2_with fail
    refine (madeSeries_any _ mb xs at_ nodes G0.out.mkr hx hat hnd).mono ?_
    rintro e w3 ⟨ns', ms, mi, ln, zv, gp, fo, vr, vm, a3, n3, rfl, hsm, hm3, ha3, hn3, hk3⟩
    obtain ⟨B, cm, rfl⟩ := own_formA hsm.moves
    obtain ⟨A, cr, rfl⟩ := own_formA hsm.rule.row
    obtain ⟨se, hse⟩ : ∃ se : Ser, se = ⟨ns'.map (·.d), mi, ln, zv, gp, fo, ms⟩ := ⟨_, rfl⟩
    have hv : #[.slice A ns'.length cr, I mi, I ln, .string zv, I gp, I fo, .slice B ms.length cm] = seC se A B cr cm := by subst hse; simp [seC]
    rw [hv]
    have G3 := Lib.hid (G0.out.step hm3 hk3)
    have HT : Hid (w3.there w.heap.size 17 (seC se A B cr cm).size) := Lib.hid (G3.out.there 17 7 (by rw [HZ.out]; omega))
    have HSM := Lib.hid hsm
    have HSE := Lib.hid hse
    have G4 : Hid (TS w mb xs a3 n3 (ltVal { l with series := se } { s with A := A, c := cr, B := B, d := cm }) (w3.setCells w.heap.size 17 (seC se A B cr cm).toList)) := Lib.hid (by have := G3.out.storeAll (seC se A B cr cm).toList 17; rw [put_series] at this; exact this)
    have HK3 := Lib.hid hk3
    clear hm3 hk3 hsm hse hv
    go_wp2_with (first
      | (with_reducible refine g_store 31 ?_; refine wpList_store_mid rfl _ _ _ rfl w.heap.size 17 (seC se A B cr cm) rfl rfl HT.out (se_size _ _ _ _ _) (se_one _ _ _ _ _) ?_)
      | (with_reducible refine g_load 37 ?_; refine wpList_load_Row rfl _ _ rfl w.heap.size rfl (ltVal { l with series := se } { s with A := A, c := cr, B := B, d := cm }) G4.out.row _ Tryz.underlying37 rfl (size62 _ _ HR.out) ?_)
      | (with_reducible refine g_store 37 ?_; refine wpList_store_row rfl _ _ _ rfl (w.heap.size + 1) (ltVal { l with series := se } { s with A := A, c := cr, B := B, d := cm }) rfl rfl 37 (ltVal zLt zSl) G4.out.res (size62 _ _ HR.out) (sz_eq _ _ HR.out) (ltVal_one _ _) ?_))
    exact bodyPost_ret (v := .agg (ltVal { l with series := se } { s with A := A, c := cr, B := B, d := cm })) (results_cell_row rfl _ _ (w.heap.size + 1) _ (ltVal { l with series := se } { s with A := A, c := cr, B := B, d := cm }) (0, 0) _ rfl (setRow_heap _ _ _ _ _ _ G4.out.res) Tryz.underlying37 rfl (size62 _ _ HR.out)) rfl (made_ser_done HM.out hlo hlw HSE.out G4.out HSM.out HK3.out HKS.out (by omega) (by omega))
end Go.Proofs.YthhbbebabmemfaaGreat

/- kalendsref20.made for the cells. -/
namespace Go.Proofs.YthhbbebabmemfaaGreat
open Go Go.RowKit

theorem TS.grown {w0 W w' : World} {mb a nd base e size n : Nat} {xs : List Int} {cs : Array Value} {v : Value} {ys : List Value} {o : Obj} (h : TS w0 mb xs a nd cs W) (hown : W.ownsRow base e size v n ys) (hb : w0.heap.size + 1 < base) (hg : (W.alloc o).grownBy w' v.ownBlock) : TS w0 mb xs a nd cs w' := by
  have h1 := h.hm
  have h4 := h.lt
  have hs := h.keep.size
  have hB : ∀ k, k < W.heap.size → k < base → w'.heap[k]? = W.heap[k]? := fun k hk hkb => by rw [hg.block k (by simp; omega) (own_ge hown k hkb), Below.heap_alloc W o k hk]
  exact ⟨h.hm, (mk_grown h.mkr hown (by omega) hg).1, ⟨hg.os.trans h.keep.os, hg.tape.trans h.keep.tape, hg.output.trans h.keep.output, by have := hg.size; simp at this; omega, fun k hk hn => (hB k (by omega) (by omega)).trans (h.keep.block k hk hn)⟩, (hB _ (by omega) (by omega)).trans h.var, (hB _ (by omega) (by omega)).trans h.res⟩
structure CP (nn : Int) (j : Nat) (zs : List Int) : Prop where
  len : zs.length = j
  rng : ∀ z ∈ zs, 0 ≤ z ∧ z < nn
  up : zs.Pairwise (· < ·)
  lo : 0 ≤ nn
  hi : nn ≤ 3 + 2 * j
  top : ∀ z ∈ zs, z ≤ 1 + 2 * (j : Int)
theorem CP.more {nn : Int} {j : Nat} {zs : List Int} (h : CP nn j zs) {r : Int} (h0 : 0 ≤ r) (h1 : r < 2) : CP (nn + 1 + r) (j + 1) (zs ++ [nn]) := by
  have hl := h.lo
  have hh := h.hi
  refine ⟨by rw [List.length_append, h.len]; rfl, fun z hz => ?_, ?_, by omega, by push_cast; omega, fun z hz => ?_⟩
  · rcases List.mem_append.1 hz with hz | hz
    · have := h.rng z hz; omega
    · rw [List.mem_singleton.1 hz]; omega
  · rw [List.pairwise_append]
    exact ⟨h.up, List.pairwise_singleton _ _, fun a ha b hb => by rw [List.mem_singleton.1 hb]; exact (h.rng a ha).2⟩
  · rcases List.mem_append.1 hz with hz | hz
    · have := h.top z hz; push_cast; omega
    · rw [List.mem_singleton.1 hz]; push_cast; omega
def ClRel (w : World) (mb : Nat) (xs : List Int) (a0 nodes : Nat) (l : Lt) (s : Sl) (kk : Int) (n i : Value) (wr : World) : Prop :=
  ∃ (j : Nat) (nn : Int) (zs : List Int) (a' : Nat) (C : Option Addr) (e : Nat), (j : Int) ≤ kk ∧ i = I j ∧ n = I nn ∧ CP nn j zs ∧ a' ≤ a0 + j ∧
    TS w mb xs a' nodes (ltVal { l with cells := zs } { s with C := C, e := e }) wr ∧ wr.ownsRow (w.heap.size + 2) 3 1 (.slice C j e) j (zs.map I)
theorem cells_done {w wr : World} {lo mb a nodes at_ j e : Nat} {xs : List Int} {l : Lt} {s : Sl} {ns : List NdV} {zs : List Int} {nn : Int} {C : Option Addr} (hm : LtMem lo w l s ns) (hlo : mb < lo) (hlw : lo ≤ w.heap.size) (h : TS w mb xs a nodes (ltVal { l with cells := zs } { s with C := C, e := e }) wr)
    (ho : wr.ownsRow (w.heap.size + 2) 3 1 (.slice C j e) j (zs.map I)) (hp : CP nn j zs) (h1 : 1 ≤ j) (h5 : j ≤ 5) (ha : a ≤ at_ + 400) :
    MadeP w lo mb xs at_ nodes l s ns 15 (.returned (.agg (ltVal { l with cells := zs } { s with C := C, e := e }))) (wr.setRow (w.heap.size + 1) (ltVal { l with cells := zs } { s with C := C, e := e })) := by
  have hml := h.hm
  have hl := hp.len
  have hpl := hp.lo
  have hhi := hp.hi
  refine h.done (.inr (.inr (.inr (.inr (.inl ⟨rfl, rfl, zs, rfl, ⟨by omega, by omega, fun z hz => ?_, hp.up⟩⟩))))) ?_ (fun h => absurd rfl h) ha (by omega)
  · refine ⟨(hp.rng z hz).1, ?_⟩
    have := hp.top z hz
    omega
  · have k := hm.mkeep (h.fin (ltVal { l with cells := zs } { s with C := C, e := e })).2 hlo
    refine ⟨k.rule, k.names, k.moves, ?_⟩
    show World.ownsRow _ _ _ _ (.slice C zs.length e) zs.length _
    rw [hl]
    exact ownsRow_base' (ownsRow_blocks ho fun k hk _ => setRow_other _ _ k _ (by omega)) (by omega)
attribute [local go_sem] ltVal_get lt_get29
set_option maxRecDepth 10000 in
set_option maxHeartbeats 4000000 in
theorem made_cells (w : World) (lo mb : Nat) (xs : List Int) (at_ nodes : Nat) (l : Lt) (s : Sl) (ns : List NdV) (h : MkSt w mb xs at_ nodes) (hx : XsOK xs) (hat : at_ ≤ 100000) (hc0 : l.cells = []) (hC : s.C = none) (he : s.e = 0) (hmem : LtMem lo w l s ns) (hlo : mb < lo) (hlw : lo ≤ w.heap.size) (hr : l.ref.length = 32) :
    Calls Tryz.prog 32 #[pt mb, .agg (ltVal l s), I 15] w (MadeP w lo mb xs at_ nodes l s ns 15) := by
  have G0 : Hid (TS w mb xs at_ nodes (ltVal l s) ((w.alloc (.cells (ltVal l s) 37)).alloc (.cells (ltVal zLt zSl) 37))) := Lib.hid (TS.start h)
  have hml := h.lt
  have HM := Lib.hid hmem
  have HR := Lib.hid hr
  have HZ := Lib.hid (ltVal_size l s hr)
  clear h hmem hr
  go_enter Tryz.func32, Tryz.ntmps32
  go_wp2_with (with_reducible refine g_alloc 37 ?_; refine wpList_alloc_as rfl _ rfl (ltVal zLt zSl) lt_zero ?_)
  refine (numeric_any 15 _).mono ?_
  rintro e w1 ⟨rfl, rfl⟩
  rw [show numB 15 = false from rfl]
  go_wp2_with fail
  refine (G0.out.pick hx 4 (by omega) (by omega) (by omega)).mono ?_
  rintro e w2 ⟨n0, rfl, n1, n2, -, g2⟩
  have G2 := Lib.hid g2
  clear g2
  go_wp2_with fail
  refine (G2.out.pick hx 5 (by omega) (by omega) (by omega)).mono ?_
  rintro e w3 ⟨k0, rfl, k1, k2, -, g3⟩
  have G3 := Lib.hid g3
  clear g3
  go_wp2_with fail
  have GL : Hid (TS w mb xs (at_ + 1 + 1) nodes (ltVal { l with cells := [] } { s with C := none, e := 0 }) w3) := Lib.hid (by have := G3.out; rw [show ltVal { l with cells := [] } { s with C := none, e := 0 } = ltVal l s by unfold ltVal; rw [hc0, hC, he]; rfl]; exact this)
  clear G0 G2 G3 hc0 hC he
  go_loopw [10, 12] (fun n i wr => ClRel w mb xs (at_ + 2) nodes l s (1 + k0) n i wr) (fun _ i _ => (1 + k0 - intOf i).toNat)
  case atStart => exact ⟨0, n0, [], _, none, 0, by omega, rfl, rfl, ⟨rfl, (fun z hz => nomatch hz), List.Pairwise.nil, n1, by omega, (fun z hz => nomatch hz)⟩, by omega, GL.out, World.ownsRow_nil _ _ _ _⟩
  case round =>
    obtain ⟨j, nn, zs, a', C, e, hj, rfl, rfl, hcp, ha', hts, hown⟩ := hrel
    have HG := Lib.hid hts
    have HO := Lib.hid hown
    have HP := Lib.hid hcp
    have hlt1 := hts.lt
    have hpl := hcp.lo
    have hhi := hcp.hi
    have hc29 : wr.cell? ⟨w.heap.size, 29, none⟩ = some (.slice C j e) := by rw [hts.cell, ← hcp.len]; rfl
    clear hts hown hcp GL
    by_cases hlt : (j : Int) < 1 + k0
    · go_wp2_with (at_builtin; refine wpList_app_int rfl _ _ rfl (w.heap.size + 2) _ j (zs.map I) rfl HO.out nn rfl (by omega) (by omega) ?_)
      intro v' w4 hown' hgrow
      obtain ⟨gg, cap, rfl⟩ := ownsRow_succ hown'
      have hg4 := HG.out.grown HO.out (by omega) hgrow
      have hc4 : w4.cell? ⟨w.heap.size, 29, none⟩ = some (.slice C zs.length e) := hg4.cell 29
      have hf4 := hg4.froz 29
      have G4 : Hid (TS w mb xs a' nodes (ltVal { l with cells := zs ++ [nn] } { s with C := some ⟨gg, 0, none⟩, e := cap }) (w4.setCell ⟨w.heap.size, 29, none⟩ (.slice (some ⟨gg, 0, none⟩) (j + 1) cap))) := Lib.hid (by have := hg4.store 29 (.slice (some ⟨gg, 0, none⟩) (j + 1) cap); rw [put_cells _ _ (zs ++ [nn]) _ _ _ (by rw [List.length_append, HP.out.len]; rfl)] at this; exact this)
      have HO4 := Lib.hid (ownsRow_setCell_below (a := ⟨w.heap.size, 29, none⟩) hown' (by show w.heap.size < _; omega) (.slice (some ⟨gg, 0, none⟩) (j + 1) cap))
      clear hown' hgrow hg4 hc29
      go_wp2_with fail
      refine (G4.out.pick hx 2 (by omega) (by omega) (by omega)).mono ?_
      rintro e w5 ⟨r, rfl, r1, r2, hk5, g5⟩
      have G5 := Lib.hid g5
      have HO5 := Lib.hid (ownsRow_mkeep HO4.out hk5 (by omega))
      clear hk5 g5 hc4 hf4
      go_wp2_with fail
      go_roundw
      case rel => exact ⟨j + 1, _, zs ++ [nn], _, _, _, by omega, by go_num, by first | rfl | go_num, HP.out.more r1 r2, by omega, G5.out, by rw [List.map_append]; exact HO5.out⟩
      case measure => simp [intOf]; omega
    · go_wp2_with (first
        | (with_reducible refine g_load 37 ?_; refine wpList_load_Row rfl _ _ rfl w.heap.size rfl (ltVal { l with cells := zs } { s with C := C, e := e }) HG.out.row _ Tryz.underlying37 rfl (size62 _ _ HR.out) ?_)
        | (with_reducible refine g_store 37 ?_; refine wpList_store_row rfl _ _ _ rfl (w.heap.size + 1) (ltVal { l with cells := zs } { s with C := C, e := e }) rfl rfl 37 (ltVal zLt zSl) HG.out.res (size62 _ _ HR.out) (sz_eq _ _ HR.out) (ltVal_one _ _) ?_))
      exact bodyPost_ret (v := .agg (ltVal { l with cells := zs } { s with C := C, e := e })) (results_cell_row rfl _ _ (w.heap.size + 1) _ (ltVal { l with cells := zs } { s with C := C, e := e }) (0, 0) _ rfl (setRow_heap _ _ _ _ _ _ HG.out.res) Tryz.underlying37 rfl (size62 _ _ HR.out)) rfl (cells_done HM.out hlo hlw HG.out HO.out HP.out (by omega) (by omega) (by omega))
end Go.Proofs.YthhbbebabmemfaaGreat

/- kalendsref20.made for a field that is a number. -/
namespace Go.Proofs.YthhbbebabmemfaaGreat
open Go Go.RowKit

theorem yieldsIf_min {P : Program} {ops : Array Oper} {S : World → Prop} {op : Oper} {a : Act} (hw : Region.wanted op (yielded ops a.tmps) = true) (x : Operand) (c : Int) (ho : op.op = .call { callee := .builtin .min, args := #[x, .const (I c)], argTypes := #[3, 3] })
    (n : Int) (hx : a.eval x = I n) : YieldsIf P ops S op (I (if c < n then c else n)) a :=
  .inl ⟨hw, fun w _ => by
    have hc : a.eval (.const (I c)) = I c := rfl
    unfold execOp
    simp [ho, resolve, invoke, builtin, Builtin.min_, Builtin.min2, hx, hc]⟩
theorem Row.of_block {w w' : World} {b : Nat} {cs : Array Value} (h : Row w b cs) (hb : w'.heap[b]? = w.heap[b]?) : Row w' b cs :=
  ⟨by have h1 := Array.getElem?_eq_getElem h.1; rw [← hb] at h1; exact (Array.getElem?_eq_some_iff.1 h1).1, fun i => (World.cell?_of_block (a := ⟨b, i, none⟩) hb).trans (h.2 i)⟩
attribute [local go_sem] ltVal_get lt_get0
set_option maxRecDepth 10000 in
set_option maxHeartbeats 4000000 in
theorem made_num (w : World) (lo mb : Nat) (xs : List Int) (at_ nodes : Nat) (l : Lt) (s : Sl) (ns : List NdV) (f : Nat) (h : MkSt w mb xs at_ nodes) (hx : XsOK xs) (hat : at_ ≤ 100000) (hmem : LtMem lo w l s ns) (hlo : mb < lo) (hr : l.ref.length = 32) (hf : f < 17) (hnum : numB f = true) :
    Calls Tryz.prog 32 #[pt mb, .agg (ltVal l s), I f] w (MadeP w lo mb xs at_ nodes l s ns f) := by
  have G0 : Hid (TS w mb xs at_ nodes (ltVal l s) ((w.alloc (.cells (ltVal l s) 37)).alloc (.cells (ltVal zLt zSl) 37))) := Lib.hid (TS.start h)
  have hml := h.lt
  have HM := Lib.hid hmem
  have HN := Lib.hid hnum
  have HR := Lib.hid hr
  clear h hmem hr hnum
  go_enter Tryz.func32, Tryz.ntmps32
  go_wp2_with (with_reducible refine g_alloc 37 ?_; refine wpList_alloc_as rfl _ rfl (ltVal zLt zSl) lt_zero ?_)
  refine (numeric_any f _).mono ?_
  rintro e w1 ⟨rfl, rfl⟩
  rw [HN.out]
  go_wp2_with fail
  refine (bounds_any l.kind f hf _).mono ?_
  rintro e w1 ⟨rfl, rfl⟩
  have hbo := bnd_ok l.kind f
  obtain ⟨low, hlow⟩ : ∃ x, (bnd l.kind f).1 = x := ⟨_, rfl⟩
  obtain ⟨hi, hhi⟩ : ∃ x, (bnd l.kind f).2 = x := ⟨_, rfl⟩
  rw [hlow, hhi] at hbo ⊢
  obtain ⟨hb1, hb2, hb3⟩ := hbo
  have HLO := Lib.hid hlow
  have HHI := Lib.hid hhi
  clear hlow hhi
  go_wp2_with fail
  have hw1 : IntKind.i64.wrap (hi - low) = hi - low := by rw [IntKind.wrap_i64]; omega
  have hw2 : IntKind.i64.wrap (hi - low + 1) = hi - low + 1 := by rw [IntKind.wrap_i64]; omega
  refine wp_region_held_drew (S := fun w' => Row w' w.heap.size (ltVal l s)) (by kernel_rfl) G0.out.drew.row (fun hH0 => ?_)
  refine wpAnyH_take_dst (i := 0) (v := _) (d := 23) rfl rfl (by kernel_rfl) (by kernel_rfl) (by kernel_rfl) (fun _ _ _ h => h) (yieldsIf_load_Row (by rfl) _ _ rfl w.heap.size rfl (ltVal l s) _ (fun w' h => h) Tryz.underlying37 rfl (size62 _ _ HR.out)) (by assumption) ?r0
  try simp only [Act.put, List.setIfInBounds_toArray, List.set_cons_zero, List.set_cons_succ]
  refine wpAnyH_take_dst (i := 1) (v := ?v1) (d := 24) rfl rfl (by kernel_rfl) (by kernel_rfl) (by kernel_rfl) (fun _ _ _ h => h) (Or.inl ⟨by rfl, ?hy1⟩) (by assumption) ?r1
  case hy1 => intro w' hSw; first | (go_simp; done) | (go_simp; with_reducible rfl)
  try simp only [Act.put, List.setIfInBounds_toArray, List.set_cons_zero, List.set_cons_succ]
  refine wpAnyH_take_dst (i := 2) (v := ?v2) (d := 25) rfl rfl (by kernel_rfl) (by kernel_rfl) (by kernel_rfl) (fun _ _ _ h => h) (Or.inl ⟨by rfl, ?hy2⟩) (by assumption) ?r2
  case hy2 => intro w' hSw; first | (go_simp; done) | (go_simp; with_reducible rfl)
  try simp only [Act.put, List.setIfInBounds_toArray, List.set_cons_zero, List.set_cons_succ]
  refine wpAnyH_take_dst (i := 3) (v := ?v3) (d := 26) rfl rfl (by kernel_rfl) (by kernel_rfl) (by kernel_rfl) (fun _ _ _ h => h) (Or.inl ⟨by rfl, ?hy3⟩) (by assumption) ?r3
  case hy3 => intro w' hSw; first | (go_simp; done) | (go_simp; with_reducible rfl)
  try simp only [Act.put, List.setIfInBounds_toArray, List.set_cons_zero, List.set_cons_succ]
  refine wpAnyH_take_dst (i := 4) (v := ?v4) (d := 27) rfl rfl (by kernel_rfl) (by kernel_rfl) (by kernel_rfl) (fun _ _ _ h => h) (Or.inl ⟨by rfl, ?hy4⟩) (by assumption) ?r4
  case hy4 => intro w' hSw; first | (go_simp; done) | (go_simp; with_reducible rfl)
  try simp only [Act.put, List.setIfInBounds_toArray, List.set_cons_zero, List.set_cons_succ]
  refine wpAnyH_take_dst (i := 5) (v := ?v5) (d := 28) rfl rfl (by kernel_rfl) (by kernel_rfl) (by kernel_rfl) (fun _ _ _ h => h) (Or.inl ⟨by rfl, ?hy5⟩) (by assumption) ?r5
  case hy5 => intro w' hSw; first | (go_simp; done) | (go_simp; with_reducible rfl)
  try simp only [Act.put, List.setIfInBounds_toArray, List.set_cons_zero, List.set_cons_succ]
  refine wpAnyH_take_dst (i := 6) (v := ?v6) (d := 29) rfl rfl (by kernel_rfl) (by kernel_rfl) (by kernel_rfl) (fun _ _ _ h => h) (Or.inl ⟨by rfl, ?hy6⟩) (by assumption) ?r6
  case hy6 => intro w' hSw; first | (go_simp; done) | (go_simp; with_reducible rfl)
  try simp only [Act.put, List.setIfInBounds_toArray, List.set_cons_zero, List.set_cons_succ]
  refine wpAnyH_take_dst (i := 7) (v := ?v7) (d := 30) rfl rfl (by kernel_rfl) (by kernel_rfl) (by kernel_rfl) (fun _ _ _ h => h) (Or.inl ⟨by rfl, ?hy7⟩) (by assumption) ?r7
  case hy7 => intro w' hSw; first | (go_simp; done) | (go_simp; with_reducible rfl)
  try simp only [Act.put, List.setIfInBounds_toArray, List.set_cons_zero, List.set_cons_succ]
  refine wpAnyH_take_dst (i := 8) (v := _) (d := 31) rfl rfl (by kernel_rfl) (by kernel_rfl) (by kernel_rfl) (fun _ _ _ h => h) (yieldsIf_min (by rfl) _ 40 rfl (hi - low + 1) rfl) (by assumption) ?r8
  try simp only [Act.put, List.setIfInBounds_toArray, List.set_cons_zero, List.set_cons_succ]
  refine wpAnyH_ready (rs := [9]) (by kernel_rfl) (by simp) ?_
  refine AllReadyH.cons rfl (fun K hK => ?_) AllReadyH.nil
  go_simp
  refine (G0.out.drew.pick hx _ (by omega) (by split <;> omega) (by split <;> omega)).mono ?_
  rintro e w2 ⟨r, rfl, hr1, hr2, -, g2⟩
  have G2 := Lib.hid g2
  clear g2
  have hS2 := G2.out.row
  have hr3 : low + r ≤ hi := by split at hr2 <;> omega
  have hr4 : r < 40 := by split at hr2 <;> omega
  have hw3 : IntKind.i64.wrap (low + r) = low + r := by rw [IntKind.wrap_i64]; omega
  refine hK.out _ _ G2.out.row (fun hHeld => ?_)
  clear hHeld
  clear hK K
  try simp only [Act.put, List.setIfInBounds_toArray, List.set_cons_zero, List.set_cons_succ]
  refine wpAnyH_take_dst (i := 10) (v := ?v10) (d := 33) rfl rfl (by kernel_rfl) (by kernel_rfl) (by kernel_rfl) (fun _ _ _ h => h) (Or.inl ⟨by rfl, ?hy10⟩) (by assumption) ?r10
  case hy10 => intro w' hSw; first | (go_simp; done) | (go_simp; with_reducible rfl)
  try simp only [Act.put, List.setIfInBounds_toArray, List.set_cons_zero, List.set_cons_succ]
  refine wpAnyH_ready (rs := [11]) (by kernel_rfl) (by simp) ?_
  refine AllReadyH.cons rfl (fun K hK => ?_) AllReadyH.nil
  go_simp
  refine (setNumber_any l s f hf (low + r) _ HR.out).mono ?_
  rintro e w3 ⟨rfl, hb3⟩
  have G3 := Lib.hid (G2.out.below hb3)
  clear hb3
  have hS3 := G3.out.row
  refine hK.out _ _ G3.out.row (fun hHeld => ?_)
  clear hHeld
  clear hK K
  try simp only [Act.put, List.setIfInBounds_toArray, List.set_cons_zero, List.set_cons_succ]
  refine wpAnyH_ready (rs := [12]) (by kernel_rfl) (by simp) ?_
  refine AllReadyH.cons rfl (fun K hK => ?_) AllReadyH.nil
  have HRF : Hid ((setNum l f (low + r)).ref.length = 32) := Lib.hid (by rw [setNum_ref]; exact HR.out)
  rw [if_pos (by rfl)]
  refine wp_store_row _ _ _ rfl (w.heap.size + 1) (ltVal (setNum l f (low + r)) s) rfl rfl _ (ltVal zLt zSl) G3.out.res (size62 _ _ HRF.out) (sz_eq _ _ HRF.out) (ltVal_one _ _) ?_
  refine hK.out _ _ (hS3.of_block (setRow_other _ _ _ _ (by omega))) (fun hHeld => ?_)
  clear hHeld hK K
  refine wpAnyH_done (by kernel_rfl) ?_ _
  clear hr2
  go_wp2_with fail
  all_goals exact bodyPost_ret (v := .agg (ltVal (setNum l f (low + r)) s)) (results_cell_row rfl _ _ (w.heap.size + 1) _ (ltVal (setNum l f (low + r)) s) (0, 0) _ rfl (setRow_heap _ _ _ _ _ _ G3.out.res) Tryz.underlying37 rfl (size62 _ _ HRF.out)) rfl (G3.out.done_same (.inl ⟨HN.out, low + r, by rw [HLO.out]; omega, by rw [HHI.out]; omega, by rw [HLO.out]; omega, rfl, rfl⟩) HM.out hlo (setNum_series _ _ _) (setNum_cellsL _ _ _) (by omega) (by omega))
end Go.Proofs.YthhbbebabmemfaaGreat

/- kalendsref20.made for the window. -/
namespace Go.Proofs.YthhbbebabmemfaaGreat
open Go Go.RowKit

attribute [local go_sem] ltVal_get lt_get27
set_option maxRecDepth 10000 in
set_option maxHeartbeats 4000000 in
theorem made_window (w : World) (lo mb : Nat) (xs : List Int) (at_ nodes : Nat) (l : Lt) (s : Sl) (ns : List NdV) (h : MkSt w mb xs at_ nodes) (hx : XsOK xs) (hat : at_ ≤ 100000) (hmem : LtMem lo w l s ns) (hlo : mb < lo) (_hlw : lo ≤ w.heap.size) (hr : l.ref.length = 32) :
    Calls Tryz.prog 32 #[pt mb, .agg (ltVal l s), I 14] w (MadeP w lo mb xs at_ nodes l s ns 14) := by
  have G0 : Hid (TS w mb xs at_ nodes (ltVal l s) ((w.alloc (.cells (ltVal l s) 37)).alloc (.cells (ltVal zLt zSl) 37))) := Lib.hid (TS.start h)
  have hml := h.lt
  have HM := Lib.hid hmem
  have HR := Lib.hid hr
  have HZ := Lib.hid (ltVal_size l s hr)
  clear h hmem hr
  go_enter Tryz.func32, Tryz.ntmps32
  go_wp2_with (with_reducible refine g_alloc 37 ?_; refine wpList_alloc_as rfl _ rfl (ltVal zLt zSl) lt_zero ?_)
  refine (numeric_any 14 _).mono ?_
  rintro e w1 ⟨rfl, rfl⟩
  rw [show numB 14 = false from rfl]
  go_wp2_with fail
  refine (G0.out.pick hx 5000 (by omega) (by omega) (by omega)).mono ?_
  rintro e w2 ⟨x, rfl, x1, x2, -, g2⟩
  have g2c := g2.cell
  have g2f := g2.froz
  have hw1 : IntKind.i64.wrap (x - 1000) = x - 1000 := by rw [IntKind.wrap_i64]; omega
  have G2 : Hid (TS w mb xs _ nodes (ltVal { l with wfrom := x - 1000 } s) (w2.setCell ⟨w.heap.size, 27, none⟩ (I (x - 1000)))) := Lib.hid (by have := g2.store 27 (I (x - 1000)); rw [put_wfrom] at this; exact this)
  clear g2
  go_wp2_with fail
  clear g2c g2f
  have HGD : Hid (TS w mb xs (at_ + 1) nodes (ltVal { l with wfrom := x - 1000 } s) (w2.setCell ⟨w.heap.size, 27, none⟩ (I (x - 1000))).drew) := Lib.hid G2.out.drew
  have hc27 : (w2.setCell ⟨w.heap.size, 27, none⟩ (I (x - 1000))).cell? ⟨w.heap.size, 27, none⟩ = some (I (x - 1000)) := HGD.out.cell 27
  go_region_law (go_simp; go_at_call 30; refine (HGD.out.pick hx 5000 (by omega) (by omega) (by omega)).mono ?_; rintro e w5 ⟨y, rfl, y1, y2, -, g5⟩; have hc5 : w5.cell? ⟨w.heap.size, 27, none⟩ = some (I (x - 1000)) := g5.cell 27; have hc58 : w5.cell? ⟨w.heap.size, 28, none⟩ = some (I l.wto) := g5.cell 28; have hf58 := g5.froz 28; have hw2 : IntKind.i64.wrap (x - 1000 + y) = x - 1000 + y := (by rw [IntKind.wrap_i64]; omega); have G5 : Hid (TS w mb xs (at_ + 1 + 1) nodes (ltVal { l with wfrom := x - 1000, wto := x - 1000 + y } s) (w5.setCell ⟨w.heap.size, 28, none⟩ (I (x - 1000 + y)))) := Lib.hid (by have := g5.store 28 (I (x - 1000 + y)); rw [put_wto] at this; exact this); clear g5)
  all_goals
    go_wp2_with (first
      | (with_reducible refine g_load 37 ?_; refine wpList_load_Row rfl _ _ rfl w.heap.size rfl (ltVal { l with wfrom := x - 1000, wto := x - 1000 + y } s) G5.out.row _ Tryz.underlying37 rfl (size62 _ _ HR.out) ?_)
      | (with_reducible refine g_store 37 ?_; refine wpList_store_row rfl _ _ _ rfl (w.heap.size + 1) (ltVal { l with wfrom := x - 1000, wto := x - 1000 + y } s) rfl rfl 37 (ltVal zLt zSl) G5.out.res (size62 _ _ HR.out) (sz_eq _ _ HR.out) (ltVal_one _ _) ?_))
    exact bodyPost_ret (v := .agg (ltVal { l with wfrom := x - 1000, wto := x - 1000 + y } s)) (results_cell_row rfl _ _ (w.heap.size + 1) _ (ltVal { l with wfrom := x - 1000, wto := x - 1000 + y } s) (0, 0) _ rfl (setRow_heap _ _ _ _ _ _ G5.out.res) Tryz.underlying37 rfl (size62 _ _ HR.out)) rfl (G5.out.done_same (at_ := at_) (nodes := nodes) (.inr (.inr (.inr (.inl ⟨rfl, rfl, x - 1000, x - 1000 + y, by omega, by omega, by omega, rfl⟩)))) HM.out hlo rfl rfl (by omega) (by omega))
end Go.Proofs.YthhbbebabmemfaaGreat
