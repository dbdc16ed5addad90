/- The texts SvR, Ps, SwN, SwT, SwB, SwL, SwZ, Pr, Var, in this order. -/
import Derived.Test.YthhbbebabmemfaaGreatG04
import Derived.BigQuiet
import Derived.Deep.AppendLies
import Derived.Deep.CutBlock
import Derived.Deep.DeepCutAuto
import Derived.Deep.DrawnRows
import Derived.Deep.MidRow
import Derived.Deep.QuietTactic
import Derived.Deep.RegionHeld3
import Derived.Deep.RegionLaw
import Derived.Deep.WholeRow
import Derived.Great.BuildSlice
import Derived.Laws.BytesString
import Derived.Laws.CopyOwn
import Derived.Laws.Cover3
import Derived.Laws.EntriesVeiled
import Derived.Laws.MakeOwn
import Derived.Laws.ResultCell
import Derived.Laws.Rows
import Derived.Laws.Tables
import Derived.Lib.Hide
import Derived.LoopIn
import Derived.LoopNIn
import Derived.MapKept
import Derived.Maps.AppendAt
import Derived.Outline
import Derived.OwnWalkIn
import Derived.RangeFuncBound
import Derived.RangeFuncBox
import Derived.RangeFuncCalls
import Derived.RangeFuncLeaves
import Derived.RangeFuncNested
import Derived.Shelf.Abstract
import Derived.Shelf.Bytes.SlSmallAll
import Derived.Shelf.RegionOpen
import Derived.StillTailTactics
import Derived.Stop.BytesEq
import Derived.TacticsInMore
import Derived.WalkKit
import Derived.WalkLawsBesides
import Derived.WalkSpells
import Derived.Test.YthhbbebabmemfaaGreatPm
import Derived.Lib.AppendStr
import Derived.Test.YthhbbebabmemfaaGreatWriters2
import Derived.Laws.AppendOwnNone
import Derived.Test.YthhbbebabmemfaaGreatG03
import Derived.Test.YthhbbebabmemfaaGreatG06
import Derived.Test.YthhbbebabmemfaaGreatValidB
import Derived.Test.YthhbbebabmemfaaGreatBytesW
import Derived.Test.YthhbbebabmemfaaGreatG05
/- letter.Valid where series.Valid is reached. -/
namespace Go.Proofs.YthhbbebabmemfaaGreat
open Go Go.RowKit

/-- The letter's box, and what was there before. -/
structure VS (w : World) (l : Lt) (s : Sl) (W : World) : Prop where
  row : Row W w.heap.size (ltVal l s)
  lo : Below w.heap.size w W
theorem VS.below {w W W' : World} {l : Lt} {s : Sl} (h : VS w l s W) (hb : Below W.heap.size W W') : VS w l s W' := ⟨h.row.keep hb, below_trans h.lo hb⟩
theorem VS.drew {w W : World} {l : Lt} {s : Sl} (h : VS w l s W) : VS w l s W.drew := h.below (Below.refl _ W).drew
attribute [local go_sem] ltVal_get lt_get0 lt_get1 lt_get2 lt_get10 lt_get17 lt_get18 lt_get19 lt_get20 lt_get21 lt_get22 lt_get23 lt_get29
def serVal (l : Lt) (s : Sl) : Value := .agg #[.slice s.A l.series.rule.length s.c, I l.series.minute, I l.series.length, .string l.series.zone, I l.series.gap, I l.series.fold, .slice s.B l.series.moves.length s.d]
set_option maxRecDepth 10000 in
set_option maxHeartbeats 4000000 in
theorem valid_ser (l : Lt) (s : Sl) (w : World) (r : Int) (hok : LtOK l) (hi : IntsAt w w.heap.size s.C l.cells) (hh : headOK l = true) (hbo : bodyOK l = true) (hcl : l.cells.length ≤ 65536) (hu : usesB l.kind 10 = true)
    (hnb : nzOf l = false ∨ (nzOf l = true ∧ (l.kind == 8) = false ∧ (l.scope == 1) = false))
    (hsv : ∀ w' cb cc xs, Below w.heap.size w w' → CalsAt w' w'.heap.size cb xs → Calls Tryz.prog 42 #[serVal l s, .slice (some ⟨cb, 0, none⟩) 3 cc] w' (Gives (I r) w')) :
    Calls Tryz.prog 12 #[.agg (ltVal l s)] w (Gives (I r) w) := by
  obtain ⟨⟨hk1, hk2⟩, h1, h2, he⟩ := headOK_iff hh
  have H1 := Lib.hid h1
  have H2 := Lib.hid h2
  have HR0 := Lib.hid (Row.new w (ltVal l s) 37)
  have HB0 := Lib.hid (below_var w (.cells (ltVal l s) 37))
  have HSZ : Hid ((Tryz.prog.info? 37).map (·.size) = some (ltVal l s).size) := Lib.hid (by unfold ltVal; rw [lt_size _ _ _ _ hok.ref]; kernel_rfl)
  have hbb : vNums l (bareB l.kind l.series.rule.length l.series.moves.length l.series) = true ∧ oth l = true := by unfold bodyOK at hbo; exact Bool.and_eq_true_iff.1 hbo
  have HB1 := Lib.hid hbb.1
  have HB2 := Lib.hid hbb.2
  have HOK := Lib.hid hok
  have HI := Lib.hid hi
  have HU := Lib.hid hu
  have HSV := Lib.hid hsv
  have hcl' : ¬ 65536 < l.cells.length := by omega
  clear hh h1 h2 hbb hok hi hu hbo hcl hsv
  rcases hnb with hnz | ⟨hnz, h8, h1'⟩
  · as_aux_lemma =>
    have HNZ := Lib.hid hnz
    clear hnz
    go_enter Tryz.func12, Tryz.ntmps12
    go_wp2_with (first
      | (go_at_call 38; refine (server_any _ _).mono ?_; rintro e w' ⟨rfl, rfl⟩; first | rw [H1.out] | rw [H2.out])
      | (with_reducible refine g_load 37 ?_; refine wpList_load_Row rfl _ _ rfl w.heap.size rfl (ltVal l s) (by first | with_reducible exact HRb.out | with_reducible exact HR0.out) _ Tryz.underlying37 rfl HSZ.out ?_)
      | (go_at_call 39; refine (validNumbers_lt l s _ HOK.out).mono ?_; rintro e w1 ⟨rfl, hb1⟩; have HRb := Lib.hid (HR0.out.keep hb1); have HBb := Lib.hid (below_trans HB0.out hb1); have HCb := Lib.hid ((HI.out.keep HBb.out).more HBb.out.size); have hrb := HRb.out.2; rw [HB1.out]; clear hb1)
      | (go_at_call 40; refine (validOthers_lt l s _ HOK.out HCb.out).mono ?_; rintro e w2 ⟨rfl, hb2⟩; have HRc := Lib.hid (HRb.out.keep hb2); have HBc := Lib.hid (below_trans HBb.out hb2); have hrc := HRc.out.2; rw [HB2.out]; clear hb2)
      | (go_at_call 22; refine (uses_any _ _ _ (by omega) (by omega)).mono ?_; rintro e w3 ⟨rfl, hb3⟩; have HRd := Lib.hid (HRc.out.keep hb3); have HBd := Lib.hid (below_trans HBc.out hb3); have hrd := HRd.out.2; rw [HU.out]; clear hb3)
      | (go_at_call 41; refine (noSeries_lt l s _ HOK.out).mono ?_; rintro e w4 ⟨rfl, hb4⟩; have HRe := Lib.hid (HRd.out.keep hb4); have HBe := Lib.hid (below_trans HBd.out hb4); have hre := HRe.out.2; rw [HNZ.out]; clear hb4))
    have hS4 : VS w l s w4.drew := VS.drew ⟨HRe.out, HBe.out⟩
    refine wp_region_held_drew (S := VS w l s) (by kernel_rfl) hS4 (fun hH0 => ?_)
    refine wpAnyH_take_dst (i := 0) (v := ?v0a) (d := 66) rfl rfl (by kernel_rfl) (by kernel_rfl) (by kernel_rfl) (fun _ _ _ h => h) (Or.inl ⟨by rfl, ?hy0a⟩) (by assumption) ?r0a
    case hy0a => intro w' hSw; have k0 := hSw.row.2; clear hSw; first | (go_simp; done) | (go_simp; with_reducible rfl)
    try simp only [Act.put, List.setIfInBounds_toArray, List.set_cons_zero, List.set_cons_succ]
    refine wpAnyH_take_dst (i := 1) (v := ?v1a) (d := 67) rfl rfl (by kernel_rfl) (by kernel_rfl) (by kernel_rfl) (fun _ _ _ h => h) (Or.inl ⟨by rfl, ?hy1a⟩) (by assumption) ?r1a
    case hy1a => intro w' hSw; have k0 := hSw.row.2; clear hSw; first | (go_simp; done) | (go_simp; with_reducible rfl)
    try simp only [Act.put, List.setIfInBounds_toArray, List.set_cons_zero, List.set_cons_succ]
    refine wpAnyH_ready (rs := [2]) (by kernel_rfl) (by simp) ?_
    refine AllReadyH.cons rfl (fun K hK => ?_) AllReadyH.nil
    go_simp
    refine (calendars_any _).mono ?_
    rintro x w5 ⟨xs, rfl, hcs⟩
    have hS5 := hS4.below hcs.lo
    have hCA := hcs.cals
    clear hcs
    refine hK.out _ _ hS5 (fun hHeld => ?_)
    clear hHeld
    clear hK K
    try simp only [Act.put, List.setIfInBounds_toArray, List.set_cons_zero, List.set_cons_succ]
    refine wpAnyH_ready (rs := [3]) (by kernel_rfl) (by simp) ?_
    refine AllReadyH.cons rfl (fun K hK => ?_) AllReadyH.nil
    go_simp
    refine (HSV.out _ _ _ xs hS5.lo hCA).mono ?_
    rintro x w6 ⟨rfl, hb6⟩
    have hS6 := hS5.below hb6
    clear hb6
    refine hK.out _ _ hS6 (fun hHeld => ?_)
    clear hHeld
    clear hK K
    try simp only [Act.put, List.setIfInBounds_toArray, List.set_cons_zero, List.set_cons_succ]
    refine wpAnyH_take_dst (i := 4) (v := ?v4a) (d := 2) rfl rfl (by kernel_rfl) (by kernel_rfl) (by kernel_rfl) (fun _ _ _ h => h) (Or.inl ⟨by rfl, ?hy4a⟩) (by assumption) ?r4a
    case hy4a => intro w' hSw; first | (go_simp; done) | (go_simp; with_reducible rfl)
    try simp only [Act.put, List.setIfInBounds_toArray, List.set_cons_zero, List.set_cons_succ]
    refine wpAnyH_done (by kernel_rfl) ?_ _
    clear hH0
    go_wp2_with fail
    go_ret
    exact ⟨rfl, hS6.lo⟩
  · as_aux_lemma =>
    have HNZ := Lib.hid hnz
    clear hnz
    go_enter Tryz.func12, Tryz.ntmps12
    go_wp2_with (first
      | (go_at_call 38; refine (server_any _ _).mono ?_; rintro e w' ⟨rfl, rfl⟩; first | rw [H1.out] | rw [H2.out])
      | (with_reducible refine g_load 37 ?_; refine wpList_load_Row rfl _ _ rfl w.heap.size rfl (ltVal l s) (by first | with_reducible exact HRb.out | with_reducible exact HR0.out) _ Tryz.underlying37 rfl HSZ.out ?_)
      | (go_at_call 39; refine (validNumbers_lt l s _ HOK.out).mono ?_; rintro e w1 ⟨rfl, hb1⟩; have HRb := Lib.hid (HR0.out.keep hb1); have HBb := Lib.hid (below_trans HB0.out hb1); have HCb := Lib.hid ((HI.out.keep HBb.out).more HBb.out.size); have hrb := HRb.out.2; rw [HB1.out]; clear hb1)
      | (go_at_call 40; refine (validOthers_lt l s _ HOK.out HCb.out).mono ?_; rintro e w2 ⟨rfl, hb2⟩; have HRc := Lib.hid (HRb.out.keep hb2); have HBc := Lib.hid (below_trans HBb.out hb2); have hrc := HRc.out.2; rw [HB2.out]; clear hb2)
      | (go_at_call 22; refine (uses_any _ _ _ (by omega) (by omega)).mono ?_; rintro e w3 ⟨rfl, hb3⟩; have HRd := Lib.hid (HRc.out.keep hb3); have HBd := Lib.hid (below_trans HBc.out hb3); have hrd := HRd.out.2; rw [HU.out]; clear hb3)
      | (go_at_call 41; refine (noSeries_lt l s _ HOK.out).mono ?_; rintro e w4 ⟨rfl, hb4⟩; have HRe := Lib.hid (HRd.out.keep hb4); have HBe := Lib.hid (below_trans HBd.out hb4); have hre := HRe.out.2; rw [HNZ.out]; clear hb4))
    have hS4 : VS w l s w4.drew := VS.drew ⟨HRe.out, HBe.out⟩
    refine wp_region_held_drew (S := VS w l s) (by kernel_rfl) hS4 (fun hH0 => ?_)
    refine wpAnyH_take_dst (i := 0) (v := ?v0b) (d := 66) rfl rfl (by kernel_rfl) (by kernel_rfl) (by kernel_rfl) (fun _ _ _ h => h) (Or.inl ⟨by rfl, ?hy0b⟩) (by assumption) ?r0b
    case hy0b => intro w' hSw; have k0 := hSw.row.2; clear hSw; first | (go_simp; done) | (go_simp; with_reducible rfl)
    try simp only [Act.put, List.setIfInBounds_toArray, List.set_cons_zero, List.set_cons_succ]
    refine wpAnyH_take_dst (i := 1) (v := ?v1b) (d := 67) rfl rfl (by kernel_rfl) (by kernel_rfl) (by kernel_rfl) (fun _ _ _ h => h) (Or.inl ⟨by rfl, ?hy1b⟩) (by assumption) ?r1b
    case hy1b => intro w' hSw; have k0 := hSw.row.2; clear hSw; first | (go_simp; done) | (go_simp; with_reducible rfl)
    try simp only [Act.put, List.setIfInBounds_toArray, List.set_cons_zero, List.set_cons_succ]
    refine wpAnyH_ready (rs := [2]) (by kernel_rfl) (by simp) ?_
    refine AllReadyH.cons rfl (fun K hK => ?_) AllReadyH.nil
    go_simp
    refine (calendars_any _).mono ?_
    rintro x w5 ⟨xs, rfl, hcs⟩
    have hS5 := hS4.below hcs.lo
    have hCA := hcs.cals
    clear hcs
    refine hK.out _ _ hS5 (fun hHeld => ?_)
    clear hHeld
    clear hK K
    try simp only [Act.put, List.setIfInBounds_toArray, List.set_cons_zero, List.set_cons_succ]
    refine wpAnyH_ready (rs := [3]) (by kernel_rfl) (by simp) ?_
    refine AllReadyH.cons rfl (fun K hK => ?_) AllReadyH.nil
    go_simp
    refine (HSV.out _ _ _ xs hS5.lo hCA).mono ?_
    rintro x w6 ⟨rfl, hb6⟩
    have hS6 := hS5.below hb6
    clear hb6
    refine hK.out _ _ hS6 (fun hHeld => ?_)
    clear hHeld
    clear hK K
    try simp only [Act.put, List.setIfInBounds_toArray, List.set_cons_zero, List.set_cons_succ]
    refine wpAnyH_take_dst (i := 4) (v := ?v4b) (d := 2) rfl rfl (by kernel_rfl) (by kernel_rfl) (by kernel_rfl) (fun _ _ _ h => h) (Or.inl ⟨by rfl, ?hy4b⟩) (by assumption) ?r4b
    case hy4b => intro w' hSw; first | (go_simp; done) | (go_simp; with_reducible rfl)
    try simp only [Act.put, List.setIfInBounds_toArray, List.set_cons_zero, List.set_cons_succ]
    refine wpAnyH_done (by kernel_rfl) ?_ _
    clear hH0
    go_wp2_with fail
    go_ret
    exact ⟨rfl, hS6.lo⟩
theorem noSerB_no {l : Lt} (h : noSerB l = false) : usesB l.kind 10 = true ∧ (nzOf l = false ∨ (nzOf l = true ∧ (l.kind == 8) = false ∧ (l.scope == 1) = false)) := by
  unfold noSerB at h
  rw [Bool.or_eq_false_iff] at h
  obtain ⟨h1, h2⟩ := h
  refine ⟨by simpa using h1, ?_⟩
  cases hz : nzOf l with
  | false => exact .inl rfl
  | true =>
    rw [hz, Bool.true_and, Bool.or_eq_false_iff] at h2
    exact .inr ⟨rfl, by rw [beq_dec]; exact h2.1, by rw [beq_dec]; exact h2.2⟩
end Go.Proofs.YthhbbebabmemfaaGreat

/- append of a string to a row of bytes of one's own. -/
namespace Go.Proofs.YthhbbebabmemfaaGreat
open Go Go.RowKit

set_option maxRecDepth 10000 in
theorem run_app_str (w : World) (base : Nat) (ty : TypeId) (v : Value) (n : Nat) (xs : List Value) (hown : w.ownsRow base 5 1 v n xs) (s : ByteArray) (hlen : n + s.size ≤ 1000000000000) (hbase : base ≤ w.heap.size) :
    ∃ v' w', (Builtin.append_ #[22, 9] ty #[v, .string s]).run Tryz.prog w = .ok v' w' ∧ w'.ownsRow base 5 1 v' (n + s.size) (xs ++ Lib.strCells s) ∧ w.grownBy w' v.ownBlock ∧ (v'.ownBlock = v.ownBlock ∨ v'.ownBlock = some w.heap.size) := by
  obtain ⟨i0, hi, hz0, hz1, hz2⟩ := info_parts info_u8
  obtain ⟨v', w', hr, h2, h3, h4⟩ := Lib.run_append_own_string (P := Tryz.prog) w base 22 9 ty 5 i0 Tryz.underlying22 Tryz.underlying9 hi hz0 hz1 hz2 v n xs hown s (by unfold maxLen; omega) (by omega) hbase
  refine ⟨v', w', hr, h2, h3, ?_⟩
  have hxl : xs.length = n := by simpa using hown.1
  rcases hown.2 with ⟨rfl, rfl⟩ | ⟨g, cap, cur, rfl, hbg, hg, hnc, hcm, hcs, htake⟩
  · by_cases h0 : s.size = 0
    · left; rw [h4.2 ⟨rfl, h0⟩]
    · right
      have hr' := run_append_nil_string (P := Tryz.prog) w 22 9 ty 5 i0 (.int .u8 0) Tryz.underlying22 Tryz.underlying9 hi hz0 s (by omega) (by omega) (by rw [hz2]; omega)
      rw [hr] at hr'
      injection hr' with hv _
      rw [hv]; rfl
  · by_cases hroom : n + s.size ≤ cap
    · left
      have hr' := Lib.run_append_room_string (P := Tryz.prog) w 22 9 ty 5 i0 Tryz.underlying22 Tryz.underlying9 hi hz1 g n cap cur hg s hroom (by omega)
      rw [hr] at hr'
      injection hr' with hv _
      rw [hv]; rfl
    · right
      have holds : ∀ j u, xs[j]? = some u → w.cell? ((⟨g, 0, none⟩ : Addr).add j) = some u := hown.cells (g := g) rfl
      have hr' := Lib.run_append_grow_string (P := Tryz.prog) w 22 9 ty 5 i0 (.int .u8 0) Tryz.underlying22 Tryz.underlying9 hi hz0 ⟨g, 0, none⟩ n cap xs (by rw [hz1]; omega) holds s (by omega) (by omega) (by rw [hz2]; exact growslice_fits (by omega) (by omega))
      rw [hr] at hr'
      injection hr' with hv _
      rw [hv]; rfl
set_option maxRecDepth 10000 in
theorem wpList_app_str {ops : Array Oper} {rest : List Oper} {o : Oper} {a : Act} {Q : Exit → Act → World → Prop} {w : World} (hgd : o.guard = none) (sl x : Operand)
    (ho : o.op = .call { callee := .builtin .append, args := #[sl, x], argTypes := #[22, 9] }) (base : Nat) (v : Value) (n : Nat) (xs : List Value) (hs : a.eval sl = v) (hown : w.ownsRow base 5 1 v n xs) (s : ByteArray) (hx : a.eval x = .string s)
    (hlen : n + s.size ≤ 1000000000000) (hbase : base ≤ w.heap.size)
    (h : ∀ v' w', w'.ownsRow base 5 1 v' (n + s.size) (xs ++ Lib.strCells s) → w.grownBy w' v.ownBlock → (v'.ownBlock = v.ownBlock ∨ v'.ownBlock = some w.heap.size) → wpList Tryz.prog ops Q rest (a.put o.dst v') w') : wpList Tryz.prog ops Q (o :: rest) a w := by
  refine wpList_plain hgd fun K hK => ?_
  obtain ⟨v', w', hr, h2, h3, h4⟩ := run_app_str w base o.type v n xs hown s hlen hbase
  unfold Oper.wp execOp
  simp only [ho, resolve, invoke, builtin, Sem.run_bind, Sem.run_pure, Result.andThen_ok, List.map_toArray, List.map_cons, List.map_nil, hs, hx, hr]
  exact hK _ _ (h v' w' h2 h3 h4)
theorem step_app_str {ops : Array Oper} {o : Oper} {a : Act} {Q : Exit → Act → World → Prop} {K : Act → World → Prop} {E : Prop} {w : World} (hgd : o.guard = none) (sl x : Operand)
    (ho : o.op = .call { callee := .builtin .append, args := #[sl, x], argTypes := #[22, 9] }) (base : Nat) (v : Value) (n : Nat) (xs : List Value) (hs : a.eval sl = v) (hown : w.ownsRow base 5 1 v n xs) (s : ByteArray) (hx : a.eval x = .string s)
    (hlen : n + s.size ≤ 1000000000000) (hbase : base ≤ w.heap.size) (hpos : 0 < n + s.size)
    (h : ∀ g' cap' w', w'.ownsRow base 5 1 (.slice (some ⟨g', 0, none⟩) (n + s.size) cap') (n + s.size) (xs ++ Lib.strCells s) → w.grownBy w' v.ownBlock → ((Value.slice (some ⟨g', 0, none⟩) (n + s.size) cap').ownBlock = v.ownBlock ∨ (Value.slice (some ⟨g', 0, none⟩) (n + s.size) cap').ownBlock = some w.heap.size) → K (a.put o.dst (.slice (some ⟨g', 0, none⟩) (n + s.size) cap')) w') : if Region.wanted o (yielded ops a.tmps) = true then Oper.wp Tryz.prog o a w K Q else E := by
  have hw : Region.wanted o (yielded ops a.tmps) = true := by simp [Region.wanted, hgd]
  rw [if_pos hw]
  obtain ⟨v', w', hr, h2, h3, h4⟩ := run_app_str w base o.type v n xs hown s hlen hbase
  obtain ⟨g', cap', rfl, _⟩ := own_form h2 hpos
  unfold Oper.wp execOp
  simp only [ho, resolve, invoke, builtin, Sem.run_bind, Sem.run_pure, Result.andThen_ok, List.map_toArray, List.map_cons, List.map_nil, hs, hx, hr]
  exact h _ _ _ h2 h3 h4
theorem rconv_bytes (w : World) (bb off c : Nat) (s : ByteArray) (h : ∀ j, j < s.size → w.cell? ⟨bb, off + j, none⟩ = some (Extern.Stop.cell (s.data.toList[j]?.getD 0))) :
    (convert 22 9 (.slice (some ⟨bb, off, none⟩) s.size c)).run Tryz.prog w = .ok (.string s) w := by
  have e : strOfNums (s.data.toList.map fun (b : UInt8) => ((b.toNat : Nat) : Int)) = s := by
    unfold strOfNums
    rw [List.map_map]
    have : ((fun n : Int => UInt8.ofNat n.toNat) ∘ fun (b : UInt8) => ((b.toNat : Nat) : Int)) = id := by
      funext b
      simp
    rw [this, List.map_id]
  have hl : s.data.toList.length = s.size := Array.length_toList
  have hr := run_convert_bytes_arg (P := Tryz.prog) w 22 5 Tryz.underlying22 Tryz.underlying5 bb off s.size c (s.data.toList.map fun (b : UInt8) => ((b.toNat : Nat) : Int)) (by rw [List.length_map, hl]) (fun i hi => by
    rw [h i hi]
    have hx : s.data.toList[i]? = some s.data.toList[i] := List.getElem?_eq_getElem (by omega)
    rw [hx, List.getD_eq_getElem?_getD, List.getElem?_map, hx]
    rfl) 9 Tryz.underlying9
  rw [e] at hr
  exact hr
end Go.Proofs.YthhbbebabmemfaaGreat

/- (*series.writer).numbers: numbers of eight bytes each, appended. -/
namespace Go.Proofs.YthhbbebabmemfaaGreat
open Go Go.RowKit

/-- The series' writer at block g: the bytes written so far in a row of their own. -/
def SWt (w : World) (g : Nat) (v : Value) (bs : List UInt8) : Prop :=
  w.heap[g]? = some (.cells #[v] 126 (0, 0)) ∧ w.ownsRow (g + 1) 5 1 v bs.length (bs.map Extern.Stop.cell)
/-- Bytes more, stored back. -/
theorem swt_app {w W w1 : World} {g m : Nat} {v v' : Value} {bs xs : List UInt8} (h : SWt w g v bs) (hg : g < w.heap.size) (hs : w.heap.size ≤ W.heap.size) (hW : ∀ k, k < w.heap.size → W.heap[k]? = w.heap[k]?) (h1 : W.os = w.os) (h2 : W.tape = w.tape) (h3 : W.output = w.output)
    (hm : m = bs.length + xs.length) (hown : w1.ownsRow (g + 1) 5 1 v' m (bs.map Extern.Stop.cell ++ xs.map Extern.Stop.cell)) (hgrow : W.grownBy w1 v.ownBlock)
    (hat : v'.ownBlock = v.ownBlock ∨ ∃ b, v'.ownBlock = some b ∧ w.heap.size ≤ b) :
    w1.heap[g]? = some (.cells #[v] 126 (0, 0)) ∧ SWt (w1.setCell ⟨g, 0, none⟩ v') g v' (bs ++ xs) ∧ WKeep g v w v' (w1.setCell ⟨g, 0, none⟩ v') := by
  subst hm
  have hne : some g ≠ v.ownBlock := own_ge h.2 g (Nat.lt_succ_self g)
  have hg1 : w1.heap[g]? = some (.cells #[v] 126 (0, 0)) := by
    rw [hgrow.block g (by omega) hne, hW g hg]; exact h.1
  refine ⟨hg1, ⟨?_, ?_⟩, ?_⟩
  · rw [heap_setCell_same w1 g 0 _ _ v' hg1]; rfl
  · have := ownsRow_far (u := v') (p := ⟨g, 0, none⟩) hown (own_ge hown g (Nat.lt_succ_self g))
    simpa using this
  · refine ⟨hgrow.os.trans h1, hgrow.tape.trans h2, hgrow.output.trans h3, ?_, fun k hk hkg hkv => ?_, hat⟩
    · have := hgrow.size; simp [World.setCell]; omega
    · rw [heap_setCell_other w1 _ k v' hkg, hgrow.block k (by omega) hkv, hW k hk]
/-- Numbers in memory that is neither the writer nor the row of its bytes. -/
def IntsFar (w : World) (g : Nat) (v : Value) (A : Option Addr) (zs : List Int) : Prop :=
  zs.length = 0 ∨ ∃ b off, A = some ⟨b, off, none⟩ ∧ b < w.heap.size ∧ b ≠ g ∧ some b ≠ v.ownBlock ∧ ∀ j, j < zs.length → w.cell? ⟨b, off + j, none⟩ = some (I (zs[j]?.getD 0))
theorem IntsFar.next {w w' : World} {g : Nat} {v v' : Value} {A : Option Addr} {zs : List Int} (h : IntsFar w g v A zs) (k : WKeep g v w v' w') : IntsFar w' g v' A zs := by
  rcases h with h | ⟨b, off, h1, h2, h3, h4, h5⟩
  · exact .inl h
  · refine .inr ⟨b, off, h1, Nat.lt_of_lt_of_le h2 k.size, h3, ?_, fun j hj => (World.cell?_of_block (a := ⟨b, off + j, none⟩) (k.block b h2 h3 h4)).trans (h5 j hj)⟩
    rcases k.own with e | ⟨c, e, hc⟩
    · rw [e]; exact h4
    · rw [e]; intro e'; injection e' with e'; omega
theorem IntsAt.far {w : World} {g B : Nat} {v : Value} {bs : List UInt8} {A : Option Addr} {zs : List Int} (h : IntsAt w B A zs) (hB : B ≤ g) (hg : g < w.heap.size) (hst : SWt w g v bs) : IntsFar w g v A zs := by
  rcases h with h | ⟨b, off, h1, h2, h3⟩
  · exact .inl h
  · exact .inr ⟨b, off, h1, by omega, by omega, own_ge hst.2 b (by omega), h3⟩
def leAll (zs : List Int) : List UInt8 := zs.flatMap fun z => le z 8
theorem leAll_snoc (zs : List Int) (z : Int) : leAll (zs ++ [z]) = leAll zs ++ le z 8 := by simp [leAll]
theorem leAll_length (zs : List Int) : (leAll zs).length = 8 * zs.length := by
  induction zs with
  | nil => rfl
  | cons z zs ih => unfold leAll at ih ⊢; rw [List.flatMap_cons, List.length_append, ih, le_length, List.length_cons]; omega
theorem byte_at (z : Int) (j : Nat) (hj : j < 8) (_hz : fits z) : Value.int .u8 (IntKind.u8.wrap (IntKind.u64.wrap z / 2 ^ (8 * (j : Int)).toNat)) = Extern.Stop.cell (byteOf (shiftBy z j)) := by
  rw [byteOf_cell]
  have h : j = 0 ∨ j = 1 ∨ j = 2 ∨ j = 3 ∨ j = 4 ∨ j = 5 ∨ j = 6 ∨ j = 7 := by omega
  congr 1
  rw [IntKind.wrap_u8, show IntKind.u64.wrap z = z % 18446744073709551616 by simp [IntKind.wrap, IntKind.bits, IntKind.signed]]
  rcases h with rfl | rfl | rfl | rfl | rfl | rfl | rfl | rfl <;> simp only [shiftBy]
  · show z % 18446744073709551616 / 1 % 256 = _; omega
  · show z % 18446744073709551616 / 256 % 256 = _; omega
  · show z % 18446744073709551616 / 65536 % 256 = _; omega
  · show z % 18446744073709551616 / 16777216 % 256 = _; omega
  · show z % 18446744073709551616 / 4294967296 % 256 = _; omega
  · show z % 18446744073709551616 / 1099511627776 % 256 = _; omega
  · show z % 18446744073709551616 / 281474976710656 % 256 = _; omega
  · show z % 18446744073709551616 / 72057594037927936 % 256 = _; omega
def SNum (w : World) (g : Nat) (v : Value) (bs : List UInt8) (e : Ending) (w' : World) : Prop :=
  e = .returned (.tuple #[]) ∧ ∃ v', SWt w' g v' bs ∧ WKeep g v w v' w'
def SnRel (w : World) (g : Nat) (v : Value) (bs : List UInt8) (zs : List Int) (n : Nat) (i : Value) (wr : World) : Prop :=
  ∃ k : Nat, k ≤ n ∧ i = I k ∧ ∃ v', SWt wr g v' (bs ++ leAll (zs.take k)) ∧ WKeep g v w v' wr
def SnRel2 (w : World) (g : Nat) (v : Value) (bs : List UInt8) (z : Int) (sh : Value) (wr : World) : Prop :=
  ∃ k : Nat, k ≤ 8 ∧ sh = I (8 * k) ∧ ∃ v', SWt wr g v' (bs ++ le z k) ∧ WKeep g v w v' wr
set_option maxRecDepth 10000 in
set_option maxHeartbeats 2000000 in
theorem snumbers_any (w : World) (g : Nat) (v : Value) (bs : List UInt8) (A : Option Addr) (n c : Nat) (zs : List Int) (hn : zs.length = n) (hA : IntsFar w g v A zs) (hfit : ∀ j, j < zs.length → fits (zs[j]?.getD 0)) (hl : bs.length ≤ 1000000000) (hn2 : n ≤ 1000000) (hg : g < w.heap.size) (hst : SWt w g v bs) :
    Calls Tryz.prog 71 #[.pointer (some ⟨g, 0, none⟩), .slice A n c] w (SNum w g v (bs ++ leAll zs)) := by
  obtain ⟨i0, hi, hz0, hz1, hz2⟩ := info_parts info_u8
  have HST := Lib.hid hst
  have HA := Lib.hid hA
  have HF := Lib.hid hfit
  have HN := Lib.hid hn
  clear hst hA hfit hn
  go_enter Tryz.func71, Tryz.ntmps71
  go_wp2_with fail
  go_loopw [9] (fun i wr => SnRel w g v bs zs n i wr) (fun i _ => n - (intOf i).toNat)
  case atStart => exact ⟨0, Nat.zero_le _, rfl, v, by simpa [leAll] using HST.out, WKeep.refl _ _ _⟩
  case round =>
    obtain ⟨k, hk, rfl, v1, hw1, hk1⟩ := hrel
    have HW := Lib.hid hw1
    have HK := Lib.hid hk1
    clear hw1 hk1
    by_cases hlt : (k : Int) < (n : Int)
    · have i0' : (0 : Int) ≤ (k : Int) := by omega
      have hcell : ∃ b off, A = some ⟨b, off, none⟩ ∧ wr.cell? ⟨b, off + k, none⟩ = some (I (zs[k]?.getD 0)) := by
        rcases HA.out.next HK.out with h | ⟨b, off, h1, _, _, _, h3⟩
        · have := HN.out; omega
        · exact ⟨b, off, h1, h3 k (by have := HN.out; omega)⟩
      obtain ⟨b, off, rfl, hck⟩ := hcell
      obtain ⟨z, hz⟩ : ∃ z, zs[k]?.getD 0 = z := ⟨_, rfl⟩
      have hfz : fits z := by rw [← hz]; exact HF.out k (by have := HN.out; omega)
      rw [hz] at hck
      have HZ := Lib.hid hz
      have HFZ := Lib.hid hfz
      clear hz hfz
      go_wp2_with fail
      obtain ⟨wo, hwo⟩ : ∃ wo : World, wr = wo := ⟨_, rfl⟩
      rw [hwo] at HW HK hck ⊢
      clear hwo
      obtain ⟨B, hB⟩ : ∃ B, bs ++ leAll (zs.take k) = B := ⟨_, rfl⟩
      have hBl : B.length ≤ 1008000000 := by rw [← hB, List.length_append, leAll_length, List.length_take]; omega
      rw [hB] at HW
      have HB := Lib.hid hB
      have hgo : g < wo.heap.size := Nat.lt_of_lt_of_le hg HK.out.size
      clear hB
      go_loopw [6] (fun sh wr => SnRel2 wo g v1 B z sh wr) (fun sh _ => 64 - (intOf sh).toNat)
      case atStart => exact ⟨0, by omega, rfl, v1, by simpa [le] using HW.out, WKeep.refl _ _ _⟩
      case round =>
        obtain ⟨j, hj, rfl, v2, hw2, hk2⟩ := hrel
        have HW2 := Lib.hid hw2
        have HK2 := Lib.hid hk2
        have hgr : g < wr.heap.size := Nat.lt_of_lt_of_le hgo hk2.size
        have hc := cell_of_row wr g 0 _ _ _ hw2.1
        clear hw2 hk2
        by_cases hjl : 8 * (j : Int) < 64
        · have HO := Lib.hid HW2.out.2
          go_wp2_with fail
          have HBY := Lib.hid (byte_at z j (by omega) HFZ.out)
          have hlen : (B ++ le z j).length ≤ 1008000008 := by rw [List.length_append, le_length]; omega
          obtain ⟨B2, hB2⟩ : ∃ B2, B ++ le z j = B2 := ⟨_, rfl⟩
          rw [hB2] at HO hlen HW2
          have HB2 := Lib.hid hB2
          clear hB2
          go_region_law (refine step_append_lies _ (by rfl) _ _ _ (by rfl) (g + 1) 5 i0 (.int .u8 0) 1 1 Tryz.underlying22 hi hz0 hz1 hz2 rfl (by omega) v2 B2.length (B2.map Extern.Stop.cell) (by rfl) (HO.out.drew.alloc _) ⟨wr.heap.size, 0, none⟩ 1 1 [Value.int .u8 (IntKind.u8.wrap (IntKind.u64.wrap z / 2 ^ (8 * (j : Int)).toNat))] (by rfl) rfl (cell_one_new _ _ _) (by intro u hu; simp at hu; subst hu; rfl) (by omega) (by unfold maxLen; omega) (by omega) (by simp; omega) _ rfl ?_; intro gg cap w6 hown6 hgrow6 hat6 hlt6; have hS := swt_app (m := B2.length + 1) (v' := .slice (some ⟨gg, 0, none⟩) (B2.length + 1) cap) (xs := [byteOf (shiftBy z j)]) HW2.out hgr (by simp) (fun k hk => Below.heap_alloc wr.drew _ k hk) rfl rfl rfl rfl (by rw [HBY.out] at hown6; exact hown6) hgrow6 (hat6.elim (fun e => .inl e.symm) (fun e => .inr ⟨gg, rfl, by rw [e]; simp⟩)); have HSS := Lib.hid hS; have hc6 : w6.cell? ⟨g, 0, none⟩ = some v2 := cell_of_row w6 g 0 _ _ _ hS.1; have hf6 := frozen_of_row w6 g 0 _ _ hS.1; clear hown6 hgrow6 hat6 hS)
          all_goals
            go_wp2_with fail
            go_roundw
            case rel => exact ⟨j + 1, by omega, by go_num, _, by rw [le_snoc, ← List.append_assoc, HB2.out]; exact HSS.out.2.1, HK2.out.trans HSS.out.2.2⟩
            case measure => simp [intOf]; omega
        · have hj8 : j = 8 := by omega
          have HJ := Lib.hid hj8
          clear hj8
          go_wp2_with fail
          go_roundw
          case rel =>
            refine ⟨k + 1, by omega, by go_num, v2, ?_, HK.out.trans HK2.out⟩
            have h := HW2.out
            rw [HJ.out, ← HB.out, ← HZ.out, List.append_assoc, ← leAll_snoc, ← take_snoc' zs k (by have := HN.out; omega)] at h
            exact h
          case measure => simp [intOf]; omega
    · have hke : k = n := by omega
      have HKE := Lib.hid hke
      clear hke
      go_wp2_with fail
      go_end0
      refine ⟨rfl, v1, ?_, HK.out⟩
      have h := HW.out
      rw [HKE.out, ← HN.out, List.take_length] at h
      exact h
end Go.Proofs.YthhbbebabmemfaaGreat

/- (*series.writer).text: a string's length and its bytes, appended. -/
namespace Go.Proofs.YthhbbebabmemfaaGreat
open Go Go.RowKit

theorem SWt.alloc {w : World} {g : Nat} {v : Value} {bs : List UInt8} (h : SWt w g v bs) (hg : g < w.heap.size) (o : Obj) : SWt (w.alloc o) g v bs ∧ WKeep g v w v (w.alloc o) :=
  ⟨⟨(Below.heap_alloc w o g hg).trans h.1, h.2.alloc o⟩, ⟨rfl, rfl, rfl, by simp, fun k hk _ _ => Below.heap_alloc w o k hk, .inl rfl⟩⟩
theorem ints_new {w : World} {g : Nat} {v : Value} {bs : List UInt8} (h : SWt w g v bs) (hg : g < w.heap.size) (zs : List Int) : IntsFar (w.alloc (.cells (zs.map I).toArray 3)) g v (some ⟨w.heap.size, 0, none⟩) zs := by
  refine .inr ⟨w.heap.size, 0, rfl, by simp, by omega, fun e => ?_, fun j hj => ?_⟩
  · have := own_lt h.2 w.heap.size e.symm; omega
  · rw [(Row.new w _ _).2 (0 + j)]
    simp [List.getElem?_eq_getElem hj]
/-- numbers of a list that was just made. -/
theorem snumbers_new (w : World) (g : Nat) (v : Value) (bs : List UInt8) (zs : List Int) (hfit : ∀ z ∈ zs, fits z) (hl : bs.length ≤ 1000000000) (hn2 : zs.length ≤ 1000000) (hg : g < w.heap.size) (hst : SWt w g v bs) :
    Calls Tryz.prog 71 #[.pointer (some ⟨g, 0, none⟩), .slice (some ⟨w.heap.size, 0, none⟩) zs.length zs.length] (w.alloc (.cells (zs.map I).toArray 3)) fun e w' => e = .returned (.tuple #[]) ∧ ∃ v', SWt w' g v' (bs ++ leAll zs) ∧ WKeep g v w v' w' := by
  obtain ⟨h1, h2⟩ := hst.alloc hg (.cells (zs.map I).toArray 3)
  refine (snumbers_any _ g v bs _ zs.length zs.length zs rfl (ints_new hst hg zs) (fun j hj => ?_) hl hn2 (by simp; omega) h1).mono fun e w' ⟨he, v', h3, h4⟩ => ⟨he, v', h3, h2.trans h4⟩
  rw [List.getElem?_eq_getElem hj]
  exact hfit _ (List.getElem_mem hj)
def textBytes (s : ByteArray) : List UInt8 := le s.size 8 ++ s.data.toList
theorem leAll_one (z : Int) : leAll [z] = le z 8 := by simp [leAll]
set_option maxRecDepth 10000 in
set_option maxHeartbeats 2000000 in
theorem stext_any (w : World) (g : Nat) (v : Value) (bs : List UInt8) (s : ByteArray) (hs : s.size ≤ 1000000) (hl : bs.length ≤ 900000000) (hg : g < w.heap.size) (hst : SWt w g v bs) :
    Calls Tryz.prog 72 #[.pointer (some ⟨g, 0, none⟩), .string s] w (SNum w g v (bs ++ textBytes s)) := by
  have HC := Lib.hid (snumbers_new w g v bs [(s.size : Int)] (by intro z hz; rw [List.mem_singleton.1 hz]; unfold fits; omega) (by omega) (by simp) hg hst)
  clear hst
  go_enter Tryz.func72, Tryz.ntmps72
  go_wp2_with fail
  refine HC.out.mono ?_
  rintro e w1 ⟨rfl, v1, hw1, hk1⟩
  rw [leAll_one] at hw1
  have hlen : (bs ++ le (s.size : Int) 8).length ≤ 900000008 := by rw [List.length_append, le_length]; omega
  obtain ⟨B, hB⟩ : ∃ B, bs ++ le (s.size : Int) 8 = B := ⟨_, rfl⟩
  rw [hB] at hw1 hlen
  have HB := Lib.hid hB
  have HW := Lib.hid hw1
  have HK := Lib.hid hk1
  have hc1 := cell_of_row w1 g 0 _ _ _ hw1.1
  have hg1 : g < w1.heap.size := Nat.lt_of_lt_of_le hg hk1.size
  clear hB hw1 hk1 HC
  go_wp2_with (at_builtin; refine wpList_app_str rfl _ _ rfl (g + 1) v1 B.length (B.map Extern.Stop.cell) rfl HW.out.2 s rfl ?c1 ?c2 ?_)
  case c1 => omega
  case c2 => omega
  intro v' w2 hown hgrow hat
  have hS := swt_app (m := B.length + s.size) (xs := s.data.toList) HW.out hg1 (Nat.le_refl _) (fun k _ => rfl) rfl rfl rfl (by rw [Array.length_toList]; rfl) hown hgrow (hat.elim .inl fun e => .inr ⟨_, e, Nat.le_refl _⟩)
  have hf : ∃ g' cap', v' = .slice (some ⟨g', 0, none⟩) (B.length + s.size) cap' := by
    have hb8 : B.length = bs.length + 8 := by rw [← HB.out, List.length_append, le_length]
    obtain ⟨g', cap', h, _⟩ := own_form hown (by omega)
    exact ⟨g', cap', h⟩
  obtain ⟨g', cap', rfl⟩ := hf
  have HSS := Lib.hid hS
  have hc2 : w2.cell? ⟨g, 0, none⟩ = some v1 := cell_of_row w2 g 0 _ _ _ hS.1
  have hf2 := frozen_of_row w2 g 0 _ _ hS.1
  clear hown hgrow hat hS hc1
  go_wp2_with fail
  go_end0
  exact ⟨rfl, _, by unfold textBytes; rw [← List.append_assoc, HB.out]; exact HSS.out.2.1, HK.out.trans HSS.out.2.2⟩
end Go.Proofs.YthhbbebabmemfaaGreat

/- series.Bytes of a series that is sound: its bytes. -/
namespace Go.Proofs.YthhbbebabmemfaaGreat
open Go Go.RowKit

def ndNums (d : Nd) : List Int := [d.kind, d.cal, d.l, d.r, d.n, d.m, (d.list.length : Int)]
def ndBytes (d : Nd) : List UInt8 := leAll (ndNums d) ++ (leAll d.list ++ textBytes d.name)
def mvNums (m : Mv) : List Int := [m.day, if m.drop then 1 else 0, m.toDay, m.minute, m.length]
def seHead (se : Ser) : List UInt8 := leAll [(se.rule.length : Int)]
def seMid (se : Ser) : List UInt8 := leAll [se.minute, se.length] ++ (textBytes se.zone ++ leAll [se.gap, se.fold, (se.moves.length : Int)])
def seMoves (ms : List Mv) : List UInt8 := ms.flatMap fun m => leAll (mvNums m)
def seRule (ds : List Nd) : List UInt8 := ds.flatMap ndBytes
def seBytes (se : Ser) : List UInt8 := (seHead se ++ seRule se.rule) ++ (seMid se ++ seMoves se.moves)
/-- Numbers that fit, short lists. -/
structure NdFit (d : Nd) : Prop where
  nums : ∀ z ∈ ndNums d, fits z
  list : ∀ z ∈ d.list, fits z
  len : d.list.length ≤ 64
  name : d.name.size ≤ 32
theorem NodeOK.fit {i : Nat} {d : Nd} (h : NodeOK i d.kind.toNat d) (hi : i ≤ 100000) : NdFit d := by
  obtain ⟨h1, h2, h3, h4, h5, h6, h7, h8, h9, h10⟩ := h
  have q : -1099511627776 ≤ d.n ∧ d.n ≤ 1099511627776 ∧ -1099511627776 ≤ d.m ∧ d.m ≤ 1099511627776 ∧ (d.kind = 7 → 0 ≤ d.l ∧ d.l ≤ 1) := by
    clear h1 h2 h3 h4 h5 h6 h7 h8 h9
    unfold NumsOK at h10
    omega
  obtain ⟨q1, q2, q3, q4, q5⟩ := q
  have q6 : 0 ≤ d.l ∧ d.l ≤ 100001 := by
    rcases h5 with ⟨_, a, b⟩ | ⟨_, a | a⟩
    · omega
    · omega
    · have := q5 (by omega); omega
  have q7 : 0 ≤ d.r ∧ d.r ≤ 100001 := by rcases h6 with ⟨_, a, b⟩ | ⟨_, a⟩ <;> omega
  have q8 : 0 ≤ d.cal ∧ d.cal ≤ 2 := by rcases h7 with ⟨_, a, b⟩ | ⟨_, a⟩ <;> omega
  have q9 : 1 ≤ d.kind ∧ d.kind ≤ 18 := by omega
  clear h5 h6 h7 h10
  refine ⟨?_, ?_, h4, ?_⟩
  · intro z hz
    unfold ndNums at hz
    simp only [List.mem_cons, List.not_mem_nil, or_false] at hz
    unfold fits
    clear h9 h8
    rcases hz with rfl | rfl | rfl | rfl | rfl | rfl | rfl <;> omega
  · intro z hz
    rcases h9 with ⟨_, _, h⟩ | ⟨_, h⟩
    · rw [h] at hz; cases hz
    · have hb : ∀ k : Nat, k < 19 → -1099511627776 ≤ shLo k ∧ shHi k ≤ 1099511627776 := by decide +kernel
      have := hb d.kind.toNat (by omega)
      have := h.rng z hz
      unfold fits
      omega
  · rcases h8 with ⟨_, hn⟩ | ⟨_, hn⟩
    · exact hn.2.1
    · rw [hn]; decide
theorem WKeep.low {g : Nat} {v v' : Value} {w w' : World} {bs : List UInt8} (h : WKeep g v w v' w') (hst : SWt w g v bs) (hg : g < w.heap.size) : Below g w w' :=
  ⟨h.os, h.tape, h.output, h.size, fun k hk => h.block k (by omega) (by omega) (own_ge hst.2 k (by omega))⟩
theorem far_new {w : World} {g : Nat} {v : Value} {bs : List UInt8} (h : SWt w g v bs) (hg : g < w.heap.size) (cs : Array Value) (t : TypeId) : Far (w.alloc (.cells cs t)) g v w.heap.size cs :=
  ⟨Row.new w cs t, by omega, fun e => by have := own_lt h.2 w.heap.size e.symm; omega⟩
theorem ndNums_cells (d : Nd) : #[I d.kind, I d.cal, I d.l, I d.r, I d.n, I d.m, I (d.list.length : Int)] = ((ndNums d).map I).toArray := rfl
theorem seRule_snoc (ds : List Nd) (d : Nd) : seRule (ds ++ [d]) = seRule ds ++ ndBytes d := by simp [seRule]
theorem seMoves_snoc (ms : List Mv) (m : Mv) : seMoves (ms ++ [m]) = seMoves ms ++ leAll (mvNums m) := by simp [seMoves]
theorem ndBytes_len {d : Nd} (h : NdFit d) : (ndBytes d).length ≤ 1000 := by
  unfold ndBytes textBytes
  rw [List.length_append, List.length_append, List.length_append, leAll_length, leAll_length, le_length]
  have h1 := h.len
  have h2 : d.name.data.size ≤ 32 := h.name
  have h3 : (ndNums d).length = 7 := rfl
  rw [h3]
  have h4 : d.name.data.toList.length = d.name.data.size := Array.length_toList
  omega
theorem seRule_len {ds : List Nd} (h : ∀ d ∈ ds, NdFit d) : (seRule ds).length ≤ 1000 * ds.length := by
  induction ds with
  | nil => exact Nat.le_refl _
  | cons d ds ih =>
    have := ih fun x hx => h x (List.mem_cons_of_mem _ hx)
    have := ndBytes_len (h d List.mem_cons_self)
    unfold seRule at *
    rw [List.flatMap_cons, List.length_append, List.length_cons]
    omega
theorem seMoves_len (ms : List Mv) : (seMoves ms).length = 40 * ms.length := by
  induction ms with
  | nil => rfl
  | cons m ms ih => unfold seMoves at *; rw [List.flatMap_cons, List.length_append, List.length_cons, ih, leAll_length]; show 8 * 5 + _ = _; omega
/-- The writer under way: the series' box and everything older than the writer as they were. -/
structure SwS (w : World) (g : Nat) (sc : Array Value) (v : Value) (bs : List UInt8) (W : World) : Prop where
  st : SWt W g v bs
  box : Row W w.heap.size sc
  lo : Below w.heap.size w W
  wg : w.heap.size < g
  gl : g < W.heap.size
theorem SwS.next {w W W' : World} {g : Nat} {sc : Array Value} {v v' : Value} {bs bs' : List UInt8} (h : SwS w g sc v bs W) (hs : SWt W' g v' bs') (hk : WKeep g v W v' W') : SwS w g sc v' bs' W' := by
  have hl := hk.low h.st h.gl
  refine ⟨hs, ⟨Nat.lt_of_lt_of_le h.box.1 hk.size, fun i => (hl.cell (p := ⟨w.heap.size, i, none⟩) h.wg).trans (h.box.2 i)⟩, ?_, h.wg, Nat.lt_of_lt_of_le h.gl hk.size⟩
  exact ⟨hl.os.trans h.lo.os, hl.tape.trans h.lo.tape, hl.output.trans h.lo.output, Nat.le_trans h.lo.size hl.size, fun k hk => (hl.block k (by have := h.wg; omega)).trans (h.lo.block k hk)⟩
theorem SwS.more {w W : World} {g : Nat} {sc : Array Value} {v : Value} {bs : List UInt8} (h : SwS w g sc v bs W) (o : Obj) : SwS w g sc v bs (W.alloc o) :=
  have ⟨h1, h2⟩ := h.st.alloc h.gl o
  h.next h1 h2
/-- numbers of a list that was just made: as the writer goes on. -/
theorem SwS.nums {w W : World} {g : Nat} {sc : Array Value} {v : Value} {bs : List UInt8} (h : SwS w g sc v bs W) (zs : List Int) (H m : Nat) (hH : W.heap.size = H) (hm : zs.length = m) (hfit : ∀ z ∈ zs, fits z) (hl : bs.length ≤ 100000000) (hn : zs.length ≤ 1000) :
    Calls Tryz.prog 71 #[.pointer (some ⟨g, 0, none⟩), .slice (some ⟨H, 0, none⟩) m m] (W.alloc (.cells (zs.map I).toArray 3)) fun e W' => e = .returned (.tuple #[]) ∧ ∃ v', WKeep g v W v' W' ∧ SwS w g sc v' (bs ++ leAll zs) W' :=
  hH ▸ hm ▸ (snumbers_new W g v bs zs hfit (by omega) (by omega) h.gl h.st).mono fun _ _ ⟨he, v', h1, h2⟩ => ⟨he, v', h2, h.next h1 h2⟩
theorem SwS.list {w W : World} {g : Nat} {sc : Array Value} {v : Value} {bs : List UInt8} (h : SwS w g sc v bs W) (A : Option Addr) (c : Nat) (zs : List Int) (hA : IntsAt w w.heap.size A zs) (hfit : ∀ z ∈ zs, fits z) (hl : bs.length ≤ 100000000) (hn : zs.length ≤ 1000) :
    Calls Tryz.prog 71 #[.pointer (some ⟨g, 0, none⟩), .slice A zs.length c] W fun e W' => e = .returned (.tuple #[]) ∧ ∃ v', WKeep g v W v' W' ∧ SwS w g sc v' (bs ++ leAll zs) W' :=
  (snumbers_any W g v bs A zs.length c zs rfl (IntsAt.far (hA.keep h.lo) (by have := h.wg; omega) h.gl h.st) (fun j hj => by rw [List.getElem?_eq_getElem hj]; exact hfit _ (List.getElem_mem hj)) (by omega) (by omega) h.gl h.st).mono
    fun _ _ ⟨he, v', h1, h2⟩ => ⟨he, v', h2, h.next h1 h2⟩
theorem SwS.text {w W : World} {g : Nat} {sc : Array Value} {v : Value} {bs : List UInt8} (h : SwS w g sc v bs W) (s : ByteArray) (hs : s.size ≤ 1000) (hl : bs.length ≤ 100000000) :
    Calls Tryz.prog 72 #[.pointer (some ⟨g, 0, none⟩), .string s] W fun e W' => e = .returned (.tuple #[]) ∧ ∃ v', WKeep g v W v' W' ∧ SwS w g sc v' (bs ++ textBytes s) W' :=
  (stext_any W g v bs s (by omega) (by omega) h.gl h.st).mono fun _ _ ⟨he, v', h1, h2⟩ => ⟨he, v', h2, h.next h1 h2⟩
/-- What series.Bytes gives: its bytes in a row of the call's own. -/
def SbPost (w : World) (bs : List UInt8) (e : Ending) (w' : World) : Prop :=
  ∃ v, e = .returned (.tuple #[v, I 0]) ∧ w'.ownsRow w.heap.size 5 1 v bs.length (bs.map Extern.Stop.cell) ∧ Below w.heap.size w w'
def SbRel (w : World) (g : Nat) (sc : Array Value) (hd : List UInt8) (ds : List Nd) (n : Nat) (i : Value) (wr : World) : Prop :=
  ∃ k : Nat, k ≤ n ∧ i = I k ∧ ∃ v, SwS w g sc v (hd ++ seRule (ds.take k)) wr
def SbRel2 (w : World) (g : Nat) (sc : Array Value) (hd : List UInt8) (ms : List Mv) (n : Nat) (i : Value) (wr : World) : Prop :=
  ∃ k : Nat, k ≤ n ∧ i = I k ∧ ∃ v, SwS w g sc v (hd ++ seMoves (ms.take k)) wr
theorem nd_old {w wr : World} {A : Option Addr} {ns : List NdV} {n k : Nat} (hA : RulesAt w w.heap.size A ns) (hl : ns.length = n) (hb : Below w.heap.size w wr) (hk : k < n) :
    ∃ b x, A = some ⟨b, 0, none⟩ ∧ ns[k]? = some x ∧ b < w.heap.size ∧ wr.rangeAt b (k * 8) (ndCells x.d x.A x.c).toList ∧ IntsAt w w.heap.size x.A x.d.list := by
  rcases hA with h | ⟨b, h1, h2, h3⟩
  · omega
  have hx : ns[k]? = some ns[k] := List.getElem?_eq_getElem (by omega)
  obtain ⟨p1, p2, _⟩ := h3 k _ hx
  exact ⟨b, ns[k], h1, hx, h2, rangeAt_keep p1 hb h2, p2⟩
theorem mv_old {w wr : World} {B : Option Addr} {ms : List Mv} {n k : Nat} (hB : MovesAt w w.heap.size B ms) (hl : ms.length = n) (hb : Below w.heap.size w wr) (hk : k < n) :
    ∃ b m, B = some ⟨b, 0, none⟩ ∧ b < w.heap.size ∧ ms[k]? = some m ∧ wr.rangeAt b (k * 5) (mvCells m).toList := by
  rcases hB with h | ⟨b, h1, h2, h3⟩
  · omega
  have hx : ms[k]? = some ms[k] := List.getElem?_eq_getElem (by omega)
  exact ⟨b, ms[k], h1, h2, hx, rangeAt_keep (h3 k _ hx) hb h2⟩
set_option maxRecDepth 10000 in
set_option maxHeartbeats 4000000 in
theorem sbytes_any (s : Ser) (A B : Option Addr) (c e n mn : Nat) (ns : List NdV) (w : World) (hA : RulesAt w w.heap.size A ns) (hl : ns.length = n) (hd : s.rule = ns.map (·.d)) (hfit : ∀ d ∈ s.rule, NdFit d) (hn : n ≤ 64) (hB : MovesAt w w.heap.size B s.moves) (hml : s.moves.length = mn) (h : SerGood s)
    (hsound : ∀ w', Below w.heap.size w w' → Calls Tryz.prog 60 #[.agg #[.slice A n c, I s.minute, I s.length, .string s.zone, I s.gap, I s.fold, .slice B mn e]] w' (Gives (.bool true) w')) :
    Calls Tryz.prog 48 #[.agg #[.slice A n c, I s.minute, I s.length, .string s.zone, I s.gap, I s.fold, .slice B mn e]] w (SbPost w (seBytes s)) := by
  obtain ⟨sc, hsc⟩ : ∃ sc : Array Value, #[.slice A n c, I s.minute, I s.length, .string s.zone, I s.gap, I s.fold, .slice B mn e] = sc := ⟨_, rfl⟩
  have HX0 := Lib.hid (Row.new w #[.slice A n c, I s.minute, I s.length, .string s.zone, I s.gap, I s.fold, .slice B mn e] 31)
  have HB0 := Lib.hid (below_var w (.cells #[.slice A n c, I s.minute, I s.length, .string s.zone, I s.gap, I s.fold, .slice B mn e] 31))
  have HSD := Lib.hid hsound
  have HA := Lib.hid hA
  have HB := Lib.hid hB
  have HG := Lib.hid h
  have HD := Lib.hid hd
  have HF := Lib.hid hfit
  have HL := Lib.hid hl
  have HML := Lib.hid hml
  have hmn : mn ≤ 64 := by rw [← hml]; exact h.ml
  have g0 := HX0.out.2
  clear hA hB hd hfit hl hml h hsound hsc
  go_enter Tryz.func48, Tryz.ntmps48
  go_wp2_with fail
  refine (HSD.out _ HB0.out).mono ?_
  rintro e1 w1 ⟨rfl, hb1⟩
  have HS1 : Hid (SwS w w1.heap.size #[.slice A n c, I s.minute, I s.length, .string s.zone, I s.gap, I s.fold, .slice B mn e] (.slice none 0 0) [] (w1.alloc (.cells #[.slice none 0 0] 126))) := Lib.hid (by
    have h1 := HX0.out.keep hb1
    have h2 := below_var w1 (.cells #[.slice none 0 0] 126)
    exact ⟨⟨heap_alloc_last w1 _, World.ownsRow_nil _ _ _ _⟩, h1.keep h2, below_trans (below_trans HB0.out hb1) h2, h1.1, by simp⟩)
  obtain ⟨g, hg⟩ : ∃ g, w1.heap.size = g := ⟨_, rfl⟩
  have HGG := Lib.hid hg
  rw [hg] at HS1
  have g1 := HS1.out.box.2
  have f1 : fits (n : Int) := by unfold fits; omega
  obtain ⟨g', hg'⟩ : ∃ g', (w1.alloc (.cells #[.slice none 0 0] 126)).heap.size = g' := ⟨_, rfl⟩
  clear hb1 HSD HX0 HB0 g0
  go_wp2_with fail
  refine (HS1.out.nums [(n : Int)] g' 1 hg' rfl (by intro z hz; rw [List.mem_singleton.1 hz]; exact f1) (by simp) (by simp)).mono ?_
  rintro e2 w2 ⟨rfl, v2, -, hs2⟩
  rw [List.nil_append] at hs2
  have HS2 := Lib.hid hs2
  have g2 := hs2.box.2
  clear hs2 HS1 g1
  go_wp2_with fail
  go_loopw [24] (fun i wr => SbRel w g #[.slice A n c, I s.minute, I s.length, .string s.zone, I s.gap, I s.fold, .slice B mn e] (leAll [(n : Int)]) s.rule n i wr) (fun i _ => n - (intOf i).toNat)
  case atStart => exact ⟨0, Nat.zero_le _, rfl, v2, by simpa [seRule] using HS2.out⟩
  case round =>
    obtain ⟨k, hk, rfl, v3, hs3⟩ := hrel
    have HS3 := Lib.hid hs3
    clear hs3 HS2 g2
    by_cases hlt : (k : Int) < (n : Int)
    · have i0 : (0 : Int) ≤ (k : Int) := by omega
      obtain ⟨b, x, hAe, hx, hbl, hra, hia⟩ := nd_old HA.out HL.out HS3.out.lo (by omega : k < n)
      subst hAe
      have hxr : s.rule[k]? = some x.d := by rw [HD.out, List.getElem?_map, hx]; rfl
      have hfx : NdFit x.d := HF.out x.d (List.mem_of_getElem? hxr)
      have HXR := Lib.hid hxr
      have HFX := Lib.hid hfx
      have HIA := Lib.hid hia
      have f0 : wr.cell? ⟨b, k * 8, none⟩ = some (I x.d.kind) := hra 0 _ rfl
      have f1 : wr.cell? ⟨b, k * 8 + 1, none⟩ = some (I x.d.cal) := hra 1 _ rfl
      have f2 : wr.cell? ⟨b, k * 8 + 2, none⟩ = some (I x.d.l) := hra 2 _ rfl
      have f3 : wr.cell? ⟨b, k * 8 + 3, none⟩ = some (I x.d.r) := hra 3 _ rfl
      have f4 : wr.cell? ⟨b, k * 8 + 4, none⟩ = some (I x.d.n) := hra 4 _ rfl
      have f5 : wr.cell? ⟨b, k * 8 + 5, none⟩ = some (I x.d.m) := hra 5 _ rfl
      have f6 : wr.cell? ⟨b, k * 8 + 6, none⟩ = some (.slice x.A x.d.list.length x.c) := hra 6 _ rfl
      have f7 : wr.cell? ⟨b, k * 8 + 7, none⟩ = some (.string x.d.name) := hra 7 _ rfl
      have hne : ¬ b = wr.heap.size := by have := HS3.out.lo.size; omega
      have HR3 : Hid ((leAll [(n : Int)] ++ seRule (s.rule.take k)).length ≤ 100000) := Lib.hid (by
        rw [List.length_append, leAll_length]
        have h1 := seRule_len (ds := s.rule.take k) fun d hd => HF.out d (List.mem_of_mem_take hd)
        have h2 : (s.rule.take k).length ≤ k := by rw [List.length_take]; omega
        have h3 : [(n : Int)].length = 1 := rfl
        omega)
      obtain ⟨D, hD⟩ : ∃ D, leAll [(n : Int)] ++ seRule (s.rule.take k) = D := ⟨_, rfl⟩
      have HDD := Lib.hid hD
      rw [hD] at HR3 HS3
      have HS4 := Lib.hid (HS3.out.more (.cells (ndCells x.d x.A x.c) 75))
      have HF4 := Lib.hid (far_new HS3.out.st HS3.out.gl (ndCells x.d x.A x.c) 75)
      clear hra hx hxr hfx hia hD
      go_wp2_with fail
      refine (HS4.out.nums (ndNums x.d) (wr.heap.size + 1) 7 (by simp) rfl HFX.out.nums (by have := HR3.out; omega) (by show 7 ≤ 1000; omega)).mono ?_
      rintro e5 w5 ⟨rfl, v5, hk5, hs5⟩
      have HS5 := Lib.hid hs5
      have HF5 := Lib.hid (HF4.out.next hk5)
      have n5 : w5.cell? ⟨wr.heap.size, 6, none⟩ = some (.slice x.A x.d.list.length x.c) := HF5.out.row.2 6
      clear hk5 hs5 HS4 HF4 HS3 f0 f1 f2 f3 f4 f5 f6 f7
      go_wp2_with fail
      refine (HS5.out.list x.A x.c x.d.list HIA.out HFX.out.list (by rw [List.length_append, leAll_length]; have := HR3.out; show _ + 8 * 7 ≤ _; omega) (by have := HFX.out.len; omega)).mono ?_
      rintro e6 w6 ⟨rfl, v6, hk6, hs6⟩
      have HS6 := Lib.hid hs6
      have HF6 := Lib.hid (HF5.out.next hk6)
      have n6 : w6.cell? ⟨wr.heap.size, 7, none⟩ = some (.string x.d.name) := HF6.out.row.2 7
      clear hk6 hs6 HS5 HF5 n5
      go_wp2_with fail
      refine (HS6.out.text x.d.name (by have := HFX.out.name; omega) (by rw [List.length_append, List.length_append, leAll_length, leAll_length]; have := HR3.out; have := HFX.out.len; show _ + 8 * 7 + _ ≤ _; omega)).mono ?_
      rintro e7 w7 ⟨rfl, v7, hk7, hs7⟩
      have HS7 := Lib.hid hs7
      clear hk7 hs7 HS6 HF6 n6
      go_wp2_with fail
      go_roundw
      case rel =>
        refine ⟨k + 1, by omega, by go_num, v7, ?_⟩
        have h := HS7.out
        rw [← HDD.out] at h
        rw [take_next _ k x.d HXR.out, seRule_snoc]
        unfold ndBytes
        simpa only [List.append_assoc] using h
      case measure => simp [intOf]; omega
    · have hke : k = n := by omega
      have hrk : s.rule.take k = s.rule := by rw [List.take_of_length_le]; rw [HD.out, List.length_map, HL.out]; omega
      rw [hrk] at HS3
      obtain ⟨D, hD⟩ : ∃ D, leAll [(n : Int)] ++ seRule s.rule = D := ⟨_, rfl⟩
      have HDD := Lib.hid hD
      have HR3 : Hid (D.length ≤ 100000) := Lib.hid (by
        rw [← hD, List.length_append, leAll_length]
        have h1 := seRule_len (ds := s.rule) HF.out
        have h2 : s.rule.length = n := by rw [HD.out, List.length_map, HL.out]
        have h3 : [(n : Int)].length = 1 := rfl
        omega)
      rw [hD] at HS3
      have g3 := HS3.out.box.2
      have fz := HG.out.mi
      have fl := HG.out.le
      have fg := HG.out.ga
      have ff := HG.out.fo
      have fo := HG.out.zo
      have HN2 : Hid (∀ z ∈ [s.minute, s.length], fits z) := Lib.hid (by intro z hz; simp only [List.mem_cons, List.not_mem_nil, or_false] at hz; unfold fits; rcases hz with rfl | rfl <;> omega)
      have HN3 : Hid (∀ z ∈ [s.gap, s.fold, (mn : Int)], fits z) := Lib.hid (by intro z hz; simp only [List.mem_cons, List.not_mem_nil, or_false] at hz; unfold fits; rcases hz with rfl | rfl | rfl <;> omega)
      have HZO := Lib.hid fo
      clear hrk hD fz fl fg ff fo hke
      go_wp2_with fail
      refine (HS3.out.nums [s.minute, s.length] wr.heap.size 2 rfl rfl HN2.out (by have := HR3.out; omega) (by show 2 ≤ 1000; omega)).mono ?_
      rintro e4 w4 ⟨rfl, v4, -, hs4⟩
      have HS4 := Lib.hid hs4
      have g4 := hs4.box.2
      clear hs4 HS3 g3
      go_wp2_with fail
      refine (HS4.out.text s.zone (by have := HZO.out; omega) (by rw [List.length_append, leAll_length]; have := HR3.out; show _ + 8 * 2 ≤ _; omega)).mono ?_
      rintro e5 w5 ⟨rfl, v5, -, hs5⟩
      have HS5 := Lib.hid hs5
      have g5 := hs5.box.2
      clear hs5 HS4 g4
      go_wp2_with fail
      refine (HS5.out.nums [s.gap, s.fold, (mn : Int)] w5.heap.size 3 rfl rfl HN3.out (by unfold textBytes; rw [List.length_append, List.length_append, List.length_append, leAll_length, le_length]; have := HR3.out; have := HZO.out; have : s.zone.data.toList.length = s.zone.size := Array.length_toList; show _ + 8 * 2 + _ ≤ _; omega) (by show 3 ≤ 1000; omega)).mono ?_
      rintro e6 w6 ⟨rfl, v6, -, hs6⟩
      obtain ⟨E, hE⟩ : ∃ E, D ++ leAll [s.minute, s.length] ++ textBytes s.zone ++ leAll [s.gap, s.fold, (mn : Int)] = E := ⟨_, rfl⟩
      have HEE := Lib.hid hE
      have HRE : Hid (E.length ≤ 110000) := Lib.hid (by
        rw [← hE]
        unfold textBytes
        rw [List.length_append, List.length_append, List.length_append, List.length_append, leAll_length, leAll_length, le_length]
        have := HR3.out
        have := HZO.out
        have : s.zone.data.toList.length = s.zone.size := Array.length_toList
        show _ + 8 * 2 + _ + 8 * 3 ≤ _
        omega)
      rw [hE] at hs6
      have HS6 := Lib.hid hs6
      have g6 := hs6.box.2
      clear hs6 HS5 g5 hE
      go_wp2_with fail
      go_loopw [79] (fun i wr => SbRel2 w g #[.slice A n c, I s.minute, I s.length, .string s.zone, I s.gap, I s.fold, .slice B mn e] E s.moves mn i wr) (fun i _ => mn - (intOf i).toNat)
      case atStart => exact ⟨0, Nat.zero_le _, rfl, v6, by simpa [seMoves] using HS6.out⟩
      case round =>
        obtain ⟨j, hj, rfl, v7, hs7⟩ := hrel
        have HS7 := Lib.hid hs7
        clear hs7 HS6 g6
        by_cases hlt2 : (j : Int) < (mn : Int)
        · have j0 : (0 : Int) ≤ (j : Int) := by omega
          obtain ⟨b, m, hBe, hbl, hx, hr⟩ := mv_old HB.out HML.out HS7.out.lo (by omega : j < mn)
          subst hBe
          have HX := Lib.hid hx
          have HMV : Hid (MvGood m) := Lib.hid (HG.out.mv m (List.mem_of_getElem? hx))
          have f0 : wr.cell? ⟨b, j * 5, none⟩ = some (I m.day) := hr 0 _ rfl
          have f1 : wr.cell? ⟨b, j * 5 + 1, none⟩ = some (.bool m.drop) := hr 1 _ rfl
          have f2 : wr.cell? ⟨b, j * 5 + 2, none⟩ = some (I m.toDay) := hr 2 _ rfl
          have f3 : wr.cell? ⟨b, j * 5 + 3, none⟩ = some (I m.minute) := hr 3 _ rfl
          have f4 : wr.cell? ⟨b, j * 5 + 4, none⟩ = some (I m.length) := hr 4 _ rfl
          have hne : ¬ b = wr.heap.size := by have := HS7.out.lo.size; omega
          have HR7 : Hid ((E ++ seMoves (s.moves.take j)).length ≤ 120000) := Lib.hid (by
            rw [List.length_append, seMoves_len]
            have h2 : (s.moves.take j).length ≤ j := by rw [List.length_take]; omega
            have := HRE.out
            omega)
          obtain ⟨D7, hD7⟩ : ∃ D, E ++ seMoves (s.moves.take j) = D := ⟨_, rfl⟩
          have HD7 := Lib.hid hD7
          rw [hD7] at HR7 HS7
          have HS8 := Lib.hid (HS7.out.more (.cells (mvCells m) 26))
          have HFT : Hid (∀ z ∈ mvNums m, fits z) := Lib.hid (by
            obtain ⟨a1, a2, h⟩ := HMV.out
            intro z hz
            unfold mvNums at hz
            simp only [List.mem_cons, List.not_mem_nil, or_false] at hz
            unfold fits
            rcases h with ⟨e0, e1, e2, e3⟩ | ⟨e0, e1, e2, e3, e4, e5, e6⟩
            · rw [e0, if_pos rfl] at hz
              rcases hz with rfl | rfl | rfl | rfl | rfl <;> omega
            · rw [e0, if_neg (by decide)] at hz
              rcases hz with rfl | rfl | rfl | rfl | rfl <;> omega)
          obtain ⟨dr, hdr⟩ : ∃ dr, m.drop = dr := ⟨_, rfl⟩
          have HNM0 : Hid (dr = false → mvNums m = [m.day, 0, m.toDay, m.minute, m.length]) := Lib.hid (fun e => by unfold mvNums; rw [hdr, e]; rfl)
          have HNM1 : Hid (dr = true → mvNums m = [m.day, 1, m.toDay, m.minute, m.length]) := Lib.hid (fun e => by unfold mvNums; rw [hdr, e]; rfl)
          have HE8 : Hid (SwS w g #[.slice A n c, I s.minute, I s.length, .string s.zone, I s.gap, I s.fold, .slice (some ⟨b, 0, none⟩) mn e] v7 D7 (wr.alloc (.cells #[I m.day, .bool dr, I m.toDay, I m.minute, I m.length] 26))) := Lib.hid (by have := HS8.out; unfold mvCells at this; rw [hdr] at this; exact this)
          rw [hdr] at f1
          clear hr hx hdr hD7 HS8 HS7
          cases dr with
          | false =>
            have HNM := Lib.hid (HNM0.out rfl)
            rw [HNM.out] at HFT
            clear HNM0 HNM1
            go_wp2_with fail
            refine (HE8.out.nums [m.day, 0, m.toDay, m.minute, m.length] (wr.heap.size + 1) 5 (by simp) rfl HFT.out (by have := HR7.out; omega) (by show 5 ≤ 1000; omega)).mono ?_
            rintro e9 w9 ⟨rfl, v9, -, hs9⟩
            have HS9 := Lib.hid hs9
            clear hs9
            go_wp2_with fail
            go_roundw
            case rel =>
              refine ⟨j + 1, by omega, by go_num, v9, ?_⟩
              have h := HS9.out
              rw [← HD7.out] at h
              rw [take_next _ j m HX.out, seMoves_snoc, HNM.out]
              simpa only [List.append_assoc] using h
            case measure => simp [intOf]; omega
          | true =>
            have HNM := Lib.hid (HNM1.out rfl)
            rw [HNM.out] at HFT
            clear HNM0 HNM1
            go_wp2_with fail
            refine (HE8.out.nums [m.day, 1, m.toDay, m.minute, m.length] (wr.heap.size + 1) 5 (by simp) rfl HFT.out (by have := HR7.out; omega) (by show 5 ≤ 1000; omega)).mono ?_
            rintro e9 w9 ⟨rfl, v9, -, hs9⟩
            have HS9 := Lib.hid hs9
            clear hs9
            go_wp2_with fail
            go_roundw
            case rel =>
              refine ⟨j + 1, by omega, by go_num, v9, ?_⟩
              have h := HS9.out
              rw [← HD7.out] at h
              rw [take_next _ j m HX.out, seMoves_snoc, HNM.out]
              simpa only [List.append_assoc] using h
            case measure => simp [intOf]; omega
        · have hje : j = mn := by omega
          have hmt : s.moves.take j = s.moves := by rw [List.take_of_length_le]; rw [HML.out]; omega
          rw [hmt] at HS7
          have hc7 := cell_of_row wr g 0 _ _ _ HS7.out.st.1
          have HLN : Hid (s.rule.length = n) := Lib.hid (by rw [HD.out, List.length_map, HL.out])
          clear hmt hje
          go_wp2_with fail
          go_ret2
          refine ⟨v7, rfl, ?_, HS7.out.lo⟩
          have h := ownsRow_base' (base' := w.heap.size) HS7.out.st.2 (by have := HS7.out.wg; omega)
          rw [← HEE.out, ← HDD.out] at h
          unfold seBytes seHead seMid
          rw [HLN.out, HML.out]
          simpa only [List.append_assoc] using h
end Go.Proofs.YthhbbebabmemfaaGreat

/- (*letter.writer).series. -/
namespace Go.Proofs.YthhbbebabmemfaaGreat
open Go Go.RowKit

attribute [local go_sem] ltVal_get lt_get17 lt_get18 lt_get19 lt_get20 lt_get21 lt_get22 lt_get23
set_option maxRecDepth 10000 in
set_option maxHeartbeats 2000000 in
theorem serW_no (w : World) (g b : Nat) (l : Lt) (s : Sl) (v : Value) (bs : List UInt8) (hin : WIn w g b (ltVal l s) v bs) (hok : LtOK l) (hnz : nzOf l = true) (hl : bs.length ≤ 100000000000) :
    Calls Tryz.prog 26 #[pt g] w (NumPost w g (pt b) v (bs ++ le 0 4)) := by
  have HI := Lib.hid hin
  have HOK := Lib.hid hok
  have HZ := Lib.hid hnz
  have hr0 := hin.row.2
  have hc0 : w.cell? ⟨g, 0, none⟩ = some (pt b) := cell_of_row w g 0 _ _ _ hin.st.1
  obtain ⟨i0, hi, hz0, hz1, hz2⟩ := info_parts info_u8
  have HIF := Lib.hid hi
  clear hin hok hnz hi hz0 hz1 hz2
  go_enter Tryz.func26, Tryz.ntmps26
  go_wp2_with fail
  refine (noSeries_lt l s _ HOK.out).mono ?_
  rintro e w1 ⟨rfl, hb1⟩
  rw [HZ.out]
  have HI1 := Lib.hid (HI.out.grow hb1)
  have HK1 : Hid (WKeep g v w v w1) := Lib.hid ⟨hb1.os, hb1.tape, hb1.output, hb1.size, fun k hk _ _ => hb1.block k hk, .inl rfl⟩
  clear hb1 hr0 hc0
  go_wp2_with fail
  refine (number4 _ _ _ _ bs 0 (by omega) (by omega) HI1.out.gl HI1.out.st).mono ?_
  intro e w3 hp
  obtain ⟨rfl, v3, hi3, hk3⟩ := hp.out HI1.out
  have hc3 : w3.cell? ⟨g, 1, none⟩ = some v3 := cell_of_row w3 g 1 _ _ _ hi3.st.1
  have hf3 := frozen_of_row w3 g 1 _ _ hi3.st.1
  have hl3 : 0 < (bs ++ le 0 4).length := by rw [List.length_append, le_length]; omega
  obtain ⟨B, hB⟩ : ∃ B, bs ++ le 0 4 = B := ⟨_, rfl⟩
  rw [hB] at hi3 hl3
  have HBB := Lib.hid hB
  clear hB
  obtain ⟨g', cap', rfl, _⟩ := own_form hi3.st.2 hl3
  have HI3 := Lib.hid hi3
  have HK3 := Lib.hid hk3
  clear hp hi3 hk3
  go_wp2_with (at_builtin; refine wpList_append_own_none rfl _ _ 22 rfl (g + 1) 5 i0 1 Tryz.underlying22 HIF.out _ _ _ rfl HI3.out.st.2 rfl ?_)
  have hS : WSt (w3.setCell ⟨g, 1, none⟩ (.slice (some ⟨g', 0, none⟩) B.length cap')) g (pt b) (.slice (some ⟨g', 0, none⟩) B.length cap') B ∧ WKeep g (.slice (some ⟨g', 0, none⟩) B.length cap') w3 (.slice (some ⟨g', 0, none⟩) B.length cap') (w3.setCell ⟨g, 1, none⟩ (.slice (some ⟨g', 0, none⟩) B.length cap')) := by
    have h := HI3.out.st
    refine ⟨⟨by rw [heap_setCell_same w3 g 1 _ _ _ h.1]; rfl, ownsRow_far (p := ⟨g, 1, none⟩) h.2 (own_ge h.2 g (Nat.lt_succ_self g))⟩, ⟨rfl, rfl, rfl, by simp [World.setCell], fun k _ hk _ => heap_setCell_other w3 _ k _ hk, .inl rfl⟩⟩
  have HSS := Lib.hid hS
  clear hS
  go_wp2_with fail
  go_end0
  exact ⟨rfl, _, by rw [HBB.out]; exact HSS.out.1, (HK1.out.trans HK3.out).trans HSS.out.2⟩
set_option maxRecDepth 10000 in
set_option maxHeartbeats 2000000 in
theorem serW_yes (w : World) (g b : Nat) (l : Lt) (s : Sl) (v : Value) (bs sb : List UInt8) (hin : WIn w g b (ltVal l s) v bs) (hok : LtOK l) (hnz : nzOf l = false) (hl : bs.length ≤ 100000000000) (hs0 : 0 < sb.length) (hs1 : sb.length ≤ 10000000)
    (hby : ∀ w', Below w.heap.size w w' → Calls Tryz.prog 48 #[serVal l s] w' (SbPost w' sb)) :
    Calls Tryz.prog 26 #[pt g] w (NumPost w g (pt b) v (bs ++ (le sb.length 4 ++ sb))) := by
  have HI := Lib.hid hin
  have HOK := Lib.hid hok
  have HZ := Lib.hid hnz
  have HBY := Lib.hid hby
  have hr0 := hin.row.2
  have hc0 : w.cell? ⟨g, 0, none⟩ = some (pt b) := cell_of_row w g 0 _ _ _ hin.st.1
  obtain ⟨i0, hi, hz0, hz1, hz2⟩ := info_parts info_u8
  have HIF := Lib.hid hi
  have HIZ0 := Lib.hid hz0
  have HIZ1 := Lib.hid hz1
  have HIZ2 := Lib.hid hz2
  clear hin hok hnz hi hz0 hz1 hz2 hby
  go_enter Tryz.func26, Tryz.ntmps26
  go_wp2_with fail
  refine (noSeries_lt l s _ HOK.out).mono ?_
  rintro e w1 ⟨rfl, hb1⟩
  rw [HZ.out]
  have HI1 := Lib.hid (HI.out.grow hb1)
  have HB1 := Lib.hid hb1
  have hr1 := HI1.out.row.2
  have hc1 : w1.cell? ⟨g, 0, none⟩ = some (pt b) := cell_of_row w1 g 0 _ _ _ HI1.out.st.1
  clear hb1 hr0 hc0
  go_wp2_with fail
  refine (HBY.out _ HB1.out).mono ?_
  rintro e w2 ⟨vb, rfl, hown, hb2⟩
  obtain ⟨gb, cb, rfl, hgb⟩ := own_form hown hs0
  have hgb1 := (hown.lt gb rfl).1
  have HI2 := Lib.hid (HI1.out.grow hb2)
  have HK2 : Hid (WKeep g v w v w2) := Lib.hid (by
    have hb := below_trans HB1.out hb2
    exact ⟨hb.os, hb.tape, hb.output, hb.size, fun k hk _ _ => hb.block k hk, .inl rfl⟩)
  have HOW := Lib.hid hown
  have hne1 : gb ≠ g := by have := HI1.out.gl; omega
  have HNE : Hid (some gb ≠ v.ownBlock) := Lib.hid fun e => by have := own_lt HI1.out.st.2 gb e.symm; omega
  clear hown hb2 hr1 hc1 HI1
  obtain ⟨n, hn⟩ : ∃ n, sb.length = n := ⟨_, rfl⟩
  have HN := Lib.hid hn
  rw [hn] at hs0 hs1 ⊢
  clear hn
  go_wp2_with fail
  refine (number4 _ _ _ _ bs n (by omega) (by omega) HI2.out.gl HI2.out.st).mono ?_
  intro e w3 hp
  obtain ⟨rfl, v3, hi3, hk3⟩ := hp.out HI2.out
  have hc3 : w3.cell? ⟨g, 1, none⟩ = some v3 := cell_of_row w3 g 1 _ _ _ hi3.st.1
  obtain ⟨B, hB⟩ : ∃ B, bs ++ le (n : Int) 4 = B := ⟨_, rfl⟩
  have hlB : B.length ≤ 100000000004 := by rw [← hB, List.length_append, le_length]; omega
  rw [hB] at hi3
  have HBB := Lib.hid hB
  have HNW : Hid (∀ j u, (sb.map Extern.Stop.cell)[j]? = some u → w3.cell? ((⟨gb, 0, none⟩ : Addr).add j) = some u) := Lib.hid fun j u hu => by
    have h := HOW.out.cells (g := gb) rfl j u hu
    rw [addr_add] at h ⊢
    exact (World.cell?_of_block (a := ⟨gb, j, none⟩) (hk3.block gb hgb hne1 HNE.out)).trans h
  have HI3 := Lib.hid hi3
  have HK3 := Lib.hid hk3
  have hg3 := hi3.gl
  clear hp hi3 hk3 hB
  go_wp2_with (at_builtin; refine wpList_append_lies (w := w3) rfl _ _ 22 rfl (g + 1) 5 i0 (.int .u8 0) 1 1 Tryz.underlying22 HIF.out HIZ0.out HIZ1.out HIZ2.out rfl (by decide) v3 B.length (B.map Extern.Stop.cell) rfl HI3.out.st.2 ⟨gb, 0, none⟩ n cb (sb.map Extern.Stop.cell) rfl ?c1 HNW.out ?c2 hs0 ?c3 ?c4 ?c5 w3.heap.size rfl ?_)
  case c1 => rw [List.length_map, HN.out]; omega
  case c2 => intro u hu; obtain ⟨z, _, rfl⟩ := List.mem_map.1 hu; rfl
  case c3 => unfold maxLen; omega
  case c4 => omega
  case c5 => omega
  intro gg cap w4 hown4 hgrow hat hlt4
  have hS := wst_app (w := w3) (W := w3) (xs := sb) HI3.out.st hg3 rfl rfl rfl rfl (by rw [HN.out]; exact hown4) hgrow hat
  rw [HN.out] at hS
  have HSS := Lib.hid hS
  have hc4 : w4.cell? ⟨g, 1, none⟩ = some v3 := cell_of_row w4 g 1 _ _ _ hS.1
  have hf4 := frozen_of_row w4 g 1 _ _ hS.1
  clear hown4 hgrow hat hS hc3
  go_wp2_with fail
  go_end0
  exact ⟨rfl, _, by rw [HN.out, ← List.append_assoc, HBB.out]; exact HSS.out.2.1, (HK2.out.trans HK3.out).trans HSS.out.2.2⟩
end Go.Proofs.YthhbbebabmemfaaGreat

/- series.Valid at the zero series: ErrArg. -/
namespace Go.Proofs.YthhbbebabmemfaaGreat
open Go Go.RowKit

set_option maxRecDepth 10000 in
set_option maxHeartbeats 1000000 in
theorem wellFormed_none (A : Option Addr) (c : Nat) (w : World) : Calls Tryz.prog 77 #[.slice A 0 c] w (Gives (.bool false) w) := by
  go_enter Tryz.func77, Tryz.ntmps77
  go_wp2_with fail
  go_ret
  first | exact ⟨rfl, Below.refl _ _⟩ | exact ⟨rfl, below_var _ _⟩
set_option maxRecDepth 10000 in
set_option maxHeartbeats 2000000 in
theorem ruleValid_none (A : Option Addr) (c cb cc : Nat) (w : World) :
    Calls Tryz.prog 59 #[.slice A 0 c, .slice (some ⟨cb, 0, none⟩) 3 cc] w (Gives (I 1) w) := by
  have HBIG := Lib.hid (hasBig A 0 c [] w (.inl rfl) rfl (by omega) (fun x hx => by cases hx))
  have HWF := Lib.hid (fun w' => wellFormed_none A c w')
  go_enter Tryz.func59, Tryz.ntmps59
  go_wp2_with fail
  refine HBIG.out.mono ?_
  rintro e w1 ⟨rfl, hb1⟩
  have HB1 := Lib.hid hb1
  clear hb1 HBIG
  go_wp2_with fail
  refine (HWF.out _).mono ?_
  rintro e w2 ⟨rfl, hb2⟩
  have HB2 := Lib.hid (below_trans HB1.out hb2)
  clear hb2 HWF HB1
  go_wp2_with fail
  go_ret
  exact ⟨rfl, HB2.out⟩
set_option maxRecDepth 10000 in
set_option maxHeartbeats 2000000 in
theorem seriesValid_none (A B : Option Addr) (c e cb cc : Nat) (w : World) :
    Calls Tryz.prog 42 #[.agg #[.slice A 0 c, I 0, I 0, .string ⟨#[]⟩, I 0, I 0, .slice B 0 e], .slice (some ⟨cb, 0, none⟩) 3 cc] w (Gives (I 1) w) := by
  have HX0 := Lib.hid (Row.new w #[.slice A 0 c, I 0, I 0, .string ⟨#[]⟩, I 0, I 0, .slice B 0 e] 31)
  have HB0 := Lib.hid (below_var w (.cells #[.slice A 0 c, I 0, I 0, .string ⟨#[]⟩, I 0, I 0, .slice B 0 e] 31))
  have HV := Lib.hid (fun w' => ruleValid_none A c cb cc w')
  go_enter Tryz.func42, Tryz.ntmps42
  go_wp2_with fail
  refine (HV.out _).mono ?_
  rintro e1 w1 ⟨rfl, hb1⟩
  have HX1 := Lib.hid (HX0.out.keep hb1)
  have HB1 := Lib.hid (below_trans HB0.out hb1)
  have k3 : w1.cell? ⟨w.heap.size, 3, none⟩ = some (.string ⟨#[]⟩) := HX1.out.2 3
  have k6 : w1.cell? ⟨w.heap.size, 6, none⟩ = some (.slice B 0 e) := HX1.out.2 6
  clear hb1 HV HX0 HB0
  go_wp2_with fail
  go_ret
  exact ⟨rfl, HB1.out⟩
end Go.Proofs.YthhbbebabmemfaaGreat

/- Made letters in memory; letter.Valid and letter.Bytes where the body is wrong; kalendsref20.Mod. -/
namespace Go.Proofs.YthhbbebabmemfaaGreat
open Go Go.RowKit

theorem LtMem.grow {lo : Nat} {w w' : World} {l : Lt} {s : Sl} {ns : List NdV} (h : LtMem lo w l s ns) (hb : Below w.heap.size w w') (hlo : 0 < lo) : LtMem lo w' l s ns := h.mkeep (MKeep.of_below (mb := 0) hb) hlo
theorem valid_bad (m : Lt) (s : Sl) (W : World) (hok : LtOK m) (hi : IntsAt W W.heap.size s.C m.cells) (hh : headOK m = true) (hb : bodyOK m = false) : Calls Tryz.prog 12 #[.agg (ltVal m s)] W (Gives (I 1) W) := by
  have h := valid_nos m s W hok hi hh (fun h => by rw [hb] at h; cases h)
  have e : vCode m 0 = 1 := by unfold vCode; rw [hh, hb]; rfl
  rw [e] at h
  exact h
theorem bytes_bad (m : Lt) (s : Sl) (W : World) (hok : LtOK m) (hi : IntsAt W W.heap.size s.C m.cells) (hh : headOK m = true) (hb : bodyOK m = false) : Calls Tryz.prog 6 #[.agg (ltVal m s)] W (Gives (.tuple #[.slice none 0 0, I 1]) W) :=
  (bytes_no m s [] W 1 hok.ref rfl (fun w' hb' => valid_bad m s w' hok ((hi.keep hb').more hb'.size) hh hb)).mono fun _ _ h => ⟨h.1, h.2⟩
set_option maxRecDepth 10000 in
theorem refMod_any (a b : Int) (w : World) (hb : 0 < b) (hb2 : b ≤ 1000000000000000000) (ha : fits a) : Calls Tryz.prog 9 #[I a, I b] w fun e w' => e = .returned (I (a % b)) ∧ w' = w := by
  have HM := Lib.hid (mod_any a b w hb hb2 ha)
  clear ha hb hb2
  go_enter Tryz.func9, Tryz.ntmps9
  go_wp2_with fail
  refine HM.out.mono ?_
  rintro e w1 ⟨rfl, rfl⟩
  go_wp2_with fail
  go_ret
  exact ⟨rfl, rfl⟩
end Go.Proofs.YthhbbebabmemfaaGreat

/- Letters with the series and the cells of a letter that was made: letter.Valid and letter.Bytes. -/
namespace Go.Proofs.YthhbbebabmemfaaGreat
open Go Go.RowKit

theorem vMove_fits {m : Mv} (h : vMove m = true) : fits m.day ∧ fits m.toDay ∧ fits m.minute ∧ fits m.length := by
  unfold vMove at h
  unfold fits
  split at h
  · have := of_decide_eq_true h; omega
  · have := of_decide_eq_true h; omega
theorem mvZ_fits {m : Mv} (h : mvZ m = true) : fits m.day ∧ fits m.toDay ∧ fits m.minute ∧ fits m.length := by
  unfold mvZ at h
  simp only [Bool.and_eq_true, decide_eq_true_eq] at h
  unfold fits
  omega
/-- The numbers of a letter fit. -/
structure LtFits (l : Lt) : Prop where
  num : ∀ k, k < 17 → fits (numF l k)
  mv : fits l.move.day ∧ fits l.move.toDay ∧ fits l.move.minute ∧ fits l.move.length
  wf : fits l.wfrom ∧ fits l.wto
  cel : ∀ j, j < l.cells.length → fits (l.cells[j]?.getD 0)
theorem numF_none (l : Lt) (k : Nat) (hk : k < 17) (h : numOff k = none) : numF l k = 0 :=
  all17 (p := fun k => numOff k = none → numF l k = 0) (by refine ⟨?_, ?_, ?_, ?_, ?_, ?_, ?_, ?_, ?_, ?_, ?_, ?_, ?_, ?_, ?_, ?_, ?_⟩ <;> (intro h; first | rfl | cases h)) k hk h
theorem body_fits {l : Lt} (hh : headOK l = true) (hb : bodyOK l = true) : LtFits l := by
  obtain ⟨⟨k1, k2⟩, _⟩ := headOK_iff hh
  unfold bodyOK at hb
  rw [Bool.and_eq_true] at hb
  obtain ⟨hn, ho⟩ := hb
  unfold vNums at hn
  rw [Bool.and_eq_true, List.all_eq_true] at hn
  have ho' := ho
  unfold oth vOthers at ho
  simp only [Bool.and_eq_true] at ho
  obtain ⟨⟨⟨⟨hz, h4⟩, h6⟩, hs⟩, hc⟩ := ho
  refine ⟨fun k hk => ?_, ?_, ?_, ?_⟩
  · cases hof : numOff k with
    | none => rw [numF_none l k hk hof]; unfold fits; omega
    | some o =>
      have h := hn.1 k (List.mem_range.2 hk)
      obtain ⟨hnb, _⟩ := numOff_num hk hof
      obtain ⟨e1, e2⟩ := lim_bnd k1 k2 k hk hnb
      obtain ⟨b1, b2, b3⟩ := bnd_ok l.kind k
      unfold numOK numLow numHigh at h
      rw [hof] at h
      simp only [Option.isNone_some, Bool.false_or, Bool.and_eq_true, decide_eq_true_eq] at h
      obtain ⟨h1, h2⟩ := h
      unfold fits
      split at h1
      · rename_i hc
        rw [if_pos hc] at h2
        omega
      · rename_i hc
        rw [if_neg hc] at h2
        omega
  · cases hu : usesB l.kind ((9 : Nat) : Int) with
    | false =>
      unfold zerosOK at hz
      rw [List.all_eq_true] at hz
      have h := hz 0 (List.mem_range.2 (by omega))
      change (usesB l.kind ((9 : Nat) : Int) || mvZ l.move) = true at h
      rw [hu, Bool.false_or] at h
      exact mvZ_fits h
    | true =>
      rcases (uses9 k1 k2).1 hu with hk | hk
      · rw [hk] at h4
        exact vMove_fits (by simpa using h4)
      · rw [hk] at h6
        have h6 : vChange l (nzOf l) = true := by simpa using h6
        unfold vChange at h6
        split at h6
        · rw [Bool.and_eq_true, Bool.and_eq_true] at h6
          exact vMove_fits h6.1.1
        · split at h6
          · rw [Bool.and_eq_true] at h6
            exact mvZ_fits h6.1
          · exact mvZ_fits h6
  · unfold spanB at hs
    have := of_decide_eq_true hs
    unfold fits
    omega
  · intro j hj
    unfold vCells at hc
    rw [Bool.and_eq_true, List.all_eq_true] at hc
    have h := hc.1 j (List.mem_range.2 hj)
    obtain ⟨z, hz⟩ : ∃ z, l.cells[j]?.getD 0 = z := ⟨_, rfl⟩
    rw [hz]
    cases hsr : srvB l.kind with
    | true => rw [hsr, cellOK_t hz rfl] at h; have := of_decide_eq_true h; unfold fits; omega
    | false => rw [hsr, cellOK_f hz] at h; have := of_decide_eq_true h; unfold fits; omega
/-- A letter with the same series and cells. -/
structure VarOf (l L : Lt) : Prop where
  ser : L.series = l.series
  cells : L.cells = l.cells
  ref : L.ref.length = 32
def vc (L : Lt) : Int := if headOK L = false then 1 else if bodyOK L = false then 1 else if noSerB L = true then 0 else if nzOf L = true then 1 else 0
theorem vc_cases (L : Lt) : vc L = 1 ∨ (vc L = 0 ∧ headOK L = true ∧ bodyOK L = true) := by
  unfold vc
  cases headOK L <;> cases bodyOK L <;> cases noSerB L <;> cases nzOf L <;> simp
theorem MadeLt.se {l : Lt} {ns : List NdV} (h : MadeLt l ns) : l.series = zSer ∨ SerOK ns l.series := by
  obtain ⟨k, f, t, _, _, _, _, _, _, _, hv, _⟩ := h.inv
  rcases hv.ser with ⟨h, _⟩ | h
  · exact .inl h
  · exact .inr h
theorem SerOK.nz {l : Lt} {ns : List NdV} (h : SerOK ns l.series) : nzOf l = false := by
  unfold nzOf noSer
  exact decide_eq_false (by have := h.lng; omega)
section
variable {l L : Lt} {ns : List NdV} {s : Sl} {lo : Nat} {w : World}
theorem VarOf.ok (hv : VarOf l L) (hl : MadeLt l ns) : LtOK L := by
  have h := hl.ok
  exact ⟨by rw [hv.ser]; exact h.rule, by rw [hv.ser]; exact h.moves, by rw [hv.ser]; exact h.zone, hv.ref, by rw [hv.cells]; exact h.cells⟩
theorem VarOf.nz (hv : VarOf l L) : nzOf L = nzOf l := by unfold nzOf; rw [hv.ser]
theorem VarOf.sv (hv : VarOf l L) : serVal L s = serVal l s := by unfold serVal; rw [hv.ser]
theorem sound_made (hl : MadeLt l ns) (hs : SerOK ns l.series) (hm : LtMem lo w l s ns) :
    Calls Tryz.prog 60 #[serVal l s] w (Gives (.bool true) w) :=
  sound_yes l.series s.A s.B s.c s.d l.series.rule.length l.series.moves.length ns w (hm.rules hl.lens.2.2.2) (by rw [hm.names, List.length_map]) hs.rulesOK hm.mvs rfl hs.good
theorem valid_var (hl : MadeLt l ns) (hm : LtMem lo w l s ns) (hlo : 0 < lo) (hv : VarOf l L) : Calls Tryz.prog 12 #[.agg (ltVal L s)] w (Gives (I (vc L)) w) := by
  have hok := hv.ok hl
  have hlen := hl.lens
  have hi : IntsAt w w.heap.size s.C L.cells := by rw [hv.cells]; exact hm.ints
  have hcl : L.cells.length ≤ 65536 := by rw [hv.cells]; omega
  cases hh : headOK L with
  | false =>
    have e : vc L = 1 := by unfold vc; rw [hh]; rfl
    rw [e]
    exact valid_head L s w hh
  | true =>
    cases hb : bodyOK L with
    | false =>
      have e : vc L = 1 := by unfold vc; rw [hh, hb]; rfl
      rw [e]
      exact valid_bad L s w hok hi hh hb
    | true =>
      cases hn : noSerB L with
      | true =>
        have e : vc L = 0 := by unfold vc; rw [hh, hb, hn]; rfl
        have h := valid_nos L s w hok hi hh (fun _ _ => hn)
        have e2 : vCode L 0 = 0 := by unfold vCode; rw [hh, hb, hn, if_neg (by decide), if_neg (by decide), if_neg (by omega), if_pos rfl]
        rw [e2] at h
        rw [e]
        exact h
      | false =>
        obtain ⟨hu, hz⟩ := noSerB_no hn
        rcases hl.se with hs | hs
        · have hnz : nzOf L = true := by unfold nzOf; rw [hv.ser, hs]; rfl
          have e : vc L = 1 := by unfold vc; rw [hh, hb, hn, hnz]; rfl
          rw [e]
          refine valid_ser L s w 1 hok hi hh hb hcl hu hz (fun w' cb cc xs _ _ => ?_)
          have e3 : serVal L s = .agg #[.slice s.A 0 s.c, I 0, I 0, .string ⟨#[]⟩, I 0, I 0, .slice s.B 0 s.d] := by unfold serVal; rw [hv.ser, hs]; rfl
          rw [e3]
          exact seriesValid_none s.A s.B s.c s.d cb cc w'
        · have hnz : nzOf L = false := hv.nz.trans hs.nz
          have e : vc L = 0 := by unfold vc; rw [hh, hb, hn, hnz]; rfl
          rw [e]
          refine valid_ser L s w 0 hok hi hh hb hcl hu hz (fun w' cb cc xs hb' hc => ?_)
          have m' := hm.grow hb' hlo
          rw [hv.sv]
          exact seriesValid_yes l.series s.A s.B s.c s.d l.series.rule.length l.series.moves.length cb cc ns xs w' (m'.rules hlen.2.2.2) (by rw [m'.names, List.length_map]) hs.rulesOK m'.mvs rfl hs.good hc
def sbOf (L : Lt) : List UInt8 := if nzOf L = true then le 0 4 else le (seBytes L.series).length 4 ++ seBytes L.series
theorem rule_fits (hs : RuleOK ns) : ∀ d ∈ ns.map (·.d), NdFit d := by
  intro d hd
  obtain ⟨x, hx, rfl⟩ := List.mem_map.1 hd
  obtain ⟨i, hi⟩ := List.mem_iff_getElem?.1 hx
  have h1 := (List.getElem?_eq_some_iff.1 hi).1
  have := hs.n64
  exact (hs.nodes i x hi).fit (by omega)
theorem seBytes_len {se : Ser} (hs : SerOK ns se) : 0 < (seBytes se).length ∧ (seBytes se).length ≤ 1000000 := by
  have h1 := seRule_len (ds := se.rule) (by rw [hs.names]; exact rule_fits hs.rulesOK)
  have h2 := seMoves_len se.moves
  have h3 : se.rule.length ≤ 16 := by rw [hs.names, List.length_map]; exact hs.len
  have h4 := hs.mlen
  have h5 : se.zone.data.toList.length ≤ 32 := by
    have : se.zone.data.toList.length = se.zone.size := Array.length_toList
    have := hs.good.zo
    omega
  unfold seBytes seHead seMid textBytes
  simp only [List.length_append, leAll_length, le_length, List.length_cons, List.length_nil, h2]
  omega
theorem sbOf_len (hl : MadeLt l ns) (hv : VarOf l L) : (sbOf L).length ≤ 1000000000 := by
  unfold sbOf
  split
  · rw [le_length]; omega
  · rename_i h
    rcases hl.se with hs | hs
    · exfalso; apply h; unfold nzOf; rw [hv.ser, hs]; rfl
    · have := seBytes_len hs
      rw [hv.ser, List.length_append, le_length]
      omega
theorem bytes_var (hl : MadeLt l ns) (hm : LtMem lo w l s ns) (hlo : 0 < lo) (hv : VarOf l L) : Calls Tryz.prog 6 #[.agg (ltVal L s)] w (BytesPost w (vc L) (ltBytes L (sbOf L))) := by
  have hok := hv.ok hl
  have hlen := hl.lens
  have hval : ∀ w', Below w.heap.size w w' → Calls Tryz.prog 12 #[.agg (ltVal L s)] w' (Gives (I (vc L)) w') := fun w' hb => valid_var hl (hm.grow hb hlo) hlo hv
  rcases vc_cases L with e | ⟨e, hh, hb⟩
  · rw [e] at hval ⊢
    exact bytes_no L s _ w 1 hv.ref rfl hval
  · rw [e] at hval ⊢
    have hf := body_fits hh hb
    obtain ⟨⟨k1, k2⟩, hsrc, hdst, _⟩ := headOK_iff hh
    have hsr : 0 ≤ L.src ∧ L.src < 16 := by unfold srvIn at hsrc; exact of_decide_eq_true hsrc
    have hds : 0 ≤ L.dst ∧ L.dst < 16 := by unfold srvIn at hdst; exact of_decide_eq_true hdst
    refine bytes_yes L s (sbOf L) w
      { ref := hv.ref, cells := by rw [hv.cells]; omega, sbl := sbOf_len hl hv, kind := by unfold fits; omega, src := by unfold fits; omega, dst := by unfold fits; omega
        num := hf.num, mday := hf.mv.1, mto := hf.mv.2.1, mmin := hf.mv.2.2.1, mlen := hf.mv.2.2.2, wfrom := hf.wf.1, wto := hf.wf.2, fit := hf.cel
        ints := by rw [hv.cells]; exact hm.ints
        valid := hval, ser := ?_ }
    intro _ w' g b v bs hbl _ hin hlb
    rcases hl.se with hs | hs
    · have hnz : nzOf L = true := by unfold nzOf; rw [hv.ser, hs]; rfl
      have es : sbOf L = le 0 4 := by unfold sbOf; rw [hnz]; rfl
      rw [es]
      exact serW_no w' g b L s v bs hin hok hnz hlb
    · have hnz : nzOf L = false := hv.nz.trans hs.nz
      have es : sbOf L = le (seBytes l.series).length 4 ++ seBytes l.series := by unfold sbOf; rw [hnz, hv.ser]; rfl
      rw [es]
      have hsl := seBytes_len hs
      refine serW_yes w' g b L s v bs (seBytes l.series) hin hok hnz hlb hsl.1 (by omega) (fun w2 hb2 => ?_)
      have m2 := hm.grow (below_trans hbl hb2) hlo
      rw [hv.sv]
      exact sbytes_any l.series s.A s.B s.c s.d l.series.rule.length l.series.moves.length ns w2 (m2.rules hlen.2.2.2) (by rw [m2.names, List.length_map]) m2.names (by rw [m2.names]; exact rule_fits hs.rulesOK) (by omega) m2.mvs rfl hs.good (fun w3 hb3 => sound_made hl hs (m2.grow hb3 hlo))
end
end Go.Proofs.YthhbbebabmemfaaGreat
