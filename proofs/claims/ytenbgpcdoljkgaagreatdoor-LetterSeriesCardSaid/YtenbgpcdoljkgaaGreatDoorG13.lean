/- The texts Ls, in this order. -/
import Derived.Test.YtenbgpcdoljkgaaGreatDoorG12
import Derived.Deep.RegionLaw
/- kalendslaw20.LetterSeries: for every input it returns true. -/
namespace Go.Proofs.YtenbgpcdoljkgaaGreatDoor
open Go Go.RowKit

theorem mk_start {w : World} {A : Option Addr} {xs : List Int} (hA : IntsAt w w.heap.size A xs) {c n : Nat} (hn : xs.length = n) : MkSt (w.alloc (.cells #[.slice A n c, I 0, I 2, I 0] 56)) w.heap.size xs 0 0 := by
  subst hn
  exact ⟨A, c, heap_alloc_last w _, hA.keep (below_var w _)⟩
/-- kalendsref20.MadeSeries of a new maker: the series as the parts of an invitation. -/
theorem madeSer_inv (w : World) (mb : Nat) (xs : List Int) (h : MkSt w mb xs 0 0) (hx : XsOK xs) : Calls Tryz.prog 18 #[pt mb] w fun e w' =>
    ∃ (se : Ser) (SA SB : Option Addr) (sc sd : Nat) (ns : List NdV), e = .returned (.agg #[.slice SA se.rule.length sc, I se.minute, I se.length, .string se.zone, I se.gap, I se.fold, .slice SB se.moves.length sd]) ∧ SerOK ns se ∧ LtMem (w.heap.size + 1) w' (inv se 0) (invSl SA SB sc sd) ns ∧ MKeep mb w w' := by
  refine (madeSeries_any w mb xs 0 0 h hx (by omega) (by omega)).mono ?_
  rintro e w2 ⟨ns, ms, mi, ln, zv, gp, fo, vr, vm, a', n', rfl, hsm, _, _, _, hk2⟩
  obtain ⟨SA, SB, sc, sd, rfl, rfl, hok, hmem⟩ := made_parts hsm
  refine ⟨_, SA, SB, sc, sd, ns, ?_, hok, hmem, hk2⟩
  show _ = Ending.returned (.agg #[.slice SA (ns.map (·.d)).length sc, I mi, I ln, .string zv, I gp, I fo, .slice SB ms.length sd])
  rw [List.length_map]
attribute [local go_sem] ltVal_get lt_get0 lt_get1 lt_get2
set_option maxRecDepth 10000 in
set_option maxHeartbeats 2000000 in
theorem letterSeries_any (w : World) (A : Option Addr) (n c : Nat) (xs : List Int) (hn : xs.length = n) (hA : IntsAt w w.heap.size A xs) (hfit : ∀ j, j < xs.length → fits (xs[j]?.getD 0)) (hc : n ≤ c) (hbig : c ≤ 9223372036854775807) (p : Int) (hp0 : 0 ≤ p) (hp1 : p ≤ 255) (ht : Tab10 w.heap.size w) :
    Calls Tryz.prog 5 #[.slice A n c, .int .u8 p] w (Gives (.bool true) w) := by
  have HX : Hid (XsOK xs) := Lib.hid ⟨by omega, hfit⟩
  have HM : Hid (∀ w', Below w.heap.size w w' → MkSt (w'.alloc (.cells #[.slice A n c, I 0, I 2, I 0] 56)) w'.heap.size xs 0 0) := Lib.hid fun w' hb => mk_start ((hA.keep hb).more hb.size) hn
  have HT := Lib.hid ht
  clear hA hfit hn hc hbig ht
  go_enter Tryz.func5, Tryz.ntmps5
  go_wp2_with fail
  refine (sanity_any _).mono ?_
  rintro e w1 ⟨rfl, hb1⟩
  have HB1 := Lib.hid hb1
  have HM1 := Lib.hid (HM.out _ hb1)
  have HBM := Lib.hid (below_var w1 (.cells #[.slice A n c, I 0, I 2, I 0] 56))
  clear hb1 HM
  go_wp2_with fail
  obtain ⟨w1m, hw1m⟩ : ∃ W, w1.alloc (.cells #[.slice A n c, I 0, I 2, I 0] 56) = W := ⟨_, rfl⟩
  rw [hw1m] at HM1 HBM ⊢
  clear hw1m
  refine (madeSer_inv w1m w1.heap.size xs HM1.out HX.out).mono ?_
  rintro e w2 ⟨se, SA, SB, sc, sd, ns, rfl, hok, hmem, hk2⟩
  have hbel : Below w.heap.size w w2 := below_trans HB1.out ((HBM.out).trans (hk2.below (Nat.le_refl _) HBM.out.size))
  have HOK := Lib.hid hok
  obtain ⟨lo, hlo⟩ : ∃ lo, lo = w1m.heap.size + 1 := ⟨_, rfl⟩
  rw [← hlo] at hmem
  have HLO : Hid (0 < lo) := Lib.hid (by omega)
  have HV0 := Lib.hid (lv_start (z := #[.slice SA se.rule.length sc, I se.minute, I se.length, .string se.zone, I se.gap, I se.fold, .slice SB se.moves.length sd]) rfl hmem HLO.out HT.out hbel (p := p))
  clear hok hmem hk2 hbel hlo HM1 HBM HB1 HT
  go_upto_region 4 with (first
      | (with_reducible refine at_build 36 ?_; refine wpList_build_as rfl _ rfl (ltVal (inv se p) (invSl SA SB sc sd)) (by kernel_rfl) ?_)
      | (with_reducible refine at_alloc 36 ?_; refine wpList_var_row rfl rfl _ _ _ rfl rfl rfl rfl _ (ltVal (inv se p) (invSl SA SB sc sd)) (lt_info' _ _ rfl) rfl rfl rfl (ltVal_one _ _) ?_))
  obtain ⟨s, hs⟩ : ∃ s : Sl, invSl SA SB sc sd = s := ⟨_, rfl⟩
  have HSS := Lib.hid hs
  rw [hs] at HV0 ⊢
  obtain ⟨W3, hW3⟩ : ∃ W, (w2.alloc (.cells #[.slice SA se.rule.length sc, I se.minute, I se.length, .string se.zone, I se.gap, I se.fold, .slice SB se.moves.length sd] 30)).alloc (.cells (ltVal (inv se p) s) 36) = W := ⟨_, rfl⟩
  rw [hW3] at HV0 ⊢
  try simp only [Act.put, List.setIfInBounds_toArray, List.set_cons_zero, List.set_cons_succ, World.size_alloc]
  obtain ⟨sb, hsb⟩ : ∃ q, w2.heap.size = q := ⟨_, rfl⟩
  rw [hsb] at HV0 ⊢
  have HP : Hid (vc (inv se p) = 0) := Lib.hid (inv_vc HOK.out p hp0 (by omega))
  have HN : Hid ((ltBytes (inv se p) (sbOf (inv se p))).length = 31 + (seBytes se).length) := Lib.hid (inv_len HOK.out p)
  have HX1 := Lib.hid (seBytes_len HOK.out)
  obtain ⟨T, hT⟩ : ∃ T : ByteArray, (⟨(rlTxt se.rule).toArray⟩ : ByteArray) = T := ⟨_, rfl⟩
  have HTT := Lib.hid hT
  clear hs hW3 hsb hT hp0 hp1 HX
  go_wp2_with (with_reducible refine g_load 36 ?_; refine wpList_load_Row rfl _ _ rfl (sb + 1) rfl (ltVal (inv se p) s) HV0.out.lv _ Tryz.underlying36 rfl (size62 _ _ rfl) ?_)
  refine (bytes_var (inv_made HOK.out) HV0.out.mem HLO.out (inv_var se p)).mono ?_
  intro e w3 hp
  unfold BytesPost at hp
  obtain ⟨hp, hb3⟩ := hp
  rw [HP.out, if_pos rfl] at hp
  obtain ⟨v3, rfl, hown⟩ := hp
  obtain ⟨A3, c3, rfl, h31, h32, h33, hby3⟩ := bytesAt_own hown
  have HV3 := Lib.hid (HV0.out.below hb3)
  have HRD : Hid (Calls Tryz.prog 19 #[.slice A3 (ltBytes (inv se p) (sbOf (inv se p))).length c3] w3 (RyPost w3 (inv se p))) := Lib.hid (read_var (inv_made HOK.out) (inv_var se p) HP.out A3 _ c3 h31 h32 hby3 h33 rfl)
  obtain ⟨N, hN⟩ : ∃ N, (ltBytes (inv se p) (sbOf (inv se p))).length = N := ⟨_, rfl⟩
  rw [hN] at HN HRD ⊢
  clear hb3 hown h31 h32 h33 hby3 HV0 hN
  go_wp2_with fail
  refine HRD.out.mono ?_
  rintro e w4 ⟨t, ms, rfl, hm4, hb4⟩
  have HV4 := Lib.hid (HV3.out.below hb4)
  obtain ⟨lo2, hlo2⟩ : ∃ q, q = w3.heap.size := ⟨_, rfl⟩
  have HLO2 : Hid (0 < lo2) := Lib.hid (by have := HV3.out.sv.1; omega)
  rw [← hlo2] at hm4
  have HM4 : Hid (LtMem lo2 w4 (inv se 0) t ms) := Lib.hid (hm4.other rfl rfl)
  clear hm4 hb4 hlo2 HV3 HRD
  go_upto_region 6 with (first
    | (with_reducible refine g_alloc 36 ?_; refine wpList_alloc_as rfl _ rfl (ltVal zLt zSl) lt_zero ?_)
    | (with_reducible refine g_store 36 ?_; refine wpList_store_newrow rfl _ _ _ rfl (ltVal (inv se p) t) rfl rfl 36 (ltVal zLt zSl) rfl (size62 _ _ rfl) rfl (ltVal_one _ _) ?_; intro w5 hb5 hl5 hr5; have HB5 : Hid (LB w sb (sb + 1) w4.heap.size se p s t ns ms lo lo2 w5) := Lib.hid ⟨HV4.out.below hb5, hr5, HM4.out.grow hb5 HLO2.out, HLO2.out⟩; clear hb5 hl5 hr5))
  clear HV4 HM4
  obtain ⟨bb, hbb⟩ : ∃ q, w4.heap.size = q := ⟨_, rfl⟩
  rw [hbb] at HB5 ⊢
  have HOM : Hid (SerOK ms se) := Lib.hid (HB5.out.names HOK.out)
  obtain ⟨X, hX⟩ : ∃ X, (seBytes se).length = X := ⟨_, rfl⟩
  have ks := HB5.out.lv.sv.2
  clear hbb
  go_wp2_with fail
  refine (sbytes_made HOK.out HB5.out.lv.mem HLO.out).mono ?_
  rintro e w6 ⟨vx, rfl, hown, hb6⟩
  obtain ⟨A6, c6, rfl, _, _, _, hby6⟩ := bytesAt_own hown
  rw [hX]
  have HB6 := Lib.hid (HB5.out.below hb6)
  have HY6 := Lib.hid hby6
  obtain ⟨k17, k18, k19, k20, k21, k22, k23⟩ := HB6.out.cells
  clear hown hb6 hby6 ks HB5
  go_wp2_with fail
  refine (sbytes_made HOM.out HB6.out.mem HLO2.out).mono ?_
  rintro e w7 ⟨vy, rfl, hown, hb7⟩
  obtain ⟨A7, c7, rfl, _, _, _, hby7⟩ := bytesAt_own hown
  rw [hX]
  have HB7 := Lib.hid (HB6.out.below hb7)
  have HY7 := Lib.hid hby7
  have HX7 := Lib.hid ((HY6.out.keep hb7).more hb7.size)
  have ks : w7.cell? ⟨sb, 0, none⟩ = some (.slice s.A se.rule.length s.c) := HB7.out.lv.sv.2 0
  clear hown hb7 hby7 k17 k18 k19 k20 k21 k22 k23 HB6 HY6
  go_wp2_with fail
  refine (fmt_made HOK.out HB7.out.lv.mem HB7.out.lv.tabs).mono ?_
  rintro e w8 ⟨rfl, hb8⟩
  rw [HTT.out]
  have HB8 := Lib.hid (HB7.out.below hb8)
  have HY8 := Lib.hid ((HY7.out.keep hb8).more hb8.size)
  have HX8 := Lib.hid ((HX7.out.keep hb8).more hb8.size)
  have k17 : w8.cell? ⟨bb, 17, none⟩ = some (.slice t.A se.rule.length t.c) := HB8.out.cells.1
  clear hb8 ks HB7 HY7 HX7
  go_wp2_with fail
  refine (fmt_made HOM.out HB8.out.mem HB8.out.lv.tabs).mono ?_
  rintro e w9 ⟨rfl, hb9⟩
  rw [HTT.out]
  have HB9 := Lib.hid (HB8.out.below hb9)
  have HY9 := Lib.hid ((HY8.out.keep hb9).more hb9.size)
  have HX9 := Lib.hid ((HX8.out.keep hb9).more hb9.size)
  clear hb9 k17 HB8 HY8 HX8
  have hS0 := HB9.out.below (Below.refl _ w9).drew
  have HSB : Hid (∀ W, LB w sb (sb + 1) bb se p s t ns ms lo lo2 W → Below w9.heap.size w9 W → Calls Tryz.prog 11 #[.slice A6 X c6, .slice A7 X c7] W (Gives (.bool true) W)) := Lib.hid fun W _ hb => by
    have h := sameBytes_any A6 A7 c6 c7 (seBytes se) (seBytes se) W ((HX9.out.keep hb).more hb.size) ((HY9.out.keep hb).more hb.size) (by have := HX1.out.2; omega)
    rw [beq_self_eq_true, hX] at h
    exact h
  have hX2 : X ≤ 1000000 := by rw [← hX]; exact HX1.out.2
  have hw31 : IntKind.i64.wrap (31 + (X : Int)) = (N : Int) := by
    have h1 := HN.out
    rw [hX] at h1
    rw [IntKind.wrap_i64]
    omega
  clear hX HN HX1
  go_wp2_with fail
  refine wp_region_held_drew (S := LB w sb (sb + 1) bb se p s t ns ms lo lo2) (by kernel_rfl) hS0 (fun hH0 => ?_)
  clear hH0
  refine wpAnyH_take_dst (i := 0) (v := I 0) (d := 63) rfl rfl (by kernel_rfl) (by kernel_rfl) (by kernel_rfl) (fun _ _ _ h => h) (Or.inl ⟨by rfl, ?hy0⟩) (by assumption) ?r0
  case hy0 => intro w' hSw; clear hSw; first | (go_simp; done) | (go_simp; with_reducible rfl)
  try simp only [Act.put, List.setIfInBounds_toArray, List.set_cons_zero, List.set_cons_succ]
  refine wpAnyH_take_dst (i := 1) (v := .bool true) (d := 64) rfl rfl (by kernel_rfl) (by kernel_rfl) (by kernel_rfl) (fun _ _ _ h => h) (Or.inl ⟨by rfl, ?hy1⟩) (by assumption) ?r1
  case hy1 => intro w' hSw; clear hSw; first | (go_simp; done) | (go_simp; with_reducible rfl)
  try simp only [Act.put, List.setIfInBounds_toArray, List.set_cons_zero, List.set_cons_succ]
  refine wpAnyH_take_dst (i := 2) (v := .bool true) (d := 65) rfl rfl (by kernel_rfl) (by kernel_rfl) (by kernel_rfl) (fun _ _ _ h => h) (Or.inl ⟨by rfl, ?hy2⟩) (by assumption) ?r2
  case hy2 => intro w' hSw; clear hSw; first | (go_simp; done) | (go_simp; with_reducible rfl)
  try simp only [Act.put, List.setIfInBounds_toArray, List.set_cons_zero, List.set_cons_succ]
  refine wpAnyH_take_dst (i := 3) (v := I 0) (d := 66) rfl rfl (by kernel_rfl) (by kernel_rfl) (by kernel_rfl) (fun _ _ _ h => h) (Or.inl ⟨by rfl, ?hy3⟩) (by assumption) ?r3
  case hy3 => intro w' hSw; clear hSw; first | (go_simp; done) | (go_simp; with_reducible rfl)
  try simp only [Act.put, List.setIfInBounds_toArray, List.set_cons_zero, List.set_cons_succ]
  refine wpAnyH_take_dst (i := 4) (v := .bool true) (d := 67) rfl rfl (by kernel_rfl) (by kernel_rfl) (by kernel_rfl) (fun _ _ _ h => h) (Or.inl ⟨by rfl, ?hy4⟩) (by assumption) ?r4
  case hy4 => intro w' hSw; clear hSw; first | (go_simp; done) | (go_simp; with_reducible rfl)
  try simp only [Act.put, List.setIfInBounds_toArray, List.set_cons_zero, List.set_cons_succ]
  refine wpAnyH_take_dst (i := 5) (v := .bool true) (d := 68) rfl rfl (by kernel_rfl) (by kernel_rfl) (by kernel_rfl) (fun _ _ _ h => h) (Or.inl ⟨by rfl, ?hy5⟩) (by assumption) ?r5
  case hy5 => intro w' hSw; clear hSw; first | (go_simp; done) | (go_simp; with_reducible rfl)
  try simp only [Act.put, List.setIfInBounds_toArray, List.set_cons_zero, List.set_cons_succ]
  refine wpAnyH_take_dst (i := 6) (v := .bool true) (d := 69) rfl rfl (by kernel_rfl) (by kernel_rfl) (by kernel_rfl) (fun _ _ _ h => h) (Or.inl ⟨by rfl, ?hy6⟩) (by assumption) ?r6
  case hy6 => intro w' hSw; clear hSw; first | (go_simp; done) | (go_simp; with_reducible rfl)
  try simp only [Act.put, List.setIfInBounds_toArray, List.set_cons_zero, List.set_cons_succ]
  refine wpAnyH_take_dst (i := 7) (v := I 0) (d := 70) rfl rfl (by kernel_rfl) (by kernel_rfl) (by kernel_rfl) (fun _ _ _ h => h) (Or.inl ⟨by rfl, ?hy7⟩) (by assumption) ?r7
  case hy7 => intro w' hSw; clear hSw; first | (go_simp; done) | (go_simp; with_reducible rfl)
  try simp only [Act.put, List.setIfInBounds_toArray, List.set_cons_zero, List.set_cons_succ]
  refine wpAnyH_take_dst (i := 8) (v := .bool true) (d := 71) rfl rfl (by kernel_rfl) (by kernel_rfl) (by kernel_rfl) (fun _ _ _ h => h) (Or.inl ⟨by rfl, ?hy8⟩) (by assumption) ?r8
  case hy8 => intro w' hSw; clear hSw; first | (go_simp; done) | (go_simp; with_reducible rfl)
  try simp only [Act.put, List.setIfInBounds_toArray, List.set_cons_zero, List.set_cons_succ]
  refine wpAnyH_take_dst (i := 9) (v := .bool true) (d := 72) rfl rfl (by kernel_rfl) (by kernel_rfl) (by kernel_rfl) (fun _ _ _ h => h) (Or.inl ⟨by rfl, ?hy9⟩) (by assumption) ?r9
  case hy9 => intro w' hSw; clear hSw; first | (go_simp; done) | (go_simp; with_reducible rfl)
  try simp only [Act.put, List.setIfInBounds_toArray, List.set_cons_zero, List.set_cons_succ]
  refine wpAnyH_take_dst (i := 10) (v := .bool true) (d := 73) rfl rfl (by kernel_rfl) (by kernel_rfl) (by kernel_rfl) (fun _ _ _ h => h) (Or.inl ⟨by rfl, ?hy10⟩) (by assumption) ?r10
  case hy10 => intro w' hSw; clear hSw; first | (go_simp; done) | (go_simp; with_reducible rfl)
  try simp only [Act.put, List.setIfInBounds_toArray, List.set_cons_zero, List.set_cons_succ]
  refine wpAnyH_take_dst (i := 11) (v := I 0) (d := 74) rfl rfl (by kernel_rfl) (by kernel_rfl) (by kernel_rfl) (fun _ _ _ h => h) (Or.inl ⟨by rfl, ?hy11⟩) (by assumption) ?r11
  case hy11 => intro w' hSw; clear hSw; first | (go_simp; done) | (go_simp; with_reducible rfl)
  try simp only [Act.put, List.setIfInBounds_toArray, List.set_cons_zero, List.set_cons_succ]
  refine wpAnyH_take_dst (i := 12) (v := .bool true) (d := 75) rfl rfl (by kernel_rfl) (by kernel_rfl) (by kernel_rfl) (fun _ _ _ h => h) (Or.inl ⟨by rfl, ?hy12⟩) (by assumption) ?r12
  case hy12 => intro w' hSw; clear hSw; first | (go_simp; done) | (go_simp; with_reducible rfl)
  try simp only [Act.put, List.setIfInBounds_toArray, List.set_cons_zero, List.set_cons_succ]
  refine wpAnyH_take_dst (i := 13) (v := .bool true) (d := 76) rfl rfl (by kernel_rfl) (by kernel_rfl) (by kernel_rfl) (fun _ _ _ h => h) (Or.inl ⟨by rfl, ?hy13⟩) (by assumption) ?r13
  case hy13 => intro w' hSw; clear hSw; first | (go_simp; done) | (go_simp; with_reducible rfl)
  try simp only [Act.put, List.setIfInBounds_toArray, List.set_cons_zero, List.set_cons_succ]
  refine wpAnyH_take_dst (i := 14) (v := .bool true) (d := 77) rfl rfl (by kernel_rfl) (by kernel_rfl) (by kernel_rfl) (fun _ _ _ h => h) (Or.inl ⟨by rfl, ?hy14⟩) (by assumption) ?r14
  case hy14 => intro w' hSw; clear hSw; first | (go_simp; done) | (go_simp; with_reducible rfl)
  try simp only [Act.put, List.setIfInBounds_toArray, List.set_cons_zero, List.set_cons_succ]
  refine wpAnyH_take_dst (i := 15) (v := I 0) (d := 78) rfl rfl (by kernel_rfl) (by kernel_rfl) (by kernel_rfl) (fun _ _ _ h => h) (Or.inl ⟨by rfl, ?hy15⟩) (by assumption) ?r15
  case hy15 => intro w' hSw; clear hSw; first | (go_simp; done) | (go_simp; with_reducible rfl)
  try simp only [Act.put, List.setIfInBounds_toArray, List.set_cons_zero, List.set_cons_succ]
  refine wpAnyH_take_dst (i := 16) (v := .bool true) (d := 79) rfl rfl (by kernel_rfl) (by kernel_rfl) (by kernel_rfl) (fun _ _ _ h => h) (Or.inl ⟨by rfl, ?hy16⟩) (by assumption) ?r16
  case hy16 => intro w' hSw; clear hSw; first | (go_simp; done) | (go_simp; with_reducible rfl)
  try simp only [Act.put, List.setIfInBounds_toArray, List.set_cons_zero, List.set_cons_succ]
  refine wpAnyH_take_dst (i := 17) (v := .bool true) (d := 80) rfl rfl (by kernel_rfl) (by kernel_rfl) (by kernel_rfl) (fun _ _ _ h => h) (Or.inl ⟨by rfl, ?hy17⟩) (by assumption) ?r17
  case hy17 => intro w' hSw; clear hSw; first | (go_simp; done) | (go_simp; with_reducible rfl)
  try simp only [Act.put, List.setIfInBounds_toArray, List.set_cons_zero, List.set_cons_succ]
  refine wpAnyH_take_dst (i := 18) (v := .bool true) (d := 81) rfl rfl (by kernel_rfl) (by kernel_rfl) (by kernel_rfl) (fun _ _ _ h => h) (Or.inl ⟨by rfl, ?hy18⟩) (by assumption) ?r18
  case hy18 => intro w' hSw; clear hSw; first | (go_simp; done) | (go_simp; with_reducible rfl)
  try simp only [Act.put, List.setIfInBounds_toArray, List.set_cons_zero, List.set_cons_succ]
  refine wpAnyH_take_dst (i := 19) (v := I 0) (d := 82) rfl rfl (by kernel_rfl) (by kernel_rfl) (by kernel_rfl) (fun _ _ _ h => h) (Or.inl ⟨by rfl, ?hy19⟩) (by assumption) ?r19
  case hy19 => intro w' hSw; clear hSw; first | (go_simp; done) | (go_simp; with_reducible rfl)
  try simp only [Act.put, List.setIfInBounds_toArray, List.set_cons_zero, List.set_cons_succ]
  refine wpAnyH_take_dst (i := 20) (v := .bool true) (d := 83) rfl rfl (by kernel_rfl) (by kernel_rfl) (by kernel_rfl) (fun _ _ _ h => h) (Or.inl ⟨by rfl, ?hy20⟩) (by assumption) ?r20
  case hy20 => intro w' hSw; clear hSw; first | (go_simp; done) | (go_simp; with_reducible rfl)
  try simp only [Act.put, List.setIfInBounds_toArray, List.set_cons_zero, List.set_cons_succ]
  refine wpAnyH_take_dst (i := 21) (v := .bool true) (d := 84) rfl rfl (by kernel_rfl) (by kernel_rfl) (by kernel_rfl) (fun _ _ _ h => h) (Or.inl ⟨by rfl, ?hy21⟩) (by assumption) ?r21
  case hy21 => intro w' hSw; clear hSw; first | (go_simp; done) | (go_simp; with_reducible rfl)
  try simp only [Act.put, List.setIfInBounds_toArray, List.set_cons_zero, List.set_cons_succ]
  refine wpAnyH_take_dst (i := 22) (v := .bool true) (d := 85) rfl rfl (by kernel_rfl) (by kernel_rfl) (by kernel_rfl) (fun _ _ _ h => h) (Or.inl ⟨by rfl, ?hy22⟩) (by assumption) ?r22
  case hy22 => intro w' hSw; clear hSw; first | (go_simp; done) | (go_simp; with_reducible rfl)
  try simp only [Act.put, List.setIfInBounds_toArray, List.set_cons_zero, List.set_cons_succ]
  refine wpAnyH_take_dst (i := 23) (v := .slice A6 X c6) (d := 86) rfl rfl (by kernel_rfl) (by kernel_rfl) (by kernel_rfl) (fun _ _ _ h => h) (Or.inl ⟨by rfl, ?hy23⟩) (by assumption) ?r23
  case hy23 => intro w' hSw; clear hSw; first | (go_simp; done) | (go_simp; with_reducible rfl)
  try simp only [Act.put, List.setIfInBounds_toArray, List.set_cons_zero, List.set_cons_succ]
  refine wpAnyH_take_dst (i := 24) (v := .slice A7 X c7) (d := 87) rfl rfl (by kernel_rfl) (by kernel_rfl) (by kernel_rfl) (fun _ _ _ h => h) (Or.inl ⟨by rfl, ?hy24⟩) (by assumption) ?r24
  case hy24 => intro w' hSw; clear hSw; first | (go_simp; done) | (go_simp; with_reducible rfl)
  try simp only [Act.put, List.setIfInBounds_toArray, List.set_cons_zero, List.set_cons_succ]
  refine wpAnyH_ready (rs := [25]) (by kernel_rfl) (by simp) ?_
  refine AllReadyH.cons rfl (fun K hK => ?_) AllReadyH.nil
  go_simp
  refine (HSB.out _ hS0 (Below.refl _ w9).drew).mono ?_
  rintro e w10 ⟨rfl, hb10⟩
  have hS10 := hS0.below hb10
  clear hb10
  refine hK.out _ _ hS10 (fun hHeld => ?_)
  clear hHeld hK K
  try simp only [Act.put, List.setIfInBounds_toArray, List.set_cons_zero, List.set_cons_succ]
  refine wpAnyH_take_dst (i := 26) (v := .bool true) (d := 89) rfl rfl (by kernel_rfl) (by kernel_rfl) (by kernel_rfl) (fun _ _ _ h => h) (Or.inl ⟨by rfl, ?hy26⟩) (by assumption) ?r26
  case hy26 => intro w' hSw; clear hSw; first | (go_simp; done) | (go_simp; with_reducible rfl)
  try simp only [Act.put, List.setIfInBounds_toArray, List.set_cons_zero, List.set_cons_succ]
  refine wpAnyH_take_dst (i := 27) (v := .bool true) (d := 90) rfl rfl (by kernel_rfl) (by kernel_rfl) (by kernel_rfl) (fun _ _ _ h => h) (Or.inl ⟨by rfl, ?hy27⟩) (by assumption) ?r27
  case hy27 => intro w' hSw; clear hSw; first | (go_simp; done) | (go_simp; with_reducible rfl)
  try simp only [Act.put, List.setIfInBounds_toArray, List.set_cons_zero, List.set_cons_succ]
  refine wpAnyH_take_dst (i := 28) (v := .string T) (d := 91) rfl rfl (by kernel_rfl) (by kernel_rfl) (by kernel_rfl) (fun _ _ _ h => h) (Or.inl ⟨by rfl, ?hy28⟩) (by assumption) ?r28
  case hy28 => intro w' hSw; clear hSw; first | (go_simp; done) | (go_simp; with_reducible rfl)
  try simp only [Act.put, List.setIfInBounds_toArray, List.set_cons_zero, List.set_cons_succ]
  refine wpAnyH_take_dst (i := 29) (v := .string T) (d := 92) rfl rfl (by kernel_rfl) (by kernel_rfl) (by kernel_rfl) (fun _ _ _ h => h) (Or.inl ⟨by rfl, ?hy29⟩) (by assumption) ?r29
  case hy29 => intro w' hSw; clear hSw; first | (go_simp; done) | (go_simp; with_reducible rfl)
  try simp only [Act.put, List.setIfInBounds_toArray, List.set_cons_zero, List.set_cons_succ]
  refine wpAnyH_take_dst (i := 30) (v := .bool true) (d := 93) rfl rfl (by kernel_rfl) (by kernel_rfl) (by kernel_rfl) (fun _ _ _ h => h) (Or.inl ⟨by rfl, ?hy30⟩) (by assumption) ?r30
  case hy30 => intro w' hSw; clear hSw; first | (go_simp; done) | (go_simp; with_reducible rfl)
  try simp only [Act.put, List.setIfInBounds_toArray, List.set_cons_zero, List.set_cons_succ]
  refine wpAnyH_take_dst (i := 31) (v := .bool true) (d := 94) rfl rfl (by kernel_rfl) (by kernel_rfl) (by kernel_rfl) (fun _ _ _ h => h) (Or.inl ⟨by rfl, ?hy31⟩) (by assumption) ?r31
  case hy31 => intro w' hSw; clear hSw; first | (go_simp; done) | (go_simp; with_reducible rfl)
  try simp only [Act.put, List.setIfInBounds_toArray, List.set_cons_zero, List.set_cons_succ]
  refine wpAnyH_take_dst (i := 32) (v := .bool true) (d := 95) rfl rfl (by kernel_rfl) (by kernel_rfl) (by kernel_rfl) (fun _ _ _ h => h) (Or.inl ⟨by rfl, ?hy32⟩) (by assumption) ?r32
  case hy32 => intro w' hSw; clear hSw; first | (go_simp; done) | (go_simp; with_reducible rfl)
  try simp only [Act.put, List.setIfInBounds_toArray, List.set_cons_zero, List.set_cons_succ]
  refine wpAnyH_take_dst (i := 33) (v := .slice A3 N c3) (d := 96) rfl rfl (by kernel_rfl) (by kernel_rfl) (by kernel_rfl) (fun _ _ _ h => h) (Or.inl ⟨by rfl, ?hy33⟩) (by assumption) ?r33
  case hy33 => intro w' hSw; clear hSw; first | (go_simp; done) | (go_simp; with_reducible rfl)
  try simp only [Act.put, List.setIfInBounds_toArray, List.set_cons_zero, List.set_cons_succ]
  refine wpAnyH_take_dst (i := 34) (v := I N) (d := 97) rfl rfl (by kernel_rfl) (by kernel_rfl) (by kernel_rfl) (fun _ _ _ h => h) (Or.inl ⟨by rfl, ?hy34⟩) (by assumption) ?r34
  case hy34 => intro w' hSw; clear hSw; first | (go_simp; done) | (go_simp; with_reducible rfl)
  try simp only [Act.put, List.setIfInBounds_toArray, List.set_cons_zero, List.set_cons_succ]
  refine wpAnyH_take_dst (i := 35) (v := .slice A6 X c6) (d := 98) rfl rfl (by kernel_rfl) (by kernel_rfl) (by kernel_rfl) (fun _ _ _ h => h) (Or.inl ⟨by rfl, ?hy35⟩) (by assumption) ?r35
  case hy35 => intro w' hSw; clear hSw; first | (go_simp; done) | (go_simp; with_reducible rfl)
  try simp only [Act.put, List.setIfInBounds_toArray, List.set_cons_zero, List.set_cons_succ]
  refine wpAnyH_take_dst (i := 36) (v := I X) (d := 99) rfl rfl (by kernel_rfl) (by kernel_rfl) (by kernel_rfl) (fun _ _ _ h => h) (Or.inl ⟨by rfl, ?hy36⟩) (by assumption) ?r36
  case hy36 => intro w' hSw; clear hSw; first | (go_simp; done) | (go_simp; with_reducible rfl)
  try simp only [Act.put, List.setIfInBounds_toArray, List.set_cons_zero, List.set_cons_succ]
  refine wpAnyH_take_dst (i := 37) (v := I N) (d := 100) rfl rfl (by kernel_rfl) (by kernel_rfl) (by kernel_rfl) (fun _ _ _ h => h) (Or.inl ⟨by rfl, ?hy37⟩) (by assumption) ?r37
  case hy37 => intro w' hSw; clear hSw; first | (go_simp; done) | (go_simp; with_reducible rfl)
  try simp only [Act.put, List.setIfInBounds_toArray, List.set_cons_zero, List.set_cons_succ]
  refine wpAnyH_take_dst (i := 38) (v := .bool true) (d := 101) rfl rfl (by kernel_rfl) (by kernel_rfl) (by kernel_rfl) (fun _ _ _ h => h) (Or.inl ⟨by rfl, ?hy38⟩) (by assumption) ?r38
  case hy38 => intro w' hSw; clear hSw; first | (go_simp; done) | (go_simp; with_reducible rfl)
  try simp only [Act.put, List.setIfInBounds_toArray, List.set_cons_zero, List.set_cons_succ]
  refine wpAnyH_take_dst (i := 39) (v := .bool true) (d := 102) rfl rfl (by kernel_rfl) (by kernel_rfl) (by kernel_rfl) (fun _ _ _ h => h) (Or.inl ⟨by rfl, ?hy39⟩) (by assumption) ?r39
  case hy39 => intro w' hSw; clear hSw; first | (go_simp; done) | (go_simp; with_reducible rfl)
  try simp only [Act.put, List.setIfInBounds_toArray, List.set_cons_zero, List.set_cons_succ]
  refine wpAnyH_take_dst (i := 40) (v := .bool true) (d := 103) rfl rfl (by kernel_rfl) (by kernel_rfl) (by kernel_rfl) (fun _ _ _ h => h) (Or.inl ⟨by rfl, ?hy40⟩) (by assumption) ?r40
  case hy40 => intro w' hSw; clear hSw; first | (go_simp; done) | (go_simp; with_reducible rfl)
  try simp only [Act.put, List.setIfInBounds_toArray, List.set_cons_zero, List.set_cons_succ]
  refine wpAnyH_take_dst (i := 41) (v := .pointer (some ⟨bb, 17, none⟩)) (d := 104) rfl rfl (by kernel_rfl) (by kernel_rfl) (by kernel_rfl) (fun _ _ _ h => h) (Or.inl ⟨by rfl, ?hy41⟩) (by assumption) ?r41
  case hy41 => intro w' hSw; clear hSw; first | (go_simp; done) | (go_simp; with_reducible rfl)
  try simp only [Act.put, List.setIfInBounds_toArray, List.set_cons_zero, List.set_cons_succ]
  refine wpAnyH_take_dst (i := 42) (v := .agg #[.slice t.A se.rule.length t.c, I se.minute, I se.length, .string se.zone, I se.gap, I se.fold, .slice t.B se.moves.length t.d]) (d := 105) rfl rfl (by kernel_rfl) (by kernel_rfl) (by kernel_rfl) (fun _ _ _ h => h) (Or.inl ⟨by rfl, ?hy42⟩) (by assumption) ?r42
  case hy42 => intro w' hSw; obtain ⟨k17, k18, k19, k20, k21, k22, k23⟩ := hSw.cells; clear hSw; first | (go_simp; done) | (go_simp; with_reducible rfl)
  try simp only [Act.put, List.setIfInBounds_toArray, List.set_cons_zero, List.set_cons_succ]
  refine wpAnyH_ready (rs := [43]) (by kernel_rfl) (by simp) ?_
  refine AllReadyH.cons rfl (fun K hK => ?_) AllReadyH.nil
  go_simp
  refine (refCalendars _).mono ?_
  rintro e w11 ⟨cb, cc, xc, rfl, hca, hb11⟩
  have hS11 := hS10.below hb11
  have HCA := Lib.hid hca
  clear hb11 hca
  refine hK.out _ _ hS11 (fun hHeld => ?_)
  clear hHeld hK K
  try simp only [Act.put, List.setIfInBounds_toArray, List.set_cons_zero, List.set_cons_succ]
  refine wpAnyH_ready (rs := [44]) (by kernel_rfl) (by simp) ?_
  refine AllReadyH.cons rfl (fun K hK => ?_) AllReadyH.nil
  go_simp
  refine (sval_made HOM.out hS11.mem HCA.out).mono ?_
  rintro e w12 ⟨rfl, hb12⟩
  have hS12 := hS11.below hb12
  clear hb12
  refine hK.out _ _ hS12 (fun hHeld => ?_)
  clear hHeld hK K
  try simp only [Act.put, List.setIfInBounds_toArray, List.set_cons_zero, List.set_cons_succ]
  refine wpAnyH_take_dst (i := 45) (v := .bool true) (d := 108) rfl rfl (by kernel_rfl) (by kernel_rfl) (by kernel_rfl) (fun _ _ _ h => h) (Or.inl ⟨by rfl, ?hy45⟩) (by assumption) ?r45
  case hy45 => intro w' hSw; clear hSw; first | (go_simp; done) | (go_simp; with_reducible rfl)
  try simp only [Act.put, List.setIfInBounds_toArray, List.set_cons_zero, List.set_cons_succ]
  refine wpAnyH_take_dst (i := 46) (v := .bool true) (d := 109) rfl rfl (by kernel_rfl) (by kernel_rfl) (by kernel_rfl) (fun _ _ _ h => h) (Or.inl ⟨by rfl, ?hy46⟩) (by assumption) ?r46
  case hy46 => intro w' hSw; clear hSw; first | (go_simp; done) | (go_simp; with_reducible rfl)
  try simp only [Act.put, List.setIfInBounds_toArray, List.set_cons_zero, List.set_cons_succ]
  refine wpAnyH_take_dst (i := 47) (v := .bool true) (d := 110) rfl rfl (by kernel_rfl) (by kernel_rfl) (by kernel_rfl) (fun _ _ _ h => h) (Or.inl ⟨by rfl, ?hy47⟩) (by assumption) ?r47
  case hy47 => intro w' hSw; clear hSw; first | (go_simp; done) | (go_simp; with_reducible rfl)
  try simp only [Act.put, List.setIfInBounds_toArray, List.set_cons_zero, List.set_cons_succ]
  refine wpAnyH_take_dst (i := 48) (v := .bool true) (d := 111) rfl rfl (by kernel_rfl) (by kernel_rfl) (by kernel_rfl) (fun _ _ _ h => h) (Or.inl ⟨by rfl, ?hy48⟩) (by assumption) ?r48
  case hy48 => intro w' hSw; clear hSw; first | (go_simp; done) | (go_simp; with_reducible rfl)
  try simp only [Act.put, List.setIfInBounds_toArray, List.set_cons_zero, List.set_cons_succ]
  refine wpAnyH_take_dst (i := 49) (v := .bool true) (d := 112) rfl rfl (by kernel_rfl) (by kernel_rfl) (by kernel_rfl) (fun _ _ _ h => h) (Or.inl ⟨by rfl, ?hy49⟩) (by assumption) ?r49
  case hy49 => intro w' hSw; clear hSw; first | (go_simp; done) | (go_simp; with_reducible rfl)
  try simp only [Act.put, List.setIfInBounds_toArray, List.set_cons_zero, List.set_cons_succ]
  refine wpAnyH_take_dst (i := 50) (v := .bool true) (d := 4) rfl rfl (by kernel_rfl) (by kernel_rfl) (by kernel_rfl) (fun _ _ _ h => h) (Or.inl ⟨by rfl, ?hy50⟩) (by assumption) ?r50
  case hy50 => intro w' hSw; clear hSw; first | (go_simp; done) | (go_simp; with_reducible rfl)
  try simp only [Act.put, List.setIfInBounds_toArray, List.set_cons_zero, List.set_cons_succ]
  refine wpAnyH_done (by kernel_rfl) ?_ _
  have HF := Lib.hid hS12
  clear hS0 hS10 hS11 hS12
  go_wp2_with fail
  go_ret
  exact ⟨rfl, HF.out.lv.up⟩
end Go.Proofs.YtenbgpcdoljkgaaGreatDoor
