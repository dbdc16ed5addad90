/- The texts Unused, in this order. -/
import Derived.Test.YtpgagfmpikhpkaaGreatDoorG14
/- kalendslaw20.LetterUnused: for every input it returns true. (Printed by gen_unused.py.) -/
namespace Go.Proofs.YtpgagfmpikhpkaaGreatDoor
open Go Go.RowKit

/-- The letter and its neighbour, as they lie. -/
structure US (w : World) (lo : Nat) (l : Lt) (s : Sl) (ns : List NdV) (m : Lt) (lb mb : Nat) (W : World) : Prop where
  rl : Row W lb (ltVal l s)
  rm : Row W mb (ltVal m s)
  mem : LtMem lo W l s ns
  hlo : 0 < lo
  lo : Below w.heap.size w W
section
variable {w W W' : World} {lo lb mb : Nat} {l m : Lt} {s : Sl} {ns : List NdV}
theorem US.below (h : US w lo l s ns m lb mb W) (hb : Below W.heap.size W W') : US w lo l s ns m lb mb W' := ⟨h.rl.keep hb, h.rm.keep hb, h.mem.grow hb h.hlo, h.hlo, below_trans h.lo hb⟩
theorem US.drew (h : US w lo l s ns m lb mb W) : US w lo l s ns m lb mb W.drew := h.below (Below.refl _ W).drew
end
theorem nat_of {x : Int} (h0 : 0 ≤ x) : ∃ n : Nat, x = n := ⟨x.toNat, by omega⟩
theorem digest_z : (Tryz.prog.info? 34).map (fun i => (i.zero, i.size)) = some (some (.agg zDig), zDig.size) := zDig_info
attribute [local go_sem] ltVal_get lt_get0
set_option maxRecDepth 10000 in
set_option maxHeartbeats 4000000 in
theorem letterUnused_any (w : World) (A : Option Addr) (n c : Nat) (xs : List Int) (f x : Int) (hn : xs.length = n) (hA : IntsAt w w.heap.size A xs) (hfit : ∀ j, j < xs.length → fits (xs[j]?.getD 0)) (hc : n ≤ c) (hbig : c ≤ 9223372036854775807) (ff : fits f) :
    Calls Tryz.prog 3 #[.slice A n c, I f, I x] w (Gives (.bool true) w) := by
  have HM : Hid (∀ w', Below w.heap.size w w' → Calls Tryz.prog 5 #[.slice A n c] w' (MadeQ w')) := Lib.hid fun w' hb => refMade_any w' A n c xs hn ((hA.keep hb).more hb.size) hfit hc hbig
  have HFF := Lib.hid ff
  clear hA hfit hn hc hbig ff
  go_enter Tryz.func3, Tryz.ntmps3
  go_wp2_with fail
  refine (sanity_any _).mono ?_
  rintro e w1 ⟨rfl, hb1⟩
  have HB1 := Lib.hid hb1
  clear hb1
  go_wp2_with fail
  refine (HM.out _ HB1.out).mono ?_
  rintro e w2 ⟨l, s, ns, rfl, hml, hmem, hb2⟩
  have HL := Lib.hid hml
  have HR := Lib.hid hml.ref
  have HB2 := Lib.hid (below_trans HB1.out hb2)
  have HMEM := Lib.hid hmem
  obtain ⟨lo, hlo⟩ : ∃ lo, w1.heap.size + 2 = lo := ⟨_, rfl⟩
  rw [hlo] at HMEM
  have hlo0 : 0 < lo := by omega
  clear hml hmem hb2 HM hlo
  go_wp2_with (refine wpList_var_row rfl rfl _ _ _ rfl rfl rfl rfl _ (ltVal l s) (lt_info' l s HR.out) (sz_eq l s HR.out) rfl rfl (ltVal_one _ _) ?_)
  obtain ⟨k, hk⟩ : ∃ k : Nat, f % 17 = (k : Int) := nat_of (by omega)
  have hk17 : k < 17 := by omega
  refine (refMod_any f 17 _ (by omega) (by omega) HFF.out).mono ?_
  rintro e w3 ⟨rfl, rfl⟩
  rw [hk]
  have HB3 := Lib.hid (below_trans HB2.out (below_var w2 (.cells (ltVal l s) 36)))
  have HRL := Lib.hid (Row.new w2 (ltVal l s) 36)
  have HMEM3 := Lib.hid (HMEM.out.grow (below_var w2 (.cells (ltVal l s) 36)) hlo0)
  obtain ⟨lb, hlb⟩ : ∃ lb, w2.heap.size = lb := ⟨_, rfl⟩
  rw [hlb] at HRL
  obtain ⟨W3, hW3⟩ : ∃ W, w2.alloc (.cells (ltVal l s) 36) = W := ⟨_, rfl⟩
  rw [hW3] at HRL HB3 HMEM3
  rw [hlb, hW3]
  clear hk hlb hW3 HB2 HMEM HB1 HFF
  go_wp2_with (with_reducible refine g_load 36 ?_; refine wpList_load_Row rfl _ _ rfl lb rfl (ltVal l s) HRL.out _ Tryz.underlying36 rfl (size62 _ _ HR.out) ?_)
  refine (setNumber_any l s k hk17 x _ HR.out).mono ?_
  rintro e w4 ⟨rfl, hb4⟩
  have HRM : Hid ((setNum l k x).ref.length = 32) := Lib.hid (by rw [setNum_ref]; exact HR.out)
  have HS4 : Hid (US w lo l s ns (setNum l k x) lb w4.heap.size (w4.alloc (.cells (ltVal (setNum l k x) s) 36))) := Lib.hid (by
    have h5 := below_var w4 (.cells (ltVal (setNum l k x) s) 36)
    exact ⟨(HRL.out.keep hb4).keep h5, Row.new _ _ _, (HMEM3.out.grow hb4 hlo0).grow h5 hlo0, hlo0, below_trans (below_trans HB3.out hb4) h5⟩)
  clear hb4 HRL HMEM3 HB3
  have HSL : Hid (∀ W, US w lo l s ns (setNum l k x) lb w4.heap.size W → Calls Tryz.prog 10 #[.agg (ltVal l s), .agg (ltVal (setNum l k x) s)] W (Gives (.bool (numsEq l (setNum l k x))) W)) := Lib.hid fun W h => sameL_num l s ns lo k x W HL.out h.mem h.hlo
  have HSR : Hid (∀ W, US w lo l s ns (setNum l k x) lb w4.heap.size W → Calls Tryz.prog 9 #[.agg (ltVal l s), .agg (ltVal (setNum l k x) s)] W (Gives (.bool (numsEq l (setNum l k x))) W)) := Lib.hid fun W h => refSame_num l s ns lo k x W HL.out h.mem h.hlo
  have HBAD : Hid (usesB l.kind k = false → numsEq l (setNum l k x) = false → bodyOK (setNum l k x) = false) := Lib.hid fun hu hv => by
    rw [numsEq_num l k hk17 x, Bool.or_eq_false_iff] at hv
    have h0 := HL.out.unused k hk17 hu
    refine unused_bad k hk17 hu x ?_ (by cases h : numOff k with | none => rw [h] at hv; cases hv.1 | some o => rfl)
    rintro rfl
    have := hv.2
    rw [h0] at this
    cases this
  have HOK : Hid (LtOK (setNum l k x)) := Lib.hid (HL.out.ok.num k x)
  have HHD : Hid (headOK (setNum l k x) = true) := Lib.hid (by rw [head_num]; exact HL.out.head)
  have HCE : Hid ((setNum l k x).cells = l.cells) := Lib.hid (setNum_cellsL _ _ _)
  obtain ⟨m, hm⟩ : ∃ m, setNum l k x = m := ⟨_, rfl⟩
  obtain ⟨mb, hmb⟩ : ∃ mb, w4.heap.size = mb := ⟨_, rfl⟩
  obtain ⟨W4, hW4⟩ : ∃ W, w4.alloc (.cells (ltVal (setNum l k x) s) 36) = W := ⟨_, rfl⟩
  have HW4 := Lib.hid hW4
  have HMB := Lib.hid hmb
  have HMM := Lib.hid hm
  rw [hW4, hmb, hm] at HS4
  rw [hmb, hm] at HSL HSR
  rw [hm] at HRM HBAD HOK HHD HCE ⊢
  clear hm hmb hW4
  obtain ⟨kn, hkn⟩ : ∃ kn : Nat, l.kind = (kn : Int) := nat_of (by have := HL.out.kinds; omega)
  have hk1 : 1 ≤ kn ∧ kn ≤ 18 := by have := HL.out.kinds; omega
  have HKN := Lib.hid hkn
  have fl0 : W4.cell? ⟨lb, 0, none⟩ = some (I kn) := by rw [← hkn]; exact HS4.out.rl.2 0
  clear hkn
  go_wp2_with (first
    | (refine wpList_var_row rfl rfl _ _ _ rfl rfl rfl rfl _ (ltVal m s) (lt_info' m s HRM.out) (sz_eq m s HRM.out) rfl rfl (ltVal_one _ _) ?_; rw [HMB.out, ← HMM.out, HW4.out, HMM.out]))
  refine (refUses_any kn hk1.1 hk1.2 k W4).mono ?_
  rintro e w5 ⟨rfl, hb5⟩
  obtain ⟨u, hu⟩ : ∃ u, (fieldsL kn).contains (k : Int) = u := ⟨_, rfl⟩
  have HU : Hid (usesB l.kind k = u) := Lib.hid (by rw [HKN.out, ← fields_uses kn (by omega) k hk17]; exact hu)
  rw [hu]
  have HS5 := Lib.hid (HS4.out.below hb5)
  obtain ⟨v, hv⟩ : ∃ v, numsEq l m = v := ⟨_, rfl⟩
  have HV := Lib.hid hv
  clear hb5 hu fl0 HS4 HW4 HMB HMM hv
  cases u with
  | true =>
    cases v with
    | true =>
      go_wp2_with fail
      have hS5 := HS5.out.drew
      refine wp_region_held_drew (S := US w lo l s ns m lb mb) (by kernel_rfl) hS5 (fun hH0 => ?_)
      refine wpAnyH_take_dst (i := 0) (v := _) (d := 33) rfl rfl (by kernel_rfl) (by kernel_rfl) (by kernel_rfl) (fun _ _ _ h => h) (yieldsIf_load_Row (by rfl) _ _ rfl lb rfl (ltVal l s) _ (fun w' h => h.rl) Tryz.underlying36 rfl (size62 _ _ HR.out)) (by assumption) ?r0q2
      try simp only [Act.put, List.setIfInBounds_toArray, List.set_cons_zero, List.set_cons_succ]
      refine wpAnyH_take_dst (i := 1) (v := _) (d := 34) rfl rfl (by kernel_rfl) (by kernel_rfl) (by kernel_rfl) (fun _ _ _ h => h) (yieldsIf_load_Row (by rfl) _ _ rfl mb rfl (ltVal m s) _ (fun w' h => h.rm) Tryz.underlying36 rfl (size62 _ _ HRM.out)) (by assumption) ?r1q2
      try simp only [Act.put, List.setIfInBounds_toArray, List.set_cons_zero, List.set_cons_succ]
      refine wpAnyH_take_dst (i := 3) (v := _) (d := 36) rfl rfl (by kernel_rfl) (by kernel_rfl) (by kernel_rfl) (fun _ _ _ h => h) (yieldsIf_load_Row (by rfl) _ _ rfl lb rfl (ltVal l s) _ (fun w' h => h.rl) Tryz.underlying36 rfl (size62 _ _ HR.out)) (by assumption) ?r3q2
      try simp only [Act.put, List.setIfInBounds_toArray, List.set_cons_zero, List.set_cons_succ]
      refine wpAnyH_take_dst (i := 4) (v := _) (d := 37) rfl rfl (by kernel_rfl) (by kernel_rfl) (by kernel_rfl) (fun _ _ _ h => h) (yieldsIf_load_Row (by rfl) _ _ rfl mb rfl (ltVal m s) _ (fun w' h => h.rm) Tryz.underlying36 rfl (size62 _ _ HRM.out)) (by assumption) ?r4q2
      try simp only [Act.put, List.setIfInBounds_toArray, List.set_cons_zero, List.set_cons_succ]
      refine wpAnyH_ready (rs := [2]) (by kernel_rfl) (by simp) ?_
      refine AllReadyH.cons rfl (fun K hK => ?_) AllReadyH.nil
      go_simp
      refine (HSL.out _ hS5).mono ?_
      rintro x w6 ⟨rfl, hb6⟩
      have hS6 := hS5.below hb6
      clear hb6
      rw [HV.out]
      refine hK.out _ _ hS6 (fun hHeld => ?_)
      clear hHeld
      clear hK K
      try simp only [Act.put, List.setIfInBounds_toArray, List.set_cons_zero, List.set_cons_succ]
      refine wpAnyH_ready (rs := [5]) (by kernel_rfl) (by simp) ?_
      refine AllReadyH.cons rfl (fun K hK => ?_) AllReadyH.nil
      go_simp
      refine (HSR.out _ hS6).mono ?_
      rintro x w7 ⟨rfl, hb7⟩
      have hS7 := hS6.below hb7
      clear hb7
      rw [HV.out]
      refine hK.out _ _ hS7 (fun hHeld => ?_)
      clear hHeld
      clear hK K
      try simp only [Act.put, List.setIfInBounds_toArray, List.set_cons_zero, List.set_cons_succ]
      refine wpAnyH_take_dst (i := 6) (v := ?v6q2) (d := 39) rfl rfl (by kernel_rfl) (by kernel_rfl) (by kernel_rfl) (fun _ _ _ h => h) (Or.inl ⟨by rfl, ?hy6q2⟩) (by assumption) ?r6q2
      case hy6q2 => intro w' hSw; first | (go_simp; done) | (go_simp; with_reducible rfl)
      try simp only [Act.put, List.setIfInBounds_toArray, List.set_cons_zero, List.set_cons_succ]
      refine wpAnyH_take_dst (i := 7) (v := ?v7q2) (d := 40) rfl rfl (by kernel_rfl) (by kernel_rfl) (by kernel_rfl) (fun _ _ _ h => h) (Or.inl ⟨by rfl, ?hy7q2⟩) (by assumption) ?r7q2
      case hy7q2 => intro w' hSw; first | (go_simp; done) | (go_simp; with_reducible rfl)
      try simp only [Act.put, List.setIfInBounds_toArray, List.set_cons_zero, List.set_cons_succ]
      refine wpAnyH_take_dst (i := 8) (v := ?v8q2) (d := 41) rfl rfl (by kernel_rfl) (by kernel_rfl) (by kernel_rfl) (fun _ _ _ h => h) (Or.inl ⟨by rfl, ?hy8q2⟩) (by assumption) ?r8q2
      case hy8q2 => intro w' hSw; first | (go_simp; done) | (go_simp; with_reducible rfl)
      try simp only [Act.put, List.setIfInBounds_toArray, List.set_cons_zero, List.set_cons_succ]
      refine wpAnyH_take_dst (i := 9) (v := ?v9q2) (d := 42) rfl rfl (by kernel_rfl) (by kernel_rfl) (by kernel_rfl) (fun _ _ _ h => h) (Or.inl ⟨by rfl, ?hy9q2⟩) (by assumption) ?r9q2
      case hy9q2 => intro w' hSw; first | (go_simp; done) | (go_simp; with_reducible rfl)
      try simp only [Act.put, List.setIfInBounds_toArray, List.set_cons_zero, List.set_cons_succ]
      refine wpAnyH_take_dst (i := 10) (v := ?v10q2) (d := 6) rfl rfl (by kernel_rfl) (by kernel_rfl) (by kernel_rfl) (fun _ _ _ h => h) (Or.inl ⟨by rfl, ?hy10q2⟩) (by assumption) ?r10q2
      case hy10q2 => intro w' hSw; first | (go_simp; done) | (go_simp; with_reducible rfl)
      try simp only [Act.put, List.setIfInBounds_toArray, List.set_cons_zero, List.set_cons_succ]
      refine wpAnyH_done (by kernel_rfl) ?_ _
      clear hH0
      go_wp2_with fail
      go_ret
      exact ⟨rfl, hS7.lo⟩
    | false =>
      go_wp2_with fail
      have hS5 := HS5.out.drew
      refine wp_region_held_drew (S := US w lo l s ns m lb mb) (by kernel_rfl) hS5 (fun hH0 => ?_)
      refine wpAnyH_take_dst (i := 0) (v := _) (d := 33) rfl rfl (by kernel_rfl) (by kernel_rfl) (by kernel_rfl) (fun _ _ _ h => h) (yieldsIf_load_Row (by rfl) _ _ rfl lb rfl (ltVal l s) _ (fun w' h => h.rl) Tryz.underlying36 rfl (size62 _ _ HR.out)) (by assumption) ?r0q3
      try simp only [Act.put, List.setIfInBounds_toArray, List.set_cons_zero, List.set_cons_succ]
      refine wpAnyH_take_dst (i := 1) (v := _) (d := 34) rfl rfl (by kernel_rfl) (by kernel_rfl) (by kernel_rfl) (fun _ _ _ h => h) (yieldsIf_load_Row (by rfl) _ _ rfl mb rfl (ltVal m s) _ (fun w' h => h.rm) Tryz.underlying36 rfl (size62 _ _ HRM.out)) (by assumption) ?r1q3
      try simp only [Act.put, List.setIfInBounds_toArray, List.set_cons_zero, List.set_cons_succ]
      refine wpAnyH_take_dst (i := 3) (v := _) (d := 36) rfl rfl (by kernel_rfl) (by kernel_rfl) (by kernel_rfl) (fun _ _ _ h => h) (yieldsIf_load_Row (by rfl) _ _ rfl lb rfl (ltVal l s) _ (fun w' h => h.rl) Tryz.underlying36 rfl (size62 _ _ HR.out)) (by assumption) ?r3q3
      try simp only [Act.put, List.setIfInBounds_toArray, List.set_cons_zero, List.set_cons_succ]
      refine wpAnyH_take_dst (i := 4) (v := _) (d := 37) rfl rfl (by kernel_rfl) (by kernel_rfl) (by kernel_rfl) (fun _ _ _ h => h) (yieldsIf_load_Row (by rfl) _ _ rfl mb rfl (ltVal m s) _ (fun w' h => h.rm) Tryz.underlying36 rfl (size62 _ _ HRM.out)) (by assumption) ?r4q3
      try simp only [Act.put, List.setIfInBounds_toArray, List.set_cons_zero, List.set_cons_succ]
      refine wpAnyH_ready (rs := [2]) (by kernel_rfl) (by simp) ?_
      refine AllReadyH.cons rfl (fun K hK => ?_) AllReadyH.nil
      go_simp
      refine (HSL.out _ hS5).mono ?_
      rintro x w6 ⟨rfl, hb6⟩
      have hS6 := hS5.below hb6
      clear hb6
      rw [HV.out]
      refine hK.out _ _ hS6 (fun hHeld => ?_)
      clear hHeld
      clear hK K
      try simp only [Act.put, List.setIfInBounds_toArray, List.set_cons_zero, List.set_cons_succ]
      refine wpAnyH_ready (rs := [5]) (by kernel_rfl) (by simp) ?_
      refine AllReadyH.cons rfl (fun K hK => ?_) AllReadyH.nil
      go_simp
      refine (HSR.out _ hS6).mono ?_
      rintro x w7 ⟨rfl, hb7⟩
      have hS7 := hS6.below hb7
      clear hb7
      rw [HV.out]
      refine hK.out _ _ hS7 (fun hHeld => ?_)
      clear hHeld
      clear hK K
      try simp only [Act.put, List.setIfInBounds_toArray, List.set_cons_zero, List.set_cons_succ]
      refine wpAnyH_take_dst (i := 6) (v := ?v6q3) (d := 39) rfl rfl (by kernel_rfl) (by kernel_rfl) (by kernel_rfl) (fun _ _ _ h => h) (Or.inl ⟨by rfl, ?hy6q3⟩) (by assumption) ?r6q3
      case hy6q3 => intro w' hSw; first | (go_simp; done) | (go_simp; with_reducible rfl)
      try simp only [Act.put, List.setIfInBounds_toArray, List.set_cons_zero, List.set_cons_succ]
      refine wpAnyH_take_dst (i := 7) (v := ?v7q3) (d := 40) rfl rfl (by kernel_rfl) (by kernel_rfl) (by kernel_rfl) (fun _ _ _ h => h) (Or.inl ⟨by rfl, ?hy7q3⟩) (by assumption) ?r7q3
      case hy7q3 => intro w' hSw; first | (go_simp; done) | (go_simp; with_reducible rfl)
      try simp only [Act.put, List.setIfInBounds_toArray, List.set_cons_zero, List.set_cons_succ]
      refine wpAnyH_take_dst (i := 8) (v := ?v8q3) (d := 41) rfl rfl (by kernel_rfl) (by kernel_rfl) (by kernel_rfl) (fun _ _ _ h => h) (Or.inl ⟨by rfl, ?hy8q3⟩) (by assumption) ?r8q3
      case hy8q3 => intro w' hSw; first | (go_simp; done) | (go_simp; with_reducible rfl)
      try simp only [Act.put, List.setIfInBounds_toArray, List.set_cons_zero, List.set_cons_succ]
      refine wpAnyH_take_dst (i := 9) (v := ?v9q3) (d := 42) rfl rfl (by kernel_rfl) (by kernel_rfl) (by kernel_rfl) (fun _ _ _ h => h) (Or.inl ⟨by rfl, ?hy9q3⟩) (by assumption) ?r9q3
      case hy9q3 => intro w' hSw; first | (go_simp; done) | (go_simp; with_reducible rfl)
      try simp only [Act.put, List.setIfInBounds_toArray, List.set_cons_zero, List.set_cons_succ]
      refine wpAnyH_take_dst (i := 10) (v := ?v10q3) (d := 6) rfl rfl (by kernel_rfl) (by kernel_rfl) (by kernel_rfl) (fun _ _ _ h => h) (Or.inl ⟨by rfl, ?hy10q3⟩) (by assumption) ?r10q3
      case hy10q3 => intro w' hSw; first | (go_simp; done) | (go_simp; with_reducible rfl)
      try simp only [Act.put, List.setIfInBounds_toArray, List.set_cons_zero, List.set_cons_succ]
      refine wpAnyH_done (by kernel_rfl) ?_ _
      clear hH0
      go_wp2_with fail
      go_ret
      exact ⟨rfl, hS7.lo⟩
  | false =>
    go_wp2_with (first
      | (with_reducible refine g_load 36 ?_; refine wpList_load_Row rfl _ _ rfl lb rfl (ltVal l s) HS5.out.rl _ Tryz.underlying36 rfl (size62 l s HR.out) ?_)
      | (with_reducible refine g_load 36 ?_; refine wpList_load_Row rfl _ _ rfl mb rfl (ltVal m s) HS5.out.rm _ Tryz.underlying36 rfl (size62 m s HRM.out) ?_))
    refine (HSR.out _ HS5.out).mono ?_
    rintro e w6 ⟨rfl, hb6⟩
    rw [HV.out]
    have HS6 := Lib.hid (HS5.out.below hb6)
    clear hb6 HS5
    cases v with
    | true =>
      go_wp2_with fail
      have hS5 := HS6.out.drew
      refine wp_region_held_drew (S := US w lo l s ns m lb mb) (by kernel_rfl) hS5 (fun hH0 => ?_)
      refine wpAnyH_take_dst (i := 0) (v := _) (d := 33) rfl rfl (by kernel_rfl) (by kernel_rfl) (by kernel_rfl) (fun _ _ _ h => h) (yieldsIf_load_Row (by rfl) _ _ rfl lb rfl (ltVal l s) _ (fun w' h => h.rl) Tryz.underlying36 rfl (size62 _ _ HR.out)) (by assumption) ?r0q4
      try simp only [Act.put, List.setIfInBounds_toArray, List.set_cons_zero, List.set_cons_succ]
      refine wpAnyH_take_dst (i := 1) (v := _) (d := 34) rfl rfl (by kernel_rfl) (by kernel_rfl) (by kernel_rfl) (fun _ _ _ h => h) (yieldsIf_load_Row (by rfl) _ _ rfl mb rfl (ltVal m s) _ (fun w' h => h.rm) Tryz.underlying36 rfl (size62 _ _ HRM.out)) (by assumption) ?r1q4
      try simp only [Act.put, List.setIfInBounds_toArray, List.set_cons_zero, List.set_cons_succ]
      refine wpAnyH_take_dst (i := 3) (v := _) (d := 36) rfl rfl (by kernel_rfl) (by kernel_rfl) (by kernel_rfl) (fun _ _ _ h => h) (yieldsIf_load_Row (by rfl) _ _ rfl lb rfl (ltVal l s) _ (fun w' h => h.rl) Tryz.underlying36 rfl (size62 _ _ HR.out)) (by assumption) ?r3q4
      try simp only [Act.put, List.setIfInBounds_toArray, List.set_cons_zero, List.set_cons_succ]
      refine wpAnyH_take_dst (i := 4) (v := _) (d := 37) rfl rfl (by kernel_rfl) (by kernel_rfl) (by kernel_rfl) (fun _ _ _ h => h) (yieldsIf_load_Row (by rfl) _ _ rfl mb rfl (ltVal m s) _ (fun w' h => h.rm) Tryz.underlying36 rfl (size62 _ _ HRM.out)) (by assumption) ?r4q4
      try simp only [Act.put, List.setIfInBounds_toArray, List.set_cons_zero, List.set_cons_succ]
      refine wpAnyH_ready (rs := [2]) (by kernel_rfl) (by simp) ?_
      refine AllReadyH.cons rfl (fun K hK => ?_) AllReadyH.nil
      go_simp
      refine (HSL.out _ hS5).mono ?_
      rintro x w6 ⟨rfl, hb6⟩
      have hS6 := hS5.below hb6
      clear hb6
      rw [HV.out]
      refine hK.out _ _ hS6 (fun hHeld => ?_)
      clear hHeld
      clear hK K
      try simp only [Act.put, List.setIfInBounds_toArray, List.set_cons_zero, List.set_cons_succ]
      refine wpAnyH_ready (rs := [5]) (by kernel_rfl) (by simp) ?_
      refine AllReadyH.cons rfl (fun K hK => ?_) AllReadyH.nil
      go_simp
      refine (HSR.out _ hS6).mono ?_
      rintro x w7 ⟨rfl, hb7⟩
      have hS7 := hS6.below hb7
      clear hb7
      rw [HV.out]
      refine hK.out _ _ hS7 (fun hHeld => ?_)
      clear hHeld
      clear hK K
      try simp only [Act.put, List.setIfInBounds_toArray, List.set_cons_zero, List.set_cons_succ]
      refine wpAnyH_take_dst (i := 6) (v := ?v6q4) (d := 39) rfl rfl (by kernel_rfl) (by kernel_rfl) (by kernel_rfl) (fun _ _ _ h => h) (Or.inl ⟨by rfl, ?hy6q4⟩) (by assumption) ?r6q4
      case hy6q4 => intro w' hSw; first | (go_simp; done) | (go_simp; with_reducible rfl)
      try simp only [Act.put, List.setIfInBounds_toArray, List.set_cons_zero, List.set_cons_succ]
      refine wpAnyH_take_dst (i := 7) (v := ?v7q4) (d := 40) rfl rfl (by kernel_rfl) (by kernel_rfl) (by kernel_rfl) (fun _ _ _ h => h) (Or.inl ⟨by rfl, ?hy7q4⟩) (by assumption) ?r7q4
      case hy7q4 => intro w' hSw; first | (go_simp; done) | (go_simp; with_reducible rfl)
      try simp only [Act.put, List.setIfInBounds_toArray, List.set_cons_zero, List.set_cons_succ]
      refine wpAnyH_take_dst (i := 8) (v := ?v8q4) (d := 41) rfl rfl (by kernel_rfl) (by kernel_rfl) (by kernel_rfl) (fun _ _ _ h => h) (Or.inl ⟨by rfl, ?hy8q4⟩) (by assumption) ?r8q4
      case hy8q4 => intro w' hSw; first | (go_simp; done) | (go_simp; with_reducible rfl)
      try simp only [Act.put, List.setIfInBounds_toArray, List.set_cons_zero, List.set_cons_succ]
      refine wpAnyH_take_dst (i := 9) (v := ?v9q4) (d := 42) rfl rfl (by kernel_rfl) (by kernel_rfl) (by kernel_rfl) (fun _ _ _ h => h) (Or.inl ⟨by rfl, ?hy9q4⟩) (by assumption) ?r9q4
      case hy9q4 => intro w' hSw; first | (go_simp; done) | (go_simp; with_reducible rfl)
      try simp only [Act.put, List.setIfInBounds_toArray, List.set_cons_zero, List.set_cons_succ]
      refine wpAnyH_take_dst (i := 10) (v := ?v10q4) (d := 6) rfl rfl (by kernel_rfl) (by kernel_rfl) (by kernel_rfl) (fun _ _ _ h => h) (Or.inl ⟨by rfl, ?hy10q4⟩) (by assumption) ?r10q4
      case hy10q4 => intro w' hSw; first | (go_simp; done) | (go_simp; with_reducible rfl)
      try simp only [Act.put, List.setIfInBounds_toArray, List.set_cons_zero, List.set_cons_succ]
      refine wpAnyH_done (by kernel_rfl) ?_ _
      clear hH0
      go_wp2_with fail
      go_ret
      exact ⟨rfl, hS7.lo⟩
    | false =>
      have HBD := Lib.hid (HBAD.out HU.out HV.out)
      have HIN : Hid (∀ W, US w lo l s ns m lb mb W → IntsAt W W.heap.size s.C m.cells) := Lib.hid fun W h => by rw [HCE.out]; exact h.mem.ints
      clear HBAD HU
      go_wp2_with (with_reducible refine g_load 36 ?_; refine wpList_load_Row rfl _ _ rfl mb rfl (ltVal m s) HS6.out.rm _ Tryz.underlying36 rfl (size62 m s HRM.out) ?_)
      refine (bytes_bad m s _ HOK.out (HIN.out _ HS6.out) HHD.out HBD.out).mono ?_
      rintro e w7 ⟨rfl, hb7⟩
      have HS7 := Lib.hid (HS6.out.below hb7)
      clear hb7 HS6
      go_wp2_with (with_reducible refine g_load 36 ?_; refine wpList_load_Row rfl _ _ rfl mb rfl (ltVal m s) HS7.out.rm _ Tryz.underlying36 rfl (size62 m s HRM.out) ?_)
      refine (ref_bad m s _ HRM.out (fun w' hb' => bytes_bad m s w' HOK.out (HIN.out _ (HS7.out.below hb')) HHD.out HBD.out)).mono ?_
      rintro e w8 ⟨rfl, hb8⟩
      have HS8 := Lib.hid ((HS7.out.below hb8).below (below_var w8 (.cells zDig 34)))
      clear hb8 HS7
      go_wp2_with (first
        | (refine wpList_var_row rfl rfl _ _ _ rfl rfl rfl rfl _ zDig zDig_info rfl rfl rfl zDig_one ?_)
        | (with_reducible refine g_load 36 ?_; refine wpList_load_Row rfl _ _ rfl mb rfl (ltVal m s) HS8.out.rm _ Tryz.underlying36 rfl (size62 m s HRM.out) ?_))
      refine (valid_bad m s _ HOK.out (HIN.out _ HS8.out) HHD.out HBD.out).mono ?_
      rintro e w9 ⟨rfl, hb9⟩
      have HS9 := Lib.hid (HS8.out.below hb9)
      clear hb9 HS8
      go_wp2_with (first
        | (with_reducible refine g_load 36 ?_; refine wpList_load_Row rfl _ _ rfl lb rfl (ltVal l s) HS9.out.rl _ Tryz.underlying36 rfl (size62 l s HR.out) ?_)
        | (with_reducible refine g_load 36 ?_; refine wpList_load_Row rfl _ _ rfl mb rfl (ltVal m s) HS9.out.rm _ Tryz.underlying36 rfl (size62 m s HRM.out) ?_))
      refine (HSL.out _ HS9.out).mono ?_
      rintro e w10 ⟨rfl, hb10⟩
      rw [HV.out]
      have HS10 := Lib.hid (HS9.out.below hb10)
      clear hb10 HS9
      go_wp2_with fail
      go_ret
      exact ⟨rfl, HS10.out.lo⟩
end Go.Proofs.YtpgagfmpikhpkaaGreatDoor
