/- The texts RfF, Refs, in this order. -/
import Derived.Test.YtenbgpcdoljkgaaGreatDoorG11
/- LetterRefs: the two letters, their digests and their encodings, as they lie. -/
namespace Go.Proofs.YtenbgpcdoljkgaaGreatDoor
open Go Go.RowKit

theorem eql_digest2 (r r' : List UInt8) (h : r.length = 32) (h' : r'.length = 32) (w : World) :
    (binOp .eql 34 (.agg (cellsB r)) (.agg (cellsB r'))).run Tryz.prog w = .ok (.bool (r == r')) w :=
  run_eql_bytes (P := Tryz.prog) w 34 5 32 Tryz.underlying34 Tryz.underlying5 (fun w => size_u8 w) r r' h h'
theorem neq_digest2 (r : List UInt8) (h : r.length = 32) (w : World) :
    (binOp .neq 34 (.agg (cellsB r)) (.agg (cellsB r))).run Tryz.prog w = .ok (.bool false) w := by
  have := neq_digest r r h h w
  rw [beq_self_eq_true] at this
  exact this
theorem dig_size {r : List UInt8} (h : r.length = 32) : (Tryz.prog.info? 34).map (·.size) = some (cellsB r).size := by rw [cellsB_size, h]; kernel_rfl
/-- The two letters. -/
structure FA (W0 : World) (lb mb : Nat) (KR : List Int) (l m : Lt) (s t : Sl) (ns ms : List NdV) (lo lo' : Nat) (W : World) : Prop where
  rl : Row W lb (ltVal l s)
  rm : Row W mb (ltVal m t)
  ml : LtMem lo W l s ns
  mm : LtMem lo' W m t ms
  g : RowU W 0 (cellsU KR)
  pl : 0 < lo
  pm : 0 < lo'
  up : Below W0.heap.size W0 W
/-- Their digests and encodings besides. -/
structure FS (W0 : World) (lb mb db eb : Nat) (KR : List Int) (l m : Lt) (s t : Sl) (ns ms : List NdV) (lo lo' : Nat) (D E : List UInt8) (A B : Option Addr) (W : World) : Prop where
  fa : FA W0 lb mb KR l m s t ns ms lo lo' W
  d : Row W db (cellsB D)
  e : Row W eb (cellsB E)
  x : BytesAt W W.heap.size A (encOf l)
  y : BytesAt W W.heap.size B (encOf m)
section
variable {W0 W W' : World} {lb mb db eb : Nat} {KR : List Int} {l m : Lt} {s t : Sl} {ns ms : List NdV} {lo lo' : Nat} {D E : List UInt8} {A B : Option Addr}
theorem BytesAt.on {bs : List UInt8} (h : BytesAt W W.heap.size A bs) (hb : Below W.heap.size W W') : BytesAt W' W'.heap.size A bs := (h.keep hb).more hb.size
theorem FA.below (h : FA W0 lb mb KR l m s t ns ms lo lo' W) (hb : Below W.heap.size W W') : FA W0 lb mb KR l m s t ns ms lo lo' W' :=
  ⟨h.rl.keep hb, h.rm.keep hb, h.ml.grow hb h.pl, h.mm.grow hb h.pm, h.g.keep hb, h.pl, h.pm, below_trans h.up hb⟩
theorem FS.below (h : FS W0 lb mb db eb KR l m s t ns ms lo lo' D E A B W) (hb : Below W.heap.size W W') : FS W0 lb mb db eb KR l m s t ns ms lo lo' D E A B W' :=
  ⟨h.fa.below hb, h.d.keep hb, h.e.keep hb, h.x.on hb, h.y.on hb⟩
theorem FS.drew (h : FS W0 lb mb db eb KR l m s t ns ms lo lo' D E A B W) : FS W0 lb mb db eb KR l m s t ns ms lo lo' D E A B W.drew := h.below (Below.refl _ W).drew
/-- The two variables, filled. -/
theorem fa_start {w2 : World} {z : Array Value} (h1 : LtMem lo w2 l s ns) (h2 : LtMem lo' w2 m t ms) (hlo : 0 < lo) (hlo' : 0 < lo') (hG : RowU w2 0 (cellsU KR)) :
    FA w2 w2.heap.size (w2.heap.size + 1) KR l m s t ns ms lo lo' ((((w2.alloc (.cells z 36)).alloc (.cells z 36)).setRow w2.heap.size (ltVal l s)).setRow (w2.heap.size + 1) (ltVal m t)) := by
  have hb0 := below_trans (below_var w2 (.cells z 36)) (below_var _ (.cells z 36))
  have hb : Below w2.heap.size w2 ((((w2.alloc (.cells z 36)).alloc (.cells z 36)).setRow w2.heap.size (ltVal l s)).setRow (w2.heap.size + 1) (ltVal m t)) :=
    below_setRow' (below_setRow' hb0 (Nat.le_refl _) _) (Nat.le_succ _) _
  have e1 := setRow_heap _ w2.heap.size _ (ltVal l s) _ _ (heap_alloc2_old w2 (.cells z 36) (.cells z 36))
  refine ⟨Row.of_blk (t := 36) (fr := (0, 0)) ((setRow_other _ _ _ _ (by omega)).trans e1), Row.of_blk (t := 36) (fr := (0, 0)) (setRow_heap _ _ _ _ _ _ ((setRow_other _ _ _ _ (by omega)).trans (heap_alloc2_new w2 _ _))), h1.grow hb hlo, h2.grow hb hlo', hG.keep hb, hlo, hlo', hb⟩
theorem FS.sumX (hK : KR.length = 64) (hl : MadeLt l ns) (h : FS W0 lb mb db eb KR l m s t ns ms lo lo' D E A B W) (c : Nat) : Calls Tryz.prog 10 #[.slice A (encOf l).length c] W (Gives (.agg (cellsB (digF KR (encOf l)))) W) :=
  sum_at KR hK W h.fa.g A (encOf l) c (encOf_len hl).1 (encOf_len hl).2 h.x
theorem FS.sumY (hK : KR.length = 64) (hm : MadeLt m ms) (h : FS W0 lb mb db eb KR l m s t ns ms lo lo' D E A B W) (c : Nat) : Calls Tryz.prog 10 #[.slice B (encOf m).length c] W (Gives (.agg (cellsB (digF KR (encOf m)))) W) :=
  sum_at KR hK W h.fa.g B (encOf m) c (encOf_len hm).1 (encOf_len hm).2 h.y
end
end Go.Proofs.YtenbgpcdoljkgaaGreatDoor

/- kalendslaw20.LetterRefs, walked. (Printed by gen_refs.py.) -/
namespace Go.Proofs.YtenbgpcdoljkgaaGreatDoor
open Go Go.RowKit

attribute [local go_sem] ltVal_get lt_get0 lt_get1 lt_get2
set_option maxRecDepth 10000 in
set_option maxHeartbeats 1000000 in
theorem letterRefs_any (KR : List Int) (hK : KR.length = 64) (w : World) (hG : RowU w 0 (cellsU KR)) (A : Option Addr) (n c : Nat) (xs : List Int) (hn : xs.length = n) (hA : IntsAt w w.heap.size A xs) (hfit : ∀ j, j < xs.length → fits (xs[j]?.getD 0)) (hc : n ≤ c) (hbig : c ≤ 9223372036854775807)
    (A' : Option Addr) (n' c' : Nat) (xs' : List Int) (hn' : xs'.length = n') (hA' : IntsAt w w.heap.size A' xs') (hfit' : ∀ j, j < xs'.length → fits (xs'[j]?.getD 0)) (hc' : n' ≤ c') (hbig' : c' ≤ 9223372036854775807) :
    Calls Tryz.prog 3 #[.slice A n c, .slice A' n' c'] w (Gives (.bool true) w) := by
  have HM : Hid (∀ w', Below w.heap.size w w' → Calls Tryz.prog 7 #[.slice A n c] w' (MadeQ w')) := Lib.hid fun w' hb => refMade_any w' A n c xs hn ((hA.keep hb).more hb.size) hfit hc hbig
  have HM' : Hid (∀ w', Below w.heap.size w w' → Calls Tryz.prog 7 #[.slice A' n' c'] w' (MadeQ w')) := Lib.hid fun w' hb => refMade_any w' A' n' c' xs' hn' ((hA'.keep hb).more hb.size) hfit' hc' hbig'
  have HG := Lib.hid hG
  have HK := Lib.hid hK
  clear hA hfit hn hc hbig hA' hfit' hn' hc' hbig' hG hK
  go_enter Tryz.func3, Tryz.ntmps3
  go_wp2_with fail
  refine (sanity_any _).mono ?_
  rintro e w1 ⟨rfl, hb1⟩
  have HB1 := Lib.hid hb1
  clear hb1
  go_wp2_with fail
  refine (HM.out _ HB1.out).mono ?_
  rintro e wl ⟨l, s, ns, rfl, hml, hmem, hb2⟩
  have HML := Lib.hid hml
  have HRL := Lib.hid hml.ref
  obtain ⟨lo, hlo⟩ : ∃ lo, lo = w1.heap.size + 2 := ⟨_, rfl⟩
  rw [← hlo] at hmem
  have HLO : Hid (0 < lo) := Lib.hid (by omega)
  have HMEM := Lib.hid hmem
  have HB2 := Lib.hid (below_trans HB1.out hb2)
  clear hml hmem hb2 hlo HB1 HM
  go_wp2_with fail
  refine (HM'.out _ HB2.out).mono ?_
  rintro e W2 ⟨m, t, ms, rfl, hmm, hmem, hb3⟩
  have HMM := Lib.hid hmm
  have HRM := Lib.hid hmm.ref
  obtain ⟨lo2, hlo2⟩ : ∃ lo, lo = wl.heap.size + 2 := ⟨_, rfl⟩
  rw [← hlo2] at hmem
  have HLO2 : Hid (0 < lo2) := Lib.hid (by omega)
  have HMEM2 := Lib.hid hmem
  have HMEM1 := Lib.hid (HMEM.out.grow hb3 HLO.out)
  have HB3 := Lib.hid (below_trans HB2.out hb3)
  have HG2 := Lib.hid (HG.out.keep (below_trans HB2.out hb3))
  have HBEL := Lib.hid (below_trans HB2.out hb3)
  clear hmm hmem hb3 hlo2 HB2 HM' HMEM HG
  have HFA : ∀ z : Array Value, Hid (FA W2 W2.heap.size (W2.heap.size + 1) KR l m s t ns ms lo lo2 ((((W2.alloc (.cells z 36)).alloc (.cells z 36)).setRow W2.heap.size (ltVal l s)).setRow (W2.heap.size + 1) (ltVal m t))) := fun z => Lib.hid (fa_start HMEM1.out HMEM2.out HLO.out HLO2.out HG2.out)
  have HFB := HFA (ltVal zLt zSl)
  have HZ1 := Lib.hid (heap_alloc2_old W2 (.cells (ltVal zLt zSl) 36) (.cells (ltVal zLt zSl) 36))
  have HZ2 : Hid ((((W2.alloc (.cells (ltVal zLt zSl) 36)).alloc (.cells (ltVal zLt zSl) 36)).setRow W2.heap.size (ltVal l s)).heap[W2.heap.size + 1]? = some (.cells (ltVal zLt zSl) 36 (0, 0))) := Lib.hid ((setRow_other _ _ _ _ (by omega)).trans (heap_alloc2_new W2 _ _))
  clear HFA HMEM1 HMEM2 HG2 HB3
  go_upto_region 3 with (first
    | (with_reducible refine g_alloc 36 ?_; refine wpList_alloc_as rfl _ rfl (ltVal zLt zSl) lt_zero ?_)
    | (with_reducible refine g_store 36 ?_; refine wpList_store_row rfl _ _ _ rfl W2.heap.size (ltVal l s) rfl rfl 36 (ltVal zLt zSl) HZ1.out (size62 _ _ HRL.out) (sz_eq _ _ HRL.out) (ltVal_one _ _) ?_; refine Hid.out ?_))
  refine Lib.hid ?_
  refine wpList_store_row rfl _ _ _ rfl (W2.heap.size + 1) (ltVal m t) rfl rfl 36 (ltVal zLt zSl) HZ2.out (size62 _ _ HRM.out) (sz_eq _ _ HRM.out) (ltVal_one _ _) ?_
  obtain ⟨W3, hW3⟩ : ∃ W, ((((W2.alloc (.cells (ltVal zLt zSl) 36)).alloc (.cells (ltVal zLt zSl) 36)).setRow W2.heap.size (ltVal l s)).setRow (W2.heap.size + 1) (ltVal m t)) = W := ⟨_, rfl⟩
  rw [hW3] at HFB ⊢
  obtain ⟨lb, hlb⟩ : ∃ q, W2.heap.size = q := ⟨_, rfl⟩
  obtain ⟨mb, hmb⟩ : ∃ q, W2.heap.size + 1 = q := ⟨_, rfl⟩
  simp only [hmb] at HFB ⊢
  simp only [hlb] at HFB ⊢
  clear hW3 hlb hmb HZ1 HZ2
  go_wp2_with (with_reducible refine g_load 36 ?_; refine wpList_load_Row rfl _ _ rfl lb rfl (ltVal l s) HFB.out.rl _ Tryz.underlying36 rfl (size62 _ _ HRL.out) ?_)
  refine (bytes_enc HML.out HFB.out.ml HLO.out).mono ?_
  rintro e W4 ⟨A1, c1, rfl, hx, hb4⟩
  have HFC := Lib.hid (HFB.out.below hb4)
  have HX := Lib.hid hx
  obtain ⟨N1, hN1⟩ : ∃ N, (encOf l).length = N := ⟨_, rfl⟩
  rw [hN1]
  have HN1 := Lib.hid hN1
  clear hb4 hx HFB hN1
  go_wp2_with (with_reducible refine g_load 36 ?_; refine wpList_load_Row rfl _ _ rfl mb rfl (ltVal m t) HFC.out.rm _ Tryz.underlying36 rfl (size62 _ _ HRM.out) ?_)
  refine (bytes_enc HMM.out HFC.out.mm HLO2.out).mono ?_
  rintro e W5 ⟨A2, c2, rfl, hy, hb5⟩
  have HFD := Lib.hid (HFC.out.below hb5)
  have HX2 := Lib.hid (HX.out.on hb5)
  have HY := Lib.hid hy
  obtain ⟨N2, hN2⟩ : ∃ N, (encOf m).length = N := ⟨_, rfl⟩
  rw [hN2]
  have HN2 := Lib.hid hN2
  clear hb5 hy HFC hN2 HX
  go_wp2_with (with_reducible refine g_load 36 ?_; refine wpList_load_Row rfl _ _ rfl lb rfl (ltVal l s) HFD.out.rl _ Tryz.underlying36 rfl (size62 _ _ HRL.out) ?_)
  refine (ref_made KR HK.out HFD.out.g HML.out HFD.out.ml HLO.out).mono ?_
  rintro e W6 ⟨rfl, hb6⟩
  have HFE := Lib.hid (HFD.out.below hb6)
  have HX3 := Lib.hid (HX2.out.on hb6)
  have HY3 := Lib.hid (HY.out.on hb6)
  obtain ⟨D, hD⟩ : ∃ D, digF KR (encOf l) = D := ⟨_, rfl⟩
  have hDl : D.length = 32 := by rw [← hD]; exact digF_length _ _
  have HDL := Lib.hid hDl
  have HSD := Lib.hid (dig_size hDl)
  have HZD : Hid (zDig.size = (cellsB D).size) := Lib.hid (by rw [cellsB_size, hDl]; rfl)
  rw [hD]
  have HD := Lib.hid hD
  clear hb6 HFD HX2 HY hD hDl
  go_wp2_with (first
    | (with_reducible refine g_alloc 34 ?_; refine wpList_alloc_as rfl _ rfl zDig zDig_info ?_)
    | (with_reducible refine g_store 34 ?_; refine wpList_store_newrow rfl _ _ _ rfl (cellsB D) rfl rfl 34 zDig rfl HSD.out HZD.out (cellsB_one _) ?_; intro W7 hb7 hl7 hr7; have HFF := Lib.hid (HFE.out.below hb7); have HX4 := Lib.hid (HX3.out.on hb7); have HY4 := Lib.hid (HY3.out.on hb7); have HRD := Lib.hid hr7; clear hb7 hl7 hr7)
    | (with_reducible refine g_load 36 ?_; refine wpList_load_Row rfl _ _ rfl mb rfl (ltVal m t) HFF.out.rm _ Tryz.underlying36 rfl (size62 _ _ HRM.out) ?_))
  obtain ⟨db, hdb⟩ : ∃ q, W6.heap.size = q := ⟨_, rfl⟩
  rw [hdb] at HRD ⊢
  clear hdb HFE HX3 HY3
  refine (ref_made KR HK.out HFF.out.g HMM.out HFF.out.mm HLO2.out).mono ?_
  rintro e W8 ⟨rfl, hb8⟩
  have HFG := Lib.hid (HFF.out.below hb8)
  have HX5 := Lib.hid (HX4.out.on hb8)
  have HY5 := Lib.hid (HY4.out.on hb8)
  have HRD5 := Lib.hid (HRD.out.keep hb8)
  obtain ⟨E, hE⟩ : ∃ E, digF KR (encOf m) = E := ⟨_, rfl⟩
  have hEl : E.length = 32 := by rw [← hE]; exact digF_length _ _
  have HEL := Lib.hid hEl
  have HSE := Lib.hid (dig_size hEl)
  have HZE : Hid (zDig.size = (cellsB E).size) := Lib.hid (by rw [cellsB_size, hEl]; rfl)
  rw [hE]
  have HE := Lib.hid hE
  clear hb8 HFF HX4 HY4 HRD hE hEl
  obtain ⟨eb, heb⟩ : ∃ q, W8.heap.size = q := ⟨_, rfl⟩
  go_upto_region 7 with (first
    | (with_reducible refine g_alloc 34 ?_; refine wpList_alloc_as rfl _ rfl zDig zDig_info ?_)
    | (with_reducible refine g_store 34 ?_; refine wpList_store_newrow rfl _ _ _ rfl (cellsB E) rfl rfl 34 zDig rfl HSE.out HZE.out (cellsB_one _) ?_; intro W9 hb9 hl9 hr9; rw [heb] at hr9; have HF : Hid (FS W2 lb mb db eb KR l m s t ns ms lo lo2 D E A1 A2 W9) := Lib.hid ⟨HFG.out.below hb9, HRD5.out.keep hb9, hr9, HX5.out.on hb9, HY5.out.on hb9⟩; clear hb9 hl9 hr9))
  try rw [heb]
  clear heb HFG HX5 HY5 HRD5
  have HSX : Hid (∀ W, FS W2 lb mb db eb KR l m s t ns ms lo lo2 D E A1 A2 W → Calls Tryz.prog 10 #[.slice A1 N1 c1] W (Gives (.agg (cellsB D)) W)) := Lib.hid fun W h => by rw [← HN1.out, ← HD.out]; rw [← HD.out] at h; exact h.sumX HK.out HML.out c1
  have HSY : Hid (∀ W, FS W2 lb mb db eb KR l m s t ns ms lo lo2 D E A1 A2 W → Calls Tryz.prog 10 #[.slice A2 N2 c2] W (Gives (.agg (cellsB E)) W)) := Lib.hid fun W h => by rw [← HN2.out, ← HE.out]; rw [← HE.out] at h; exact h.sumY HK.out HMM.out c2
  have heq1 := fun W => neq_digest2 D HDL.out W
  have heq2 := fun W => neq_digest2 E HEL.out W
  try simp only [Act.put, List.setIfInBounds_toArray, List.set_cons_zero, List.set_cons_succ]
  have hS0 := HF.out.drew
  refine wp_region_held_drew (S := FS W2 lb mb db eb KR l m s t ns ms lo lo2 D E A1 A2) (by kernel_rfl) hS0 (fun hH0 => ?_)
  clear hH0
  refine wpAnyH_take_dst (i := 0) (v := I 0) (d := 41) rfl rfl (by kernel_rfl) (by kernel_rfl) (by kernel_rfl) (fun _ _ _ h => h) (Or.inl ⟨by rfl, ?hy1⟩) (by assumption) ?r1
  case hy1 => intro w' hSw; clear hSw; first | (go_simp; done) | (go_simp; with_reducible rfl)
  try simp only [Act.put, List.setIfInBounds_toArray, List.set_cons_zero, List.set_cons_succ]
  refine wpAnyH_take_dst (i := 1) (v := .bool false) (d := 42) rfl rfl (by kernel_rfl) (by kernel_rfl) (by kernel_rfl) (fun _ _ _ h => h) (Or.inl ⟨by rfl, ?hy2⟩) (by assumption) ?r2
  case hy2 => intro w' hSw; clear hSw; first | (go_simp; done) | (go_simp; with_reducible rfl)
  try simp only [Act.put, List.setIfInBounds_toArray, List.set_cons_zero, List.set_cons_succ]
  refine wpAnyH_take_dst (i := 2) (v := .bool false) (d := 43) rfl rfl (by kernel_rfl) (by kernel_rfl) (by kernel_rfl) (fun _ _ _ h => h) (Or.inl ⟨by rfl, ?hy3⟩) (by assumption) ?r3
  case hy3 => intro w' hSw; clear hSw; first | (go_simp; done) | (go_simp; with_reducible rfl)
  try simp only [Act.put, List.setIfInBounds_toArray, List.set_cons_zero, List.set_cons_succ]
  refine wpAnyH_take_dst (i := 3) (v := I 0) (d := 44) rfl rfl (by kernel_rfl) (by kernel_rfl) (by kernel_rfl) (fun _ _ _ h => h) (Or.inl ⟨by rfl, ?hy4⟩) (by assumption) ?r4
  case hy4 => intro w' hSw; clear hSw; first | (go_simp; done) | (go_simp; with_reducible rfl)
  try simp only [Act.put, List.setIfInBounds_toArray, List.set_cons_zero, List.set_cons_succ]
  refine wpAnyH_take_dst (i := 4) (v := .bool false) (d := 45) rfl rfl (by kernel_rfl) (by kernel_rfl) (by kernel_rfl) (fun _ _ _ h => h) (Or.inl ⟨by rfl, ?hy5⟩) (by assumption) ?r5
  case hy5 => intro w' hSw; clear hSw; first | (go_simp; done) | (go_simp; with_reducible rfl)
  try simp only [Act.put, List.setIfInBounds_toArray, List.set_cons_zero, List.set_cons_succ]
  refine wpAnyH_take_dst (i := 5) (v := .bool false) (d := 46) rfl rfl (by kernel_rfl) (by kernel_rfl) (by kernel_rfl) (fun _ _ _ h => h) (Or.inl ⟨by rfl, ?hy6⟩) (by assumption) ?r6
  case hy6 => intro w' hSw; clear hSw; first | (go_simp; done) | (go_simp; with_reducible rfl)
  try simp only [Act.put, List.setIfInBounds_toArray, List.set_cons_zero, List.set_cons_succ]
  refine wpAnyH_take_dst (i := 6) (v := .bool false) (d := 47) rfl rfl (by kernel_rfl) (by kernel_rfl) (by kernel_rfl) (fun _ _ _ h => h) (Or.inl ⟨by rfl, ?hy7⟩) (by assumption) ?r7
  case hy7 => intro w' hSw; clear hSw; first | (go_simp; done) | (go_simp; with_reducible rfl)
  try simp only [Act.put, List.setIfInBounds_toArray, List.set_cons_zero, List.set_cons_succ]
  refine wpAnyH_take_dst (i := 7) (v := I 0) (d := 48) rfl rfl (by kernel_rfl) (by kernel_rfl) (by kernel_rfl) (fun _ _ _ h => h) (Or.inl ⟨by rfl, ?hy8⟩) (by assumption) ?r8
  case hy8 => intro w' hSw; clear hSw; first | (go_simp; done) | (go_simp; with_reducible rfl)
  try simp only [Act.put, List.setIfInBounds_toArray, List.set_cons_zero, List.set_cons_succ]
  refine wpAnyH_take_dst (i := 8) (v := .bool false) (d := 49) rfl rfl (by kernel_rfl) (by kernel_rfl) (by kernel_rfl) (fun _ _ _ h => h) (Or.inl ⟨by rfl, ?hy9⟩) (by assumption) ?r9
  case hy9 => intro w' hSw; clear hSw; first | (go_simp; done) | (go_simp; with_reducible rfl)
  try simp only [Act.put, List.setIfInBounds_toArray, List.set_cons_zero, List.set_cons_succ]
  refine wpAnyH_take_dst (i := 9) (v := .bool false) (d := 50) rfl rfl (by kernel_rfl) (by kernel_rfl) (by kernel_rfl) (fun _ _ _ h => h) (Or.inl ⟨by rfl, ?hy10⟩) (by assumption) ?r10
  case hy10 => intro w' hSw; clear hSw; first | (go_simp; done) | (go_simp; with_reducible rfl)
  try simp only [Act.put, List.setIfInBounds_toArray, List.set_cons_zero, List.set_cons_succ]
  refine wpAnyH_take_dst (i := 10) (v := .bool false) (d := 51) rfl rfl (by kernel_rfl) (by kernel_rfl) (by kernel_rfl) (fun _ _ _ h => h) (Or.inl ⟨by rfl, ?hy11⟩) (by assumption) ?r11
  case hy11 => intro w' hSw; clear hSw; first | (go_simp; done) | (go_simp; with_reducible rfl)
  try simp only [Act.put, List.setIfInBounds_toArray, List.set_cons_zero, List.set_cons_succ]
  refine wpAnyH_take_dst (i := 11) (v := I 0) (d := 52) rfl rfl (by kernel_rfl) (by kernel_rfl) (by kernel_rfl) (fun _ _ _ h => h) (Or.inl ⟨by rfl, ?hy12⟩) (by assumption) ?r12
  case hy12 => intro w' hSw; clear hSw; first | (go_simp; done) | (go_simp; with_reducible rfl)
  try simp only [Act.put, List.setIfInBounds_toArray, List.set_cons_zero, List.set_cons_succ]
  refine wpAnyH_take_dst (i := 12) (v := .bool false) (d := 53) rfl rfl (by kernel_rfl) (by kernel_rfl) (by kernel_rfl) (fun _ _ _ h => h) (Or.inl ⟨by rfl, ?hy13⟩) (by assumption) ?r13
  case hy13 => intro w' hSw; clear hSw; first | (go_simp; done) | (go_simp; with_reducible rfl)
  try simp only [Act.put, List.setIfInBounds_toArray, List.set_cons_zero, List.set_cons_succ]
  refine wpAnyH_take_dst (i := 13) (v := .bool false) (d := 54) rfl rfl (by kernel_rfl) (by kernel_rfl) (by kernel_rfl) (fun _ _ _ h => h) (Or.inl ⟨by rfl, ?hy14⟩) (by assumption) ?r14
  case hy14 => intro w' hSw; clear hSw; first | (go_simp; done) | (go_simp; with_reducible rfl)
  try simp only [Act.put, List.setIfInBounds_toArray, List.set_cons_zero, List.set_cons_succ]
  refine wpAnyH_take_dst (i := 14) (v := .bool false) (d := 55) rfl rfl (by kernel_rfl) (by kernel_rfl) (by kernel_rfl) (fun _ _ _ h => h) (Or.inl ⟨by rfl, ?hy15⟩) (by assumption) ?r15
  case hy15 => intro w' hSw; clear hSw; first | (go_simp; done) | (go_simp; with_reducible rfl)
  try simp only [Act.put, List.setIfInBounds_toArray, List.set_cons_zero, List.set_cons_succ]
  refine wpAnyH_take_dst (i := 15) (v := .agg (cellsB D)) (d := 56) rfl rfl (by kernel_rfl) (by kernel_rfl) (by kernel_rfl) (fun _ _ _ h => h) (yieldsIf_load_Row rfl _ _ rfl db rfl (cellsB D) _ (fun _ h => h.d) Tryz.underlying34 rfl HSD.out) (by assumption) ?r16
  try simp only [Act.put, List.setIfInBounds_toArray, List.set_cons_zero, List.set_cons_succ]
  refine wpAnyH_take_dst (i := 16) (v := .slice A1 N1 c1) (d := 57) rfl rfl (by kernel_rfl) (by kernel_rfl) (by kernel_rfl) (fun _ _ _ h => h) (Or.inl ⟨by rfl, ?hy17⟩) (by assumption) ?r17
  case hy17 => intro w' hSw; clear hSw; first | (go_simp; done) | (go_simp; with_reducible rfl)
  try simp only [Act.put, List.setIfInBounds_toArray, List.set_cons_zero, List.set_cons_succ]
  refine wpAnyH_ready (rs := [17]) (by kernel_rfl) (by simp) ?_
  refine AllReadyH.cons rfl (fun K hK => ?_) AllReadyH.nil
  go_simp
  refine (HSX.out _ hS0).mono ?_
  rintro e w38 ⟨rfl, hb18⟩
  have hS38 := hS0.below hb18
  clear hb18
  refine hK.out _ _ hS38 (fun hHeld => ?_)
  clear hHeld hK K
  try simp only [Act.put, List.setIfInBounds_toArray, List.set_cons_zero, List.set_cons_succ]
  refine wpAnyH_take_dst (i := 18) (v := .bool false) (d := 59) rfl rfl (by kernel_rfl) (by kernel_rfl) (by kernel_rfl) (fun _ _ _ h => h) (Or.inl ⟨by rfl, ?hy19⟩) (by assumption) ?r19
  case hy19 => intro w' hSw; clear hSw; first | (go_simp; done) | (go_simp; with_reducible rfl)
  try simp only [Act.put, List.setIfInBounds_toArray, List.set_cons_zero, List.set_cons_succ]
  refine wpAnyH_take_dst (i := 19) (v := .bool false) (d := 60) rfl rfl (by kernel_rfl) (by kernel_rfl) (by kernel_rfl) (fun _ _ _ h => h) (Or.inl ⟨by rfl, ?hy20⟩) (by assumption) ?r20
  case hy20 => intro w' hSw; clear hSw; first | (go_simp; done) | (go_simp; with_reducible rfl)
  try simp only [Act.put, List.setIfInBounds_toArray, List.set_cons_zero, List.set_cons_succ]
  refine wpAnyH_take_dst (i := 20) (v := .bool false) (d := 61) rfl rfl (by kernel_rfl) (by kernel_rfl) (by kernel_rfl) (fun _ _ _ h => h) (Or.inl ⟨by rfl, ?hy21⟩) (by assumption) ?r21
  case hy21 => intro w' hSw; clear hSw; first | (go_simp; done) | (go_simp; with_reducible rfl)
  try simp only [Act.put, List.setIfInBounds_toArray, List.set_cons_zero, List.set_cons_succ]
  refine wpAnyH_take_dst (i := 21) (v := .agg (cellsB E)) (d := 62) rfl rfl (by kernel_rfl) (by kernel_rfl) (by kernel_rfl) (fun _ _ _ h => h) (yieldsIf_load_Row rfl _ _ rfl eb rfl (cellsB E) _ (fun _ h => h.e) Tryz.underlying34 rfl HSE.out) (by assumption) ?r22
  try simp only [Act.put, List.setIfInBounds_toArray, List.set_cons_zero, List.set_cons_succ]
  refine wpAnyH_take_dst (i := 22) (v := .slice A2 N2 c2) (d := 63) rfl rfl (by kernel_rfl) (by kernel_rfl) (by kernel_rfl) (fun _ _ _ h => h) (Or.inl ⟨by rfl, ?hy23⟩) (by assumption) ?r23
  case hy23 => intro w' hSw; clear hSw; first | (go_simp; done) | (go_simp; with_reducible rfl)
  try simp only [Act.put, List.setIfInBounds_toArray, List.set_cons_zero, List.set_cons_succ]
  refine wpAnyH_ready (rs := [23]) (by kernel_rfl) (by simp) ?_
  refine AllReadyH.cons rfl (fun K hK => ?_) AllReadyH.nil
  go_simp
  refine (HSY.out _ hS38).mono ?_
  rintro e w44 ⟨rfl, hb24⟩
  have hS44 := hS38.below hb24
  clear hb24
  refine hK.out _ _ hS44 (fun hHeld => ?_)
  clear hHeld hK K
  try simp only [Act.put, List.setIfInBounds_toArray, List.set_cons_zero, List.set_cons_succ]
  refine wpAnyH_take_dst (i := 24) (v := .bool false) (d := 65) rfl rfl (by kernel_rfl) (by kernel_rfl) (by kernel_rfl) (fun _ _ _ h => h) (Or.inl ⟨by rfl, ?hy25⟩) (by assumption) ?r25
  case hy25 => intro w' hSw; clear hSw; first | (go_simp; done) | (go_simp; with_reducible rfl)
  try simp only [Act.put, List.setIfInBounds_toArray, List.set_cons_zero, List.set_cons_succ]
  refine wpAnyH_take_dst (i := 25) (v := .bool false) (d := 66) rfl rfl (by kernel_rfl) (by kernel_rfl) (by kernel_rfl) (fun _ _ _ h => h) (Or.inl ⟨by rfl, ?hy26⟩) (by assumption) ?r26
  case hy26 => intro w' hSw; clear hSw; first | (go_simp; done) | (go_simp; with_reducible rfl)
  try simp only [Act.put, List.setIfInBounds_toArray, List.set_cons_zero, List.set_cons_succ]
  refine wpAnyH_done (by kernel_rfl) ?_ _
  have HF7 := Lib.hid hS44
  clear hS0 hS38 hS44
  clear heq1 heq2 HSX HSY
  obtain ⟨b, hb⟩ := ex_bool (l = m)
  have HSAME : Hid (∀ W, FS W2 lb mb db eb KR l m s t ns ms lo lo2 D E A1 A2 W → Calls Tryz.prog 12 #[.agg (ltVal l s), .agg (ltVal m t)] W (Gives (.bool b) W)) := Lib.hid fun W h => same_made HML.out HMM.out h.fa.ml h.fa.mm HLO.out HLO2.out b hb
  have HSAMF : Hid (∀ W, FS W2 lb mb db eb KR l m s t ns ms lo lo2 D E A1 A2 W → Calls Tryz.prog 12 #[.agg (ltVal m t), .agg (ltVal l s)] W (Gives (.bool b) W)) := Lib.hid fun W h => same_made HMM.out HML.out h.fa.mm h.fa.ml HLO2.out HLO.out b (hb.trans ⟨Eq.symm, Eq.symm⟩)
  have HSB : Hid (∀ W, FS W2 lb mb db eb KR l m s t ns ms lo lo2 D E A1 A2 W → Calls Tryz.prog 11 #[.slice A1 N1 c1, .slice A2 N2 c2] W (Gives (.bool (encOf l == encOf m)) W)) := Lib.hid fun W h => by rw [← HN1.out, ← HN2.out]; exact sameBytes_any A1 A2 c1 c2 _ _ W h.x h.y (by have := encOf_len HML.out; omega)
  have heq := fun W => eql_digest2 D E HDL.out HEL.out W
  have hb1 : D ≠ E → b = false := fun hne => by
    rw [Bool.eq_false_iff]
    intro h
    have h := hb.1 h
    subst h
    exact hne (HD.out.symm.trans HE.out)
  have hb2 : encOf l = encOf m → b = true := fun h => hb.2 (enc_inj HML.out HMM.out h)
  have HB1 := Lib.hid hb1
  have HB2 := Lib.hid hb2
  clear hb hb1 hb2
  obtain ⟨q, hq⟩ : ∃ q, (D == E) = q := ⟨_, rfl⟩
  rw [hq] at heq
  have HQ := Lib.hid hq
  clear hq
  cases q
  · have hbf : b = false := HB1.out (by have := HQ.out; simpa using this)
    subst hbf
    go_wp2_with (with_reducible refine g_load 34 ?_; first | (refine wpList_load_Row rfl _ _ rfl db rfl (cellsB D) HF7.out.d _ Tryz.underlying34 rfl HSD.out ?_) | (refine wpList_load_Row rfl _ _ rfl eb rfl (cellsB E) HF7.out.e _ Tryz.underlying34 rfl HSE.out ?_))
    have HF9 := HF7
    have hS0 := HF9.out.drew
    refine wp_region_held_drew (S := FS W2 lb mb db eb KR l m s t ns ms lo lo2 D E A1 A2) (by kernel_rfl) hS0 (fun hH0 => ?_)
    clear hH0
    refine wpAnyH_take_dst (i := 0) (v := .agg (cellsB D)) (d := 77) rfl rfl (by kernel_rfl) (by kernel_rfl) (by kernel_rfl) (fun _ _ _ h => h) (yieldsIf_load_Row rfl _ _ rfl db rfl (cellsB D) _ (fun _ h => h.d) Tryz.underlying34 rfl HSD.out) (by assumption) ?r27
    try simp only [Act.put, List.setIfInBounds_toArray, List.set_cons_zero, List.set_cons_succ]
    refine wpAnyH_take_dst (i := 1) (v := .agg (cellsB E)) (d := 78) rfl rfl (by kernel_rfl) (by kernel_rfl) (by kernel_rfl) (fun _ _ _ h => h) (yieldsIf_load_Row rfl _ _ rfl eb rfl (cellsB E) _ (fun _ h => h.e) Tryz.underlying34 rfl HSE.out) (by assumption) ?r28
    try simp only [Act.put, List.setIfInBounds_toArray, List.set_cons_zero, List.set_cons_succ]
    refine wpAnyH_take_dst (i := 2) (v := .bool false) (d := 79) rfl rfl (by kernel_rfl) (by kernel_rfl) (by kernel_rfl) (fun _ _ _ h => h) (Or.inl ⟨by rfl, ?hy29⟩) (by assumption) ?r29
    case hy29 => intro w' hSw; clear hSw; first | (go_simp; done) | (go_simp; with_reducible rfl)
    try simp only [Act.put, List.setIfInBounds_toArray, List.set_cons_zero, List.set_cons_succ]
    refine wpAnyH_take_dst (i := 3) (v := .agg (ltVal l s)) (d := 80) rfl rfl (by kernel_rfl) (by kernel_rfl) (by kernel_rfl) (fun _ _ _ h => h) (yieldsIf_load_Row rfl _ _ rfl lb rfl (ltVal l s) _ (fun _ h => h.fa.rl) Tryz.underlying36 rfl (size62 _ _ HRL.out)) (by assumption) ?r30
    try simp only [Act.put, List.setIfInBounds_toArray, List.set_cons_zero, List.set_cons_succ]
    refine wpAnyH_take_dst (i := 4) (v := .agg (ltVal m t)) (d := 81) rfl rfl (by kernel_rfl) (by kernel_rfl) (by kernel_rfl) (fun _ _ _ h => h) (yieldsIf_load_Row rfl _ _ rfl mb rfl (ltVal m t) _ (fun _ h => h.fa.rm) Tryz.underlying36 rfl (size62 _ _ HRM.out)) (by assumption) ?r31
    try simp only [Act.put, List.setIfInBounds_toArray, List.set_cons_zero, List.set_cons_succ]
    refine wpAnyH_ready (rs := [5]) (by kernel_rfl) (by simp) ?_
    refine AllReadyH.cons rfl (fun K hK => ?_) AllReadyH.nil
    go_simp
    refine (HSAME.out _ hS0).mono ?_
    rintro e w52 ⟨rfl, hb32⟩
    have hS52 := hS0.below hb32
    clear hb32
    refine hK.out _ _ hS52 (fun hHeld => ?_)
    clear hHeld hK K
    try simp only [Act.put, List.setIfInBounds_toArray, List.set_cons_zero, List.set_cons_succ]
    refine wpAnyH_take_dst (i := 6) (v := .bool true) (d := 83) rfl rfl (by kernel_rfl) (by kernel_rfl) (by kernel_rfl) (fun _ _ _ h => h) (Or.inl ⟨by rfl, ?hy33⟩) (by assumption) ?r33
    case hy33 => intro w' hSw; clear hSw; first | (go_simp; done) | (go_simp; with_reducible rfl)
    try simp only [Act.put, List.setIfInBounds_toArray, List.set_cons_zero, List.set_cons_succ]
    refine wpAnyH_take_dst (i := 7) (v := .bool true) (d := 84) rfl rfl (by kernel_rfl) (by kernel_rfl) (by kernel_rfl) (fun _ _ _ h => h) (Or.inl ⟨by rfl, ?hy34⟩) (by assumption) ?r34
    case hy34 => intro w' hSw; clear hSw; first | (go_simp; done) | (go_simp; with_reducible rfl)
    try simp only [Act.put, List.setIfInBounds_toArray, List.set_cons_zero, List.set_cons_succ]
    refine wpAnyH_take_dst (i := 8) (v := .agg (ltVal l s)) (d := 85) rfl rfl (by kernel_rfl) (by kernel_rfl) (by kernel_rfl) (fun _ _ _ h => h) (yieldsIf_load_Row rfl _ _ rfl lb rfl (ltVal l s) _ (fun _ h => h.fa.rl) Tryz.underlying36 rfl (size62 _ _ HRL.out)) (by assumption) ?r35
    try simp only [Act.put, List.setIfInBounds_toArray, List.set_cons_zero, List.set_cons_succ]
    refine wpAnyH_take_dst (i := 9) (v := .agg (ltVal m t)) (d := 86) rfl rfl (by kernel_rfl) (by kernel_rfl) (by kernel_rfl) (fun _ _ _ h => h) (yieldsIf_load_Row rfl _ _ rfl mb rfl (ltVal m t) _ (fun _ h => h.fa.rm) Tryz.underlying36 rfl (size62 _ _ HRM.out)) (by assumption) ?r36
    try simp only [Act.put, List.setIfInBounds_toArray, List.set_cons_zero, List.set_cons_succ]
    refine wpAnyH_take_dst (i := 11) (v := .agg (ltVal m t)) (d := 88) rfl rfl (by kernel_rfl) (by kernel_rfl) (by kernel_rfl) (fun _ _ _ h => h) (yieldsIf_load_Row rfl _ _ rfl mb rfl (ltVal m t) _ (fun _ h => h.fa.rm) Tryz.underlying36 rfl (size62 _ _ HRM.out)) (by assumption) ?r37
    try simp only [Act.put, List.setIfInBounds_toArray, List.set_cons_zero, List.set_cons_succ]
    refine wpAnyH_take_dst (i := 12) (v := .agg (ltVal l s)) (d := 89) rfl rfl (by kernel_rfl) (by kernel_rfl) (by kernel_rfl) (fun _ _ _ h => h) (yieldsIf_load_Row rfl _ _ rfl lb rfl (ltVal l s) _ (fun _ h => h.fa.rl) Tryz.underlying36 rfl (size62 _ _ HRL.out)) (by assumption) ?r38
    try simp only [Act.put, List.setIfInBounds_toArray, List.set_cons_zero, List.set_cons_succ]
    refine wpAnyH_ready (rs := [10]) (by kernel_rfl) (by simp) ?_
    refine AllReadyH.cons rfl (fun K hK => ?_) AllReadyH.nil
    go_simp
    refine (HSAME.out _ hS52).mono ?_
    rintro e w59 ⟨rfl, hb39⟩
    have hS59 := hS52.below hb39
    clear hb39
    refine hK.out _ _ hS59 (fun hHeld => ?_)
    clear hHeld hK K
    try simp only [Act.put, List.setIfInBounds_toArray, List.set_cons_zero, List.set_cons_succ]
    refine wpAnyH_ready (rs := [13]) (by kernel_rfl) (by simp) ?_
    refine AllReadyH.cons rfl (fun K hK => ?_) AllReadyH.nil
    go_simp
    refine (HSAMF.out _ hS59).mono ?_
    rintro e w60 ⟨rfl, hb40⟩
    have hS60 := hS59.below hb40
    clear hb40
    refine hK.out _ _ hS60 (fun hHeld => ?_)
    clear hHeld hK K
    try simp only [Act.put, List.setIfInBounds_toArray, List.set_cons_zero, List.set_cons_succ]
    refine wpAnyH_take_dst (i := 14) (v := .bool true) (d := 91) rfl rfl (by kernel_rfl) (by kernel_rfl) (by kernel_rfl) (fun _ _ _ h => h) (Or.inl ⟨by rfl, ?hy41⟩) (by assumption) ?r41
    case hy41 => intro w' hSw; clear hSw; first | (go_simp; done) | (go_simp; with_reducible rfl)
    try simp only [Act.put, List.setIfInBounds_toArray, List.set_cons_zero, List.set_cons_succ]
    refine wpAnyH_take_dst (i := 15) (v := .bool true) (d := 92) rfl rfl (by kernel_rfl) (by kernel_rfl) (by kernel_rfl) (fun _ _ _ h => h) (Or.inl ⟨by rfl, ?hy42⟩) (by assumption) ?r42
    case hy42 => intro w' hSw; clear hSw; first | (go_simp; done) | (go_simp; with_reducible rfl)
    try simp only [Act.put, List.setIfInBounds_toArray, List.set_cons_zero, List.set_cons_succ]
    refine wpAnyH_take_dst (i := 16) (v := .bool true) (d := 93) rfl rfl (by kernel_rfl) (by kernel_rfl) (by kernel_rfl) (fun _ _ _ h => h) (Or.inl ⟨by rfl, ?hy43⟩) (by assumption) ?r43
    case hy43 => intro w' hSw; clear hSw; first | (go_simp; done) | (go_simp; with_reducible rfl)
    try simp only [Act.put, List.setIfInBounds_toArray, List.set_cons_zero, List.set_cons_succ]
    refine wpAnyH_take_dst (i := 17) (v := .bool true) (d := 94) rfl rfl (by kernel_rfl) (by kernel_rfl) (by kernel_rfl) (fun _ _ _ h => h) (Or.inl ⟨by rfl, ?hy44⟩) (by assumption) ?r44
    case hy44 => intro w' hSw; clear hSw; first | (go_simp; done) | (go_simp; with_reducible rfl)
    try simp only [Act.put, List.setIfInBounds_toArray, List.set_cons_zero, List.set_cons_succ]
    refine wpAnyH_take_dst (i := 18) (v := .bool true) (d := 95) rfl rfl (by kernel_rfl) (by kernel_rfl) (by kernel_rfl) (fun _ _ _ h => h) (Or.inl ⟨by rfl, ?hy45⟩) (by assumption) ?r45
    case hy45 => intro w' hSw; clear hSw; first | (go_simp; done) | (go_simp; with_reducible rfl)
    try simp only [Act.put, List.setIfInBounds_toArray, List.set_cons_zero, List.set_cons_succ]
    refine wpAnyH_take_dst (i := 19) (v := .bool true) (d := 4) rfl rfl (by kernel_rfl) (by kernel_rfl) (by kernel_rfl) (fun _ _ _ h => h) (Or.inl ⟨by rfl, ?hy46⟩) (by assumption) ?r46
    case hy46 => intro w' hSw; clear hSw; first | (go_simp; done) | (go_simp; with_reducible rfl)
    try simp only [Act.put, List.setIfInBounds_toArray, List.set_cons_zero, List.set_cons_succ]
    refine wpAnyH_done (by kernel_rfl) ?_ _
    have hend := below_trans HBEL.out hS60.fa.up
    clear hS0 hS52 hS59 hS60
    go_wp2_with fail
    go_ret
    exact ⟨rfl, hend⟩
  · obtain ⟨r, hr⟩ : ∃ r, (encOf l == encOf m) = r := ⟨_, rfl⟩
    rw [hr] at HSB
    have HR := Lib.hid hr
    clear hr
    cases r
    · go_wp2_with (with_reducible refine g_load 34 ?_; first | (refine wpList_load_Row rfl _ _ rfl db rfl (cellsB D) HF7.out.d _ Tryz.underlying34 rfl HSD.out ?_) | (refine wpList_load_Row rfl _ _ rfl eb rfl (cellsB E) HF7.out.e _ Tryz.underlying34 rfl HSE.out ?_))
      refine (HSB.out _ HF7.out).mono ?_
      rintro e W10 ⟨rfl, hb10⟩
      have HEND := Lib.hid (below_trans HBEL.out (HF7.out.below hb10).fa.up)
      clear hb10
      go_wp2_with fail
      go_ret
      exact ⟨rfl, HEND.out⟩
    · have hbt : b = true := HB2.out (by have := HR.out; simpa using this)
      subst hbt
      go_wp2_with (with_reducible refine g_load 34 ?_; first | (refine wpList_load_Row rfl _ _ rfl db rfl (cellsB D) HF7.out.d _ Tryz.underlying34 rfl HSD.out ?_) | (refine wpList_load_Row rfl _ _ rfl eb rfl (cellsB E) HF7.out.e _ Tryz.underlying34 rfl HSE.out ?_))
      refine (HSB.out _ HF7.out).mono ?_
      rintro e W10 ⟨rfl, hb10⟩
      have HF10 := Lib.hid (HF7.out.below hb10)
      clear hb10
      go_wp2_with fail
      have hS0 := HF10.out.drew
      refine wp_region_held_drew (S := FS W2 lb mb db eb KR l m s t ns ms lo lo2 D E A1 A2) (by kernel_rfl) hS0 (fun hH0 => ?_)
      clear hH0
      refine wpAnyH_take_dst (i := 0) (v := .agg (cellsB D)) (d := 77) rfl rfl (by kernel_rfl) (by kernel_rfl) (by kernel_rfl) (fun _ _ _ h => h) (yieldsIf_load_Row rfl _ _ rfl db rfl (cellsB D) _ (fun _ h => h.d) Tryz.underlying34 rfl HSD.out) (by assumption) ?r47
      try simp only [Act.put, List.setIfInBounds_toArray, List.set_cons_zero, List.set_cons_succ]
      refine wpAnyH_take_dst (i := 1) (v := .agg (cellsB E)) (d := 78) rfl rfl (by kernel_rfl) (by kernel_rfl) (by kernel_rfl) (fun _ _ _ h => h) (yieldsIf_load_Row rfl _ _ rfl eb rfl (cellsB E) _ (fun _ h => h.e) Tryz.underlying34 rfl HSE.out) (by assumption) ?r48
      try simp only [Act.put, List.setIfInBounds_toArray, List.set_cons_zero, List.set_cons_succ]
      refine wpAnyH_take_dst (i := 2) (v := .bool true) (d := 79) rfl rfl (by kernel_rfl) (by kernel_rfl) (by kernel_rfl) (fun _ _ _ h => h) (Or.inl ⟨by rfl, ?hy49⟩) (by assumption) ?r49
      case hy49 => intro w' hSw; clear hSw; first | (go_simp; done) | (go_simp; with_reducible rfl)
      try simp only [Act.put, List.setIfInBounds_toArray, List.set_cons_zero, List.set_cons_succ]
      refine wpAnyH_take_dst (i := 3) (v := .agg (ltVal l s)) (d := 80) rfl rfl (by kernel_rfl) (by kernel_rfl) (by kernel_rfl) (fun _ _ _ h => h) (yieldsIf_load_Row rfl _ _ rfl lb rfl (ltVal l s) _ (fun _ h => h.fa.rl) Tryz.underlying36 rfl (size62 _ _ HRL.out)) (by assumption) ?r50
      try simp only [Act.put, List.setIfInBounds_toArray, List.set_cons_zero, List.set_cons_succ]
      refine wpAnyH_take_dst (i := 4) (v := .agg (ltVal m t)) (d := 81) rfl rfl (by kernel_rfl) (by kernel_rfl) (by kernel_rfl) (fun _ _ _ h => h) (yieldsIf_load_Row rfl _ _ rfl mb rfl (ltVal m t) _ (fun _ h => h.fa.rm) Tryz.underlying36 rfl (size62 _ _ HRM.out)) (by assumption) ?r51
      try simp only [Act.put, List.setIfInBounds_toArray, List.set_cons_zero, List.set_cons_succ]
      refine wpAnyH_ready (rs := [5]) (by kernel_rfl) (by simp) ?_
      refine AllReadyH.cons rfl (fun K hK => ?_) AllReadyH.nil
      go_simp
      refine (HSAME.out _ hS0).mono ?_
      rintro e w72 ⟨rfl, hb52⟩
      have hS72 := hS0.below hb52
      clear hb52
      refine hK.out _ _ hS72 (fun hHeld => ?_)
      clear hHeld hK K
      try simp only [Act.put, List.setIfInBounds_toArray, List.set_cons_zero, List.set_cons_succ]
      refine wpAnyH_take_dst (i := 6) (v := .bool true) (d := 83) rfl rfl (by kernel_rfl) (by kernel_rfl) (by kernel_rfl) (fun _ _ _ h => h) (Or.inl ⟨by rfl, ?hy53⟩) (by assumption) ?r53
      case hy53 => intro w' hSw; clear hSw; first | (go_simp; done) | (go_simp; with_reducible rfl)
      try simp only [Act.put, List.setIfInBounds_toArray, List.set_cons_zero, List.set_cons_succ]
      refine wpAnyH_take_dst (i := 7) (v := .bool true) (d := 84) rfl rfl (by kernel_rfl) (by kernel_rfl) (by kernel_rfl) (fun _ _ _ h => h) (Or.inl ⟨by rfl, ?hy54⟩) (by assumption) ?r54
      case hy54 => intro w' hSw; clear hSw; first | (go_simp; done) | (go_simp; with_reducible rfl)
      try simp only [Act.put, List.setIfInBounds_toArray, List.set_cons_zero, List.set_cons_succ]
      refine wpAnyH_take_dst (i := 8) (v := .agg (ltVal l s)) (d := 85) rfl rfl (by kernel_rfl) (by kernel_rfl) (by kernel_rfl) (fun _ _ _ h => h) (yieldsIf_load_Row rfl _ _ rfl lb rfl (ltVal l s) _ (fun _ h => h.fa.rl) Tryz.underlying36 rfl (size62 _ _ HRL.out)) (by assumption) ?r55
      try simp only [Act.put, List.setIfInBounds_toArray, List.set_cons_zero, List.set_cons_succ]
      refine wpAnyH_take_dst (i := 9) (v := .agg (ltVal m t)) (d := 86) rfl rfl (by kernel_rfl) (by kernel_rfl) (by kernel_rfl) (fun _ _ _ h => h) (yieldsIf_load_Row rfl _ _ rfl mb rfl (ltVal m t) _ (fun _ h => h.fa.rm) Tryz.underlying36 rfl (size62 _ _ HRM.out)) (by assumption) ?r56
      try simp only [Act.put, List.setIfInBounds_toArray, List.set_cons_zero, List.set_cons_succ]
      refine wpAnyH_take_dst (i := 11) (v := .agg (ltVal m t)) (d := 88) rfl rfl (by kernel_rfl) (by kernel_rfl) (by kernel_rfl) (fun _ _ _ h => h) (yieldsIf_load_Row rfl _ _ rfl mb rfl (ltVal m t) _ (fun _ h => h.fa.rm) Tryz.underlying36 rfl (size62 _ _ HRM.out)) (by assumption) ?r57
      try simp only [Act.put, List.setIfInBounds_toArray, List.set_cons_zero, List.set_cons_succ]
      refine wpAnyH_take_dst (i := 12) (v := .agg (ltVal l s)) (d := 89) rfl rfl (by kernel_rfl) (by kernel_rfl) (by kernel_rfl) (fun _ _ _ h => h) (yieldsIf_load_Row rfl _ _ rfl lb rfl (ltVal l s) _ (fun _ h => h.fa.rl) Tryz.underlying36 rfl (size62 _ _ HRL.out)) (by assumption) ?r58
      try simp only [Act.put, List.setIfInBounds_toArray, List.set_cons_zero, List.set_cons_succ]
      refine wpAnyH_ready (rs := [10]) (by kernel_rfl) (by simp) ?_
      refine AllReadyH.cons rfl (fun K hK => ?_) AllReadyH.nil
      go_simp
      refine (HSAME.out _ hS72).mono ?_
      rintro e w79 ⟨rfl, hb59⟩
      have hS79 := hS72.below hb59
      clear hb59
      refine hK.out _ _ hS79 (fun hHeld => ?_)
      clear hHeld hK K
      try simp only [Act.put, List.setIfInBounds_toArray, List.set_cons_zero, List.set_cons_succ]
      refine wpAnyH_ready (rs := [13]) (by kernel_rfl) (by simp) ?_
      refine AllReadyH.cons rfl (fun K hK => ?_) AllReadyH.nil
      go_simp
      refine (HSAMF.out _ hS79).mono ?_
      rintro e w80 ⟨rfl, hb60⟩
      have hS80 := hS79.below hb60
      clear hb60
      refine hK.out _ _ hS80 (fun hHeld => ?_)
      clear hHeld hK K
      try simp only [Act.put, List.setIfInBounds_toArray, List.set_cons_zero, List.set_cons_succ]
      refine wpAnyH_take_dst (i := 14) (v := .bool true) (d := 91) rfl rfl (by kernel_rfl) (by kernel_rfl) (by kernel_rfl) (fun _ _ _ h => h) (Or.inl ⟨by rfl, ?hy61⟩) (by assumption) ?r61
      case hy61 => intro w' hSw; clear hSw; first | (go_simp; done) | (go_simp; with_reducible rfl)
      try simp only [Act.put, List.setIfInBounds_toArray, List.set_cons_zero, List.set_cons_succ]
      refine wpAnyH_take_dst (i := 15) (v := .bool true) (d := 92) rfl rfl (by kernel_rfl) (by kernel_rfl) (by kernel_rfl) (fun _ _ _ h => h) (Or.inl ⟨by rfl, ?hy62⟩) (by assumption) ?r62
      case hy62 => intro w' hSw; clear hSw; first | (go_simp; done) | (go_simp; with_reducible rfl)
      try simp only [Act.put, List.setIfInBounds_toArray, List.set_cons_zero, List.set_cons_succ]
      refine wpAnyH_take_dst (i := 16) (v := .bool true) (d := 93) rfl rfl (by kernel_rfl) (by kernel_rfl) (by kernel_rfl) (fun _ _ _ h => h) (Or.inl ⟨by rfl, ?hy63⟩) (by assumption) ?r63
      case hy63 => intro w' hSw; clear hSw; first | (go_simp; done) | (go_simp; with_reducible rfl)
      try simp only [Act.put, List.setIfInBounds_toArray, List.set_cons_zero, List.set_cons_succ]
      refine wpAnyH_take_dst (i := 17) (v := .bool true) (d := 94) rfl rfl (by kernel_rfl) (by kernel_rfl) (by kernel_rfl) (fun _ _ _ h => h) (Or.inl ⟨by rfl, ?hy64⟩) (by assumption) ?r64
      case hy64 => intro w' hSw; clear hSw; first | (go_simp; done) | (go_simp; with_reducible rfl)
      try simp only [Act.put, List.setIfInBounds_toArray, List.set_cons_zero, List.set_cons_succ]
      refine wpAnyH_take_dst (i := 18) (v := .bool true) (d := 95) rfl rfl (by kernel_rfl) (by kernel_rfl) (by kernel_rfl) (fun _ _ _ h => h) (Or.inl ⟨by rfl, ?hy65⟩) (by assumption) ?r65
      case hy65 => intro w' hSw; clear hSw; first | (go_simp; done) | (go_simp; with_reducible rfl)
      try simp only [Act.put, List.setIfInBounds_toArray, List.set_cons_zero, List.set_cons_succ]
      refine wpAnyH_take_dst (i := 19) (v := .bool true) (d := 4) rfl rfl (by kernel_rfl) (by kernel_rfl) (by kernel_rfl) (fun _ _ _ h => h) (Or.inl ⟨by rfl, ?hy66⟩) (by assumption) ?r66
      case hy66 => intro w' hSw; clear hSw; first | (go_simp; done) | (go_simp; with_reducible rfl)
      try simp only [Act.put, List.setIfInBounds_toArray, List.set_cons_zero, List.set_cons_succ]
      refine wpAnyH_done (by kernel_rfl) ?_ _
      have hend := below_trans HBEL.out hS80.fa.up
      clear hS0 hS72 hS79 hS80
      go_wp2_with fail
      go_ret
      exact ⟨rfl, hend⟩
end Go.Proofs.YtenbgpcdoljkgaaGreatDoor
