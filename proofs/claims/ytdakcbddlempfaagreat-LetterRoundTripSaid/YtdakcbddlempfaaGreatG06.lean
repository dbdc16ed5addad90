/- The texts RefSame, UnW, SvS, Parts, Agg5, in this order. -/
import Derived.Test.YtdakcbddlempfaaGreatG03
import Derived.Test.YtdakcbddlempfaaGreatSame
import Derived.Deep.DeepCutAuto
import Derived.Test.YtdakcbddlempfaaGreatSan
import Derived.Test.YtdakcbddlempfaaGreatG05
import Derived.Lib.SmallJoins
/- kalendsref20.Same of letters that differ in numbers alone. -/
namespace Go.Proofs.YtdakcbddlempfaaGreat
open Go Go.RowKit

/-- Two letters that differ in numbers alone. -/
structure Twin (a b : Lt) : Prop where
  kind : a.kind = b.kind
  src : a.src = b.src
  dst : a.dst = b.dst
  move : a.move = b.move
  wfrom : a.wfrom = b.wfrom
  wto : a.wto = b.wto
  ref : a.ref = b.ref
  cells : a.cells = b.cells
  series : a.series = b.series
  len : a.ref.length = 32
/-- Both letters, as they lie. -/
structure TwoLt (w : World) (a b : Lt) (s t : Sl) (wr : World) : Prop where
  ra : Row wr w.heap.size (ltVal a s)
  rb : Row wr (w.heap.size + 1) (ltVal b t)
  lo : Below w.heap.size w wr
theorem TwoLt.below {w wr w' : World} {a b : Lt} {s t : Sl} (h : TwoLt w a b s t wr) (hb : Below wr.heap.size wr w') : TwoLt w a b s t w' := ⟨h.ra.keep hb, h.rb.keep hb, below_trans h.lo hb⟩
theorem TwoLt.drew {w wr : World} {a b : Lt} {s t : Sl} (h : TwoLt w a b s t wr) : TwoLt w a b s t wr.drew := ⟨h.ra, h.rb, h.lo.drew⟩
theorem numB_off (k : Nat) (hk : k < 17) : numB k = (numOff k).isSome :=
  all17 (p := fun k => numB k = (numOff k).isSome) (by refine ⟨?_, ?_, ?_, ?_, ?_, ?_, ?_, ?_, ?_, ?_, ?_, ?_, ?_, ?_, ?_, ?_, ?_⟩ <;> rfl) k hk
attribute [local go_sem] ltVal_get lt_get0 lt_get1 lt_get2 lt_get12 lt_get13 lt_get14 lt_get15 lt_get16 lt_get17 lt_get18 lt_get19 lt_get20 lt_get21 lt_get22 lt_get23 lt_get27 lt_get28 lt_get29
set_option maxRecDepth 10000 in
set_option maxHeartbeats 4000000 in
theorem refSame_twin (a b : Lt) (s t : Sl) (w : World) (h : Twin a b)
    (hc : ∀ w', Below w.heap.size w w' → Calls Tryz.prog 46 #[.slice s.C a.cells.length s.e, .slice t.C b.cells.length t.e] w' (Gives (.bool true) w'))
    (hs : ∀ w', Below w.heap.size w w' → Calls Tryz.prog 47 #[.agg (seC a.series s.A s.B s.c s.d), .agg (seC b.series t.A t.B t.c t.d)] w' (Gives (.bool true) w')) :
    Calls Tryz.prog 13 #[.agg (ltVal a s), .agg (ltVal b t)] w (Gives (.bool (numsEq a b)) w) := by
  have HRA := Lib.hid ((Row.new w (ltVal a s) 37).keep (below_var _ (.cells (ltVal b t) 37)))
  have HRB : Hid (Row ((w.alloc (.cells (ltVal a s) 37)).alloc (.cells (ltVal b t) 37)) (w.heap.size + 1) (ltVal b t)) := Lib.hid (by have := Row.new (w.alloc (.cells (ltVal a s) 37)) (ltVal b t) 37; rwa [World.size_alloc] at this)
  have HB0 := Lib.hid (below_trans (below_var w (.cells (ltVal a s) 37)) (below_var _ (.cells (ltVal b t) 37)))
  have HC := Lib.hid hc
  have HSR := Lib.hid hs
  have HT := Lib.hid h
  have h0 : (a.kind == b.kind) = true := by rw [h.kind]; exact beq_self_eq_true _
  have h1 : (a.src == b.src) = true := by rw [h.src]; exact beq_self_eq_true _
  have h2 : (a.dst == b.dst) = true := by rw [h.dst]; exact beq_self_eq_true _
  have n0 : (a.kind != b.kind) = false := by rw [h.kind]; exact ints_same _
  have n1 : (a.src != b.src) = false := by rw [h.src]; exact ints_same _
  have n2 : (a.dst != b.dst) = false := by rw [h.dst]; exact ints_same _
  have hlb : b.ref.length = 32 := by rw [← h.ref]; exact h.len
  have heqd : ∀ W, (binOp .neq 35 (.agg (refCells a.ref).toArray) (.agg (refCells b.ref).toArray)).run Tryz.prog W = .ok (.bool false) W := fun W => by rw [neq_digest a.ref b.ref h.len hlb W, h.ref]; simp
  have heqm : ∀ W, (binOp .neq 26 (.agg #[I a.move.day, .bool a.move.drop, I a.move.toDay, I a.move.minute, I a.move.length]) (.agg #[I b.move.day, .bool b.move.drop, I b.move.toDay, I b.move.minute, I b.move.length])).run Tryz.prog W = .ok (.bool false) W := fun W => by rw [h.move]; exact neq_mv_same _ W
  have heqw : ∀ W, (binOp .neq 33 (.agg #[I a.wfrom, I a.wto]) (.agg #[I b.wfrom, I b.wto])).run Tryz.prog W = .ok (.bool false) W := fun W => by rw [neq_span, h.wfrom, h.wto]; simp
  have h32a : (refCells a.ref).length = 32 := by simp [refCells, h.len]
  have h32b : (refCells b.ref).length = 32 := by simp [refCells, hlb]
  have HDIA : Hid ((Tryz.prog.info? 35).map (·.size) = some (refCells a.ref).length) := Lib.hid (by rw [h32a]; kernel_rfl)
  have HDIB : Hid ((Tryz.prog.info? 35).map (·.size) = some (refCells b.ref).length) := Lib.hid (by rw [h32b]; kernel_rfl)
  have HDA : Hid (World.rangeAt _ w.heap.size 30 (refCells a.ref)) := Lib.hid fun j v hv => (HRA.out.2 (30 + j)).trans ((lt_getRef a _ _ _ j).trans hv)
  have HDB : Hid (World.rangeAt _ (w.heap.size + 1) 30 (refCells b.ref)) := Lib.hid fun j v hv => (HRB.out.2 (30 + j)).trans ((lt_getRef b _ _ _ j).trans hv)
  have HLA := Lib.hid h.len
  have HLB := Lib.hid hlb
  clear hc hs h h32a h32b hlb
  go_enter Tryz.func13, Tryz.ntmps13
  go_wp2_with (first
    | (with_reducible refine g_load 35 ?_; refine wpList_load_at rfl _ _ rfl w.heap.size 30 rfl (refCells a.ref) HDA.out _ Tryz.underlying35 rfl HDIA.out ?_)
    | (with_reducible refine g_load 35 ?_; refine wpList_load_at rfl _ _ rfl (w.heap.size + 1) 30 rfl (refCells b.ref) HDB.out _ Tryz.underlying35 rfl HDIB.out ?_))
  have HT0 := Lib.hid (TwoLt.mk HRA.out HRB.out HB0.out)
  obtain ⟨W0, hW0⟩ : ∃ W, (w.alloc (.cells (ltVal a s) 37)).alloc (.cells (ltVal b t) 37) = W := ⟨_, rfl⟩
  rw [hW0] at HT0 ⊢
  clear hW0 HRA HRB HB0 HDA HDB
  go_loopw [5] (fun i wr => ∃ k : Nat, k ≤ 17 ∧ i = I k ∧ TwoLt w a b s t wr ∧ ∀ j, j < k → ((numOff j).isNone || (numF a j == numF b j)) = true) (fun i _ => 17 - (intOf i).toNat)
  case atStart => exact ⟨0, Nat.zero_le _, rfl, HT0.out, fun j hj => absurd hj (Nat.not_lt_zero _)⟩
  case round =>
    obtain ⟨k, hk, rfl, hS, hall⟩ := hrel
    have HS := Lib.hid hS
    have HALL := Lib.hid hall
    clear hS hall HT0
    by_cases hlt : (k : Int) < 17
    · have hk17 : k < 17 := by omega
      obtain ⟨u, hu⟩ : ∃ u, numB k = u := ⟨_, rfl⟩
      have HU := Lib.hid hu
      clear hu
      cases u with
      | false =>
        go_wp2_with fail
        have hS1 := HS.out.drew
        refine wp_region_held_drew (S := TwoLt w a b s t) (by kernel_rfl) hS1 (fun hH0 => ?_)
        refine wpAnyH_take_dst (i := 0) (v := ?v0q2) (d := 50) rfl rfl (by kernel_rfl) (by kernel_rfl) (by kernel_rfl) (fun _ _ _ h => h) (Or.inl ⟨by rfl, ?hy0q2⟩) (by assumption) ?r0q2
        case hy0q2 => intro w' hSw; first | (go_simp; done) | (go_simp; with_reducible rfl)
        try simp only [Act.put, List.setIfInBounds_toArray, List.set_cons_zero, List.set_cons_succ]
        refine wpAnyH_ready (rs := [1]) (by kernel_rfl) (by simp) ?_
        refine AllReadyH.cons rfl (fun K hK => ?_) AllReadyH.nil
        go_simp
        refine (numeric_any k _).mono ?_
        rintro x w2 ⟨rfl, hw2⟩
        subst hw2
        rw [HU.out]
        refine hK.out _ _ hS1 (fun hHeld => ?_)
        clear hHeld
        clear hK K
        try simp only [Act.put, List.setIfInBounds_toArray, List.set_cons_zero, List.set_cons_succ]
        refine wpAnyH_take_dst (i := 2) (v := ?v2q2) (d := 52) rfl rfl (by kernel_rfl) (by kernel_rfl) (by kernel_rfl) (fun _ _ _ h => h) (Or.inl ⟨by rfl, ?hy2q2⟩) (by assumption) ?r2q2
        case hy2q2 => intro w' hSw; first | (go_simp; done) | (go_simp; with_reducible rfl)
        try simp only [Act.put, List.setIfInBounds_toArray, List.set_cons_zero, List.set_cons_succ]
        refine wpAnyH_take_dst (i := 3) (v := undef) (d := 53) rfl rfl (by kernel_rfl) (by kernel_rfl) (by kernel_rfl) (fun _ _ _ h => h) (Or.inr ⟨by rfl, rfl⟩) (by assumption) ?r3q2
        try simp only [Act.put, List.setIfInBounds_toArray, List.set_cons_zero, List.set_cons_succ]
        refine wpAnyH_take_dst (i := 4) (v := undef) (d := 54) rfl rfl (by kernel_rfl) (by kernel_rfl) (by kernel_rfl) (fun _ _ _ h => h) (Or.inr ⟨by rfl, rfl⟩) (by assumption) ?r4q2
        try simp only [Act.put, List.setIfInBounds_toArray, List.set_cons_zero, List.set_cons_succ]
        refine wpAnyH_take_dst (i := 5) (v := undef) (d := 55) rfl rfl (by kernel_rfl) (by kernel_rfl) (by kernel_rfl) (fun _ _ _ h => h) (Or.inr ⟨by rfl, rfl⟩) (by assumption) ?r5q2
        try simp only [Act.put, List.setIfInBounds_toArray, List.set_cons_zero, List.set_cons_succ]
        refine wpAnyH_take_dst (i := 6) (v := undef) (d := 56) rfl rfl (by kernel_rfl) (by kernel_rfl) (by kernel_rfl) (fun _ _ _ h => h) (Or.inr ⟨by rfl, rfl⟩) (by assumption) ?r6q2
        try simp only [Act.put, List.setIfInBounds_toArray, List.set_cons_zero, List.set_cons_succ]
        refine wpAnyH_take_dst (i := 7) (v := undef) (d := 57) rfl rfl (by kernel_rfl) (by kernel_rfl) (by kernel_rfl) (fun _ _ _ h => h) (Or.inr ⟨by rfl, rfl⟩) (by assumption) ?r7q2
        try simp only [Act.put, List.setIfInBounds_toArray, List.set_cons_zero, List.set_cons_succ]
        refine wpAnyH_take_dst (i := 8) (v := undef) (d := 58) rfl rfl (by kernel_rfl) (by kernel_rfl) (by kernel_rfl) (fun _ _ _ h => h) (Or.inr ⟨by rfl, rfl⟩) (by assumption) ?r8q2
        try simp only [Act.put, List.setIfInBounds_toArray, List.set_cons_zero, List.set_cons_succ]
        refine wpAnyH_take_dst (i := 9) (v := undef) (d := 59) rfl rfl (by kernel_rfl) (by kernel_rfl) (by kernel_rfl) (fun _ _ _ h => h) (Or.inr ⟨by rfl, rfl⟩) (by assumption) ?r9q2
        try simp only [Act.put, List.setIfInBounds_toArray, List.set_cons_zero, List.set_cons_succ]
        refine wpAnyH_take_dst (i := 10) (v := ?v10q2) (d := 60) rfl rfl (by kernel_rfl) (by kernel_rfl) (by kernel_rfl) (fun _ _ _ h => h) (Or.inl ⟨by rfl, ?hy10q2⟩) (by assumption) ?r10q2
        case hy10q2 => intro w' hSw; first | (go_simp; done) | (go_simp; with_reducible rfl)
        try simp only [Act.put, List.setIfInBounds_toArray, List.set_cons_zero, List.set_cons_succ]
        refine wpAnyH_done (by kernel_rfl) ?_ _
        clear hH0
        go_wp2_with fail
        go_roundw
        case rel => exact ⟨k + 1, by omega, by go_num, hS1, fun j hj => by
            by_cases e : j = k
            · subst e
              have h1 := numB_off j hk17
              rw [HU.out] at h1
              cases h2 : numOff j with
              | none => rfl
              | some o => rw [h2] at h1; cases h1
            · exact HALL.out j (by omega)⟩
        case measure => simp [intOf]; omega
      | true =>
        obtain ⟨v, hv⟩ : ∃ v, (numF a k == numF b k) = v := ⟨_, rfl⟩
        have HV := Lib.hid hv
        have hv' : (numF a k != numF b k) = !v := by rw [← hv]; rfl
        clear hv
        cases v with
        | true =>
          go_wp2_with fail
          have hS1 := HS.out.drew
          refine wp_region_held_drew (S := TwoLt w a b s t) (by kernel_rfl) hS1 (fun hH0 => ?_)
          refine wpAnyH_take_dst (i := 0) (v := ?v0q3) (d := 50) rfl rfl (by kernel_rfl) (by kernel_rfl) (by kernel_rfl) (fun _ _ _ h => h) (Or.inl ⟨by rfl, ?hy0q3⟩) (by assumption) ?r0q3
          case hy0q3 => intro w' hSw; first | (go_simp; done) | (go_simp; with_reducible rfl)
          try simp only [Act.put, List.setIfInBounds_toArray, List.set_cons_zero, List.set_cons_succ]
          refine wpAnyH_ready (rs := [1]) (by kernel_rfl) (by simp) ?_
          refine AllReadyH.cons rfl (fun K hK => ?_) AllReadyH.nil
          go_simp
          refine (numeric_any k _).mono ?_
          rintro x w2 ⟨rfl, hw2⟩
          subst hw2
          rw [HU.out]
          refine hK.out _ _ hS1 (fun hHeld => ?_)
          clear hHeld
          clear hK K
          try simp only [Act.put, List.setIfInBounds_toArray, List.set_cons_zero, List.set_cons_succ]
          refine wpAnyH_take_dst (i := 2) (v := ?v2q3) (d := 52) rfl rfl (by kernel_rfl) (by kernel_rfl) (by kernel_rfl) (fun _ _ _ h => h) (Or.inl ⟨by rfl, ?hy2q3⟩) (by assumption) ?r2q3
          case hy2q3 => intro w' hSw; first | (go_simp; done) | (go_simp; with_reducible rfl)
          try simp only [Act.put, List.setIfInBounds_toArray, List.set_cons_zero, List.set_cons_succ]
          refine wpAnyH_take_dst (i := 3) (v := _) (d := 53) rfl rfl (by kernel_rfl) (by kernel_rfl) (by kernel_rfl) (fun _ _ _ h => h) (yieldsIf_load_Row (by rfl) _ _ rfl w.heap.size rfl (ltVal a s) _ (fun w' h => h.ra) Tryz.underlying37 rfl (size62 _ _ HLA.out)) (by assumption) ?r3q3
          try simp only [Act.put, List.setIfInBounds_toArray, List.set_cons_zero, List.set_cons_succ]
          refine wpAnyH_take_dst (i := 4) (v := ?v4q3) (d := 54) rfl rfl (by kernel_rfl) (by kernel_rfl) (by kernel_rfl) (fun _ _ _ h => h) (Or.inl ⟨by rfl, ?hy4q3⟩) (by assumption) ?r4q3
          case hy4q3 => intro w' hSw; first | (go_simp; done) | (go_simp; with_reducible rfl)
          try simp only [Act.put, List.setIfInBounds_toArray, List.set_cons_zero, List.set_cons_succ]
          refine wpAnyH_take_dst (i := 6) (v := _) (d := 56) rfl rfl (by kernel_rfl) (by kernel_rfl) (by kernel_rfl) (fun _ _ _ h => h) (yieldsIf_load_Row (by rfl) _ _ rfl (w.heap.size + 1) rfl (ltVal b t) _ (fun w' h => h.rb) Tryz.underlying37 rfl (size62 _ _ HLB.out)) (by assumption) ?r6q3
          try simp only [Act.put, List.setIfInBounds_toArray, List.set_cons_zero, List.set_cons_succ]
          refine wpAnyH_take_dst (i := 7) (v := ?v7q3) (d := 57) rfl rfl (by kernel_rfl) (by kernel_rfl) (by kernel_rfl) (fun _ _ _ h => h) (Or.inl ⟨by rfl, ?hy7q3⟩) (by assumption) ?r7q3
          case hy7q3 => intro w' hSw; first | (go_simp; done) | (go_simp; with_reducible rfl)
          try simp only [Act.put, List.setIfInBounds_toArray, List.set_cons_zero, List.set_cons_succ]
          refine wpAnyH_ready (rs := [5]) (by kernel_rfl) (by simp) ?_
          refine AllReadyH.cons rfl (fun K hK => ?_) AllReadyH.nil
          go_simp
          refine (refNumber_any a s k hk17 HU.out _).mono ?_
          rintro x w3 ⟨rfl, hb3⟩
          have hS3 := hS1.below hb3
          clear hb3
          refine hK.out _ _ hS3 (fun hHeld => ?_)
          clear hHeld
          clear hK K
          try simp only [Act.put, List.setIfInBounds_toArray, List.set_cons_zero, List.set_cons_succ]
          refine wpAnyH_ready (rs := [8]) (by kernel_rfl) (by simp) ?_
          refine AllReadyH.cons rfl (fun K hK => ?_) AllReadyH.nil
          go_simp
          refine (refNumber_any b t k hk17 HU.out _).mono ?_
          rintro x w4 ⟨rfl, hb4⟩
          have hS4 := hS3.below hb4
          clear hb4
          refine hK.out _ _ hS4 (fun hHeld => ?_)
          clear hHeld
          clear hK K
          try simp only [Act.put, List.setIfInBounds_toArray, List.set_cons_zero, List.set_cons_succ]
          refine wpAnyH_take_dst (i := 9) (v := ?v9q3) (d := 59) rfl rfl (by kernel_rfl) (by kernel_rfl) (by kernel_rfl) (fun _ _ _ h => h) (Or.inl ⟨by rfl, ?hy9q3⟩) (by assumption) ?r9q3
          case hy9q3 => intro w' hSw; first | (go_simp; done) | (go_simp; with_reducible rfl)
          try simp only [Act.put, List.setIfInBounds_toArray, List.set_cons_zero, List.set_cons_succ]
          refine wpAnyH_take_dst (i := 10) (v := ?v10q3) (d := 60) rfl rfl (by kernel_rfl) (by kernel_rfl) (by kernel_rfl) (fun _ _ _ h => h) (Or.inl ⟨by rfl, ?hy10q3⟩) (by assumption) ?r10q3
          case hy10q3 => intro w' hSw; first | (go_simp; done) | (go_simp; with_reducible rfl)
          try simp only [Act.put, List.setIfInBounds_toArray, List.set_cons_zero, List.set_cons_succ]
          refine wpAnyH_done (by kernel_rfl) ?_ _
          clear hH0
          go_wp2_with fail
          go_roundw
          case rel => exact ⟨k + 1, by omega, by go_num, hS4, fun j hj => by
            by_cases e : j = k
            · subst e; rw [HV.out, Bool.or_true]
            · exact HALL.out j (by omega)⟩
          case measure => simp [intOf]; omega
        | false =>
          go_wp2_with fail
          have hS1 := HS.out.drew
          refine wp_region_held_drew (S := TwoLt w a b s t) (by kernel_rfl) hS1 (fun hH0 => ?_)
          refine wpAnyH_take_dst (i := 0) (v := ?v0q4) (d := 50) rfl rfl (by kernel_rfl) (by kernel_rfl) (by kernel_rfl) (fun _ _ _ h => h) (Or.inl ⟨by rfl, ?hy0q4⟩) (by assumption) ?r0q4
          case hy0q4 => intro w' hSw; first | (go_simp; done) | (go_simp; with_reducible rfl)
          try simp only [Act.put, List.setIfInBounds_toArray, List.set_cons_zero, List.set_cons_succ]
          refine wpAnyH_ready (rs := [1]) (by kernel_rfl) (by simp) ?_
          refine AllReadyH.cons rfl (fun K hK => ?_) AllReadyH.nil
          go_simp
          refine (numeric_any k _).mono ?_
          rintro x w2 ⟨rfl, hw2⟩
          subst hw2
          rw [HU.out]
          refine hK.out _ _ hS1 (fun hHeld => ?_)
          clear hHeld
          clear hK K
          try simp only [Act.put, List.setIfInBounds_toArray, List.set_cons_zero, List.set_cons_succ]
          refine wpAnyH_take_dst (i := 2) (v := ?v2q4) (d := 52) rfl rfl (by kernel_rfl) (by kernel_rfl) (by kernel_rfl) (fun _ _ _ h => h) (Or.inl ⟨by rfl, ?hy2q4⟩) (by assumption) ?r2q4
          case hy2q4 => intro w' hSw; first | (go_simp; done) | (go_simp; with_reducible rfl)
          try simp only [Act.put, List.setIfInBounds_toArray, List.set_cons_zero, List.set_cons_succ]
          refine wpAnyH_take_dst (i := 3) (v := _) (d := 53) rfl rfl (by kernel_rfl) (by kernel_rfl) (by kernel_rfl) (fun _ _ _ h => h) (yieldsIf_load_Row (by rfl) _ _ rfl w.heap.size rfl (ltVal a s) _ (fun w' h => h.ra) Tryz.underlying37 rfl (size62 _ _ HLA.out)) (by assumption) ?r3q4
          try simp only [Act.put, List.setIfInBounds_toArray, List.set_cons_zero, List.set_cons_succ]
          refine wpAnyH_take_dst (i := 4) (v := ?v4q4) (d := 54) rfl rfl (by kernel_rfl) (by kernel_rfl) (by kernel_rfl) (fun _ _ _ h => h) (Or.inl ⟨by rfl, ?hy4q4⟩) (by assumption) ?r4q4
          case hy4q4 => intro w' hSw; first | (go_simp; done) | (go_simp; with_reducible rfl)
          try simp only [Act.put, List.setIfInBounds_toArray, List.set_cons_zero, List.set_cons_succ]
          refine wpAnyH_take_dst (i := 6) (v := _) (d := 56) rfl rfl (by kernel_rfl) (by kernel_rfl) (by kernel_rfl) (fun _ _ _ h => h) (yieldsIf_load_Row (by rfl) _ _ rfl (w.heap.size + 1) rfl (ltVal b t) _ (fun w' h => h.rb) Tryz.underlying37 rfl (size62 _ _ HLB.out)) (by assumption) ?r6q4
          try simp only [Act.put, List.setIfInBounds_toArray, List.set_cons_zero, List.set_cons_succ]
          refine wpAnyH_take_dst (i := 7) (v := ?v7q4) (d := 57) rfl rfl (by kernel_rfl) (by kernel_rfl) (by kernel_rfl) (fun _ _ _ h => h) (Or.inl ⟨by rfl, ?hy7q4⟩) (by assumption) ?r7q4
          case hy7q4 => intro w' hSw; first | (go_simp; done) | (go_simp; with_reducible rfl)
          try simp only [Act.put, List.setIfInBounds_toArray, List.set_cons_zero, List.set_cons_succ]
          refine wpAnyH_ready (rs := [5]) (by kernel_rfl) (by simp) ?_
          refine AllReadyH.cons rfl (fun K hK => ?_) AllReadyH.nil
          go_simp
          refine (refNumber_any a s k hk17 HU.out _).mono ?_
          rintro x w3 ⟨rfl, hb3⟩
          have hS3 := hS1.below hb3
          clear hb3
          refine hK.out _ _ hS3 (fun hHeld => ?_)
          clear hHeld
          clear hK K
          try simp only [Act.put, List.setIfInBounds_toArray, List.set_cons_zero, List.set_cons_succ]
          refine wpAnyH_ready (rs := [8]) (by kernel_rfl) (by simp) ?_
          refine AllReadyH.cons rfl (fun K hK => ?_) AllReadyH.nil
          go_simp
          refine (refNumber_any b t k hk17 HU.out _).mono ?_
          rintro x w4 ⟨rfl, hb4⟩
          have hS4 := hS3.below hb4
          clear hb4
          refine hK.out _ _ hS4 (fun hHeld => ?_)
          clear hHeld
          clear hK K
          try simp only [Act.put, List.setIfInBounds_toArray, List.set_cons_zero, List.set_cons_succ]
          refine wpAnyH_take_dst (i := 9) (v := ?v9q4) (d := 59) rfl rfl (by kernel_rfl) (by kernel_rfl) (by kernel_rfl) (fun _ _ _ h => h) (Or.inl ⟨by rfl, ?hy9q4⟩) (by assumption) ?r9q4
          case hy9q4 => intro w' hSw; first | (go_simp; done) | (go_simp; with_reducible rfl)
          try simp only [Act.put, List.setIfInBounds_toArray, List.set_cons_zero, List.set_cons_succ]
          refine wpAnyH_take_dst (i := 10) (v := ?v10q4) (d := 60) rfl rfl (by kernel_rfl) (by kernel_rfl) (by kernel_rfl) (fun _ _ _ h => h) (Or.inl ⟨by rfl, ?hy10q4⟩) (by assumption) ?r10q4
          case hy10q4 => intro w' hSw; first | (go_simp; done) | (go_simp; with_reducible rfl)
          try simp only [Act.put, List.setIfInBounds_toArray, List.set_cons_zero, List.set_cons_succ]
          refine wpAnyH_done (by kernel_rfl) ?_ _
          clear hH0
          go_wp2_with fail
          go_ret
          have h1 := numB_off k hk17
          rw [HU.out] at h1
          obtain ⟨o, ho⟩ := Option.isSome_iff_exists.1 h1.symm
          rw [numsEq_no hk17 ho HV.out]
          exact ⟨rfl, hS4.lo⟩
    · have hk17 : k = 17 := by omega
      subst hk17
      have hcells : a.cells.length = a.cells.length := rfl
      have fa : ∀ i, wr.cell? ⟨w.heap.size, i, none⟩ = (ltVal a s)[i]? := HS.out.ra.2
      have fb : ∀ i, wr.cell? ⟨w.heap.size + 1, i, none⟩ = (ltVal b t)[i]? := HS.out.rb.2
      go_wp2_with fail
      refine (HC.out _ HS.out.lo).mono ?_
      rintro x w1 ⟨rfl, hb1⟩
      have HS1 := Lib.hid (HS.out.below hb1)
      clear fa fb hb1
      have fa : ∀ i, w1.cell? ⟨w.heap.size, i, none⟩ = (ltVal a s)[i]? := HS1.out.ra.2
      have fb : ∀ i, w1.cell? ⟨w.heap.size + 1, i, none⟩ = (ltVal b t)[i]? := HS1.out.rb.2
      go_wp2_with fail
      refine (HSR.out _ HS1.out.lo).mono ?_
      rintro x w2 ⟨rfl, hb2⟩
      have HS2 := Lib.hid (HS1.out.below hb2)
      clear fa fb hb2
      go_wp2_with fail
      go_ret
      rw [numsEq_yes HALL.out]
      exact ⟨rfl, HS2.out.lo⟩
end Go.Proofs.YtdakcbddlempfaaGreat

/- The letters' functions at a letter that was made and its neighbour with another number: Same, kalendsref20.Same; Valid, Bytes where the number is not used; kalendsref20.Mod. -/
namespace Go.Proofs.YtdakcbddlempfaaGreat
open Go Go.RowKit

theorem LtMem.grow {lo : Nat} {w w' : World} {l : Lt} {s : Sl} {ns : List NdV} (h : LtMem lo w l s ns) (hb : Below w.heap.size w w') (hlo : 0 < lo) : LtMem lo w' l s ns := h.mkeep (MKeep.of_below (mb := 0) hb) hlo
theorem sameL_num (l : Lt) (s : Sl) (ns : List NdV) (lo k : Nat) (x : Int) (W : World) (hm : MadeLt l ns) (mem : LtMem lo W l s ns) (hlo : 0 < lo) :
    Calls Tryz.prog 17 #[.agg (ltVal l s), .agg (ltVal (setNum l k x) s)] W (Gives (.bool (numsEq l (setNum l k x))) W) := by
  have hl := hm.lens
  have h := same_any l (setNum l k x) s s W hm.ok (hm.ok.num k x) true true true
    (fun w' hb => by
      have m' := mem.grow hb hlo
      have := eqInts_any s.C s.C s.e s.e l.cells l.cells w' m'.ints m'.ints (by omega)
      rw [beq_self_eq_true] at this
      rw [setNum_cellsL]; exact this)
    (fun w' hb => by
      have m' := mem.grow hb hlo
      rw [setNum_series]
      exact eqMoves_eq s.B s.B s.d s.d l.series.moves w' m'.mvs m'.mvs (by omega) _ rfl)
    (fun w' hb => by
      have m' := mem.grow hb hlo
      rw [setNum_series]
      exact eqRule_eq s.A s.A s.c s.c ns ns w' rfl (m'.rules hl.2.2.2) (m'.rules hl.2.2.2) (by have h1 := hl.1; rw [mem.names, List.length_map] at h1; omega) _ (by rw [mem.names, List.length_map]))
  rw [headEq_num, setNum_series, serEq_same] at h
  simpa using h
theorem refSame_num (l : Lt) (s : Sl) (ns : List NdV) (lo k : Nat) (x : Int) (W : World) (hm : MadeLt l ns) (mem : LtMem lo W l s ns) (hlo : 0 < lo) :
    Calls Tryz.prog 13 #[.agg (ltVal l s), .agg (ltVal (setNum l k x) s)] W (Gives (.bool (numsEq l (setNum l k x))) W) := by
  have hl := hm.lens
  refine refSame_twin l (setNum l k x) s s W ⟨(setNum_kind _ _ _).symm, (setNum_src _ _ _).symm, (setNum_dst _ _ _).symm, (setNum_move _ _ _).symm, (setNum_wfrom _ _ _).symm, (setNum_wto _ _ _).symm, (setNum_ref _ _ _).symm, (setNum_cellsL _ _ _).symm, (setNum_series _ _ _).symm, hm.ref⟩
    (fun w' hb => ?_) (fun w' hb => ?_)
  · have m' := mem.grow hb hlo
    have := sameInts_any s.C s.C s.e s.e l.cells l.cells w' m'.ints m'.ints (by omega)
    rw [beq_self_eq_true] at this
    rw [setNum_cellsL]; exact this
  · have m' := mem.grow hb hlo
    rw [setNum_series]
    exact refSeries_eq l.series s.A s.A s.B s.B s.c s.c s.d s.d ns ns w' mem.names mem.names (m'.rules hl.2.2.2) (m'.rules hl.2.2.2) m'.mvs m'.mvs (by omega) (by omega)
theorem valid_bad (m : Lt) (s : Sl) (W : World) (hok : LtOK m) (hi : IntsAt W W.heap.size s.C m.cells) (hh : headOK m = true) (hb : bodyOK m = false) : Calls Tryz.prog 12 #[.agg (ltVal m s)] W (Gives (I 1) W) := by
  have h := valid_nos m s W hok hi hh (fun h => by rw [hb] at h; cases h)
  have e : vCode m 0 = 1 := by unfold vCode; rw [hh, hb]; rfl
  rw [e] at h
  exact h
theorem bytes_bad (m : Lt) (s : Sl) (W : World) (hok : LtOK m) (hi : IntsAt W W.heap.size s.C m.cells) (hh : headOK m = true) (hb : bodyOK m = false) : Calls Tryz.prog 10 #[.agg (ltVal m s)] W (Gives (.tuple #[.slice none 0 0, I 1]) W) :=
  (bytes_no m s [] W 1 hok.ref rfl (fun w' hb' => valid_bad m s w' hok ((hi.keep hb').more hb'.size) hh hb)).mono fun _ _ h => ⟨h.1, h.2⟩
set_option maxRecDepth 10000 in
theorem refMod_any (a b : Int) (w : World) (hb : 0 < b) (hb2 : b ≤ 1000000000000000000) (ha : fits a) : Calls Tryz.prog 9 #[I a, I b] w fun e w' => e = .returned (I (a % b)) ∧ w' = w := by
  have HM := Lib.hid (mod_any a b w hb hb2 ha)
  clear ha hb hb2
  go_enter Tryz.func9, Tryz.ntmps9
  go_wp2_with fail
  refine HM.out.mono ?_
  rintro e w1 ⟨rfl, rfl⟩
  go_wp2_with fail
  go_ret
  exact ⟨rfl, rfl⟩
end Go.Proofs.YtdakcbddlempfaaGreat

/- letter.Valid of a letter that was made: yes. -/
namespace Go.Proofs.YtdakcbddlempfaaGreat
open Go Go.RowKit

theorem valid_made (l : Lt) (s : Sl) (ns : List NdV) (lo : Nat) (w : World) (hl : MadeLt l ns) (hm : LtMem lo w l s ns) (hlo : 0 < lo) : Calls Tryz.prog 12 #[.agg (ltVal l s)] w (Gives (I 0) w) := by
  have hv := hl.v
  have hlen := hl.lens
  cases hn : noSerB l with
  | true =>
    have h := valid_nos l s w hl.ok hm.ints hl.head (fun _ _ => hn)
    have e : vCode l 0 = 0 := by unfold vCode; rw [hl.head, hv.body, hn, if_neg (by decide), if_neg (by decide), if_neg (by omega), if_pos rfl]
    rw [e] at h
    exact h
  | false =>
    obtain ⟨hu, hz⟩ := noSerB_no hn
    rcases hv.ser with h | ⟨_, hnz, hs⟩
    · rw [hn] at h; cases h
    · refine valid_ser l s w 0 hl.ok hm.ints hl.head hv.body (by omega) hu hz (fun w' cb cc xs hb hc => ?_)
      have m' := hm.grow hb hlo
      exact seriesValid_yes l.series s.A s.B s.c s.d l.series.rule.length l.series.moves.length cb cc ns xs w' (m'.rules hlen.2.2.2) (by rw [m'.names, List.length_map]) hs.rulesOK m'.mvs rfl hs.good hc
end Go.Proofs.YtdakcbddlempfaaGreat

/- kalendslaw20.LetterParts: for every input it returns true. (Printed by gen_parts.py.) -/
namespace Go.Proofs.YtdakcbddlempfaaGreat
open Go Go.RowKit

/-- The move's box, the letter and its copy, as they lie. -/
structure PtS (w2 : World) (b0 : Nat) (bc : Array Value) (lb mb : Nat) (lc cs : Array Value) (W : World) : Prop where
  bx : Row W b0 bc
  rl : Row W lb lc
  var : W.heap[mb]? = some (.cells cs 37 (0, 0))
  up : Below w2.heap.size w2 W
  n1 : b0 < mb
  n2 : lb < mb
  n3 : w2.heap.size ≤ mb
section
variable {w2 W W' : World} {b0 lb mb : Nat} {bc lc cs : Array Value}
theorem PtS.lt (h : PtS w2 b0 bc lb mb lc cs W) : mb < W.heap.size := (Array.getElem?_eq_some_iff.1 h.var).1
theorem PtS.cell (h : PtS w2 b0 bc lb mb lc cs W) : ∀ i, W.cell? ⟨mb, i, none⟩ = cs[i]? := fun i => cell_of_row W _ i _ _ _ h.var
theorem PtS.froz (h : PtS w2 b0 bc lb mb lc cs W) : ∀ i, W.frozen? ⟨mb, i, none⟩ = false := fun i => frozen_of_row W _ i _ _ h.var
theorem PtS.row (h : PtS w2 b0 bc lb mb lc cs W) : Row W mb cs := ⟨h.lt, h.cell⟩
theorem PtS.below (h : PtS w2 b0 bc lb mb lc cs W) (hb : Below W.heap.size W W') : PtS w2 b0 bc lb mb lc cs W' := ⟨h.bx.keep hb, h.rl.keep hb, (hb.block _ h.lt).trans h.var, below_trans h.up hb, h.n1, h.n2, h.n3⟩
theorem PtS.store (h : PtS w2 b0 bc lb mb lc cs W) (o : Nat) (v : Value) : PtS w2 b0 bc lb mb lc (cs.setIfInBounds o v) (W.setCell ⟨mb, o, none⟩ v) :=
  ⟨h.bx.far (by have := h.n1; omega) o v, h.rl.far (by have := h.n2; omega) o v, heap_setCell_same W _ o _ _ _ h.var, h.up.setCell (p := ⟨mb, o, none⟩) h.n3 _, h.n1, h.n2, h.n3⟩
theorem PtS.there (h : PtS w2 b0 bc lb mb lc cs W) (o n : Nat) (hn : o + n ≤ cs.size) : W.there mb o n := by
  intro j hj
  refine ⟨?_, h.froz _⟩
  rw [h.cell, Array.getElem?_eq_getElem (by omega)]; rfl
end
theorem PtS.storeAll {w2 : World} {b0 lb mb : Nat} {bc lc : Array Value} : ∀ (vs : List Value) (o : Nat) (cs : Array Value) (W : World), PtS w2 b0 bc lb mb lc cs W → PtS w2 b0 bc lb mb lc (putAll cs o vs) (W.setCells mb o vs)
  | [], _, _, _, h => h
  | v :: r, o, _, _, h => PtS.storeAll r (o + 1) _ _ (h.store o v)
theorem oth_no {l : Lt} (k : Nat) (hk : k < 5) (h : (usesB l.kind (fieldAt k) || zeroAt (mvZ l.move) (nzOf l) (decide (l.wfrom = 0) && decide (l.wto = 0)) ((l.cells.length : Int) == 0) (l.ref == zero32) k) = false) : bodyOK l = false := by
  unfold bodyOK oth
  rw [vOthers_zero (zerosOK_no hk h), Bool.and_false]
theorem digestByte : Extern.Stop.cell (1 : UInt8) = .int .u8 1 := rfl
theorem put_ref5 (l : Lt) (s : Sl) : (ltVal l s).setIfInBounds 35 (.int .u8 1) = ltVal { l with ref := l.ref.set 5 1 } s := by
  unfold ltVal ltCells refCells
  rw [List.setIfInBounds_toArray, List.set_append_right _ _ (by simp), List.map_set, digestByte]
  simp
theorem ref5_nz {r : List UInt8} (h : r.length = 32) : (r.set 5 1 == zero32) = false := by
  rw [Bool.eq_false_iff]
  intro e
  have e := eq_of_beq e
  have h5 : (r.set 5 1)[5]? = some 1 := by rw [List.getElem?_set_self (by omega)]
  rw [e] at h5
  revert h5
  decide
attribute [local go_sem] ltVal_get lt_get0
set_option maxRecDepth 10000 in
set_option maxHeartbeats 4000000 in
theorem letterParts_any (w : World) (A : Option Addr) (n c : Nat) (xs : List Int) (mv : Mv) (x : Int) (hx0 : 0 ≤ x) (hx1 : x ≤ 255) (hn : xs.length = n) (hA : IntsAt w w.heap.size A xs) (hfit : ∀ j, j < xs.length → fits (xs[j]?.getD 0)) (hc : n ≤ c) (hbig : c ≤ 9223372036854775807) :
    Calls Tryz.prog 4 #[.slice A n c, .agg #[I mv.day, .bool mv.drop, I mv.toDay, I mv.minute, I mv.length], .int .u8 x] w (Gives (.bool true) w) := by
  have HM : Hid (∀ w', Below w.heap.size w w' → Calls Tryz.prog 7 #[.slice A n c] w' (MadeQ w')) := Lib.hid fun w' hb => refMade_any w' A n c xs hn ((hA.keep hb).more hb.size) hfit hc hbig
  have HB0 := Lib.hid (below_var w (.cells (mvCells mv) 26))
  have HX0 := Lib.hid (Row.new w (mvCells mv) 26)
  have hxs : (0 : Nat) ≤ w.heap.size := Nat.zero_le _
  clear hA hfit hn hc hbig
  go_enter Tryz.func4, Tryz.ntmps4
  go_wp2_with fail
  refine (sanity_any _).mono ?_
  rintro e w1 ⟨rfl, hb1⟩
  have HB1 := Lib.hid (below_trans HB0.out hb1)
  have HX1 := Lib.hid (HX0.out.keep hb1)
  clear hb1 HB0 HX0
  go_wp2_with fail
  refine (HM.out _ HB1.out).mono ?_
  rintro e w2 ⟨l, s, ns, rfl, hml, hmem, hb2⟩
  have HL := Lib.hid hml
  have HR := Lib.hid hml.ref
  have HB2 := Lib.hid (below_trans HB1.out hb2)
  have HX2 := Lib.hid (HX1.out.keep hb2)
  have HMEM := Lib.hid hmem
  obtain ⟨lo, hlo⟩ : ∃ lo, w1.heap.size + 2 = lo := ⟨_, rfl⟩
  rw [hlo] at HMEM
  have hlo0 : 0 < lo := by omega
  clear hml hmem hb2 HM hlo HB1 HX1
  have HRL0 := Lib.hid (Row.new w2 (ltVal l s) 37)
  have HPS0 : Hid (PtS w2 w.heap.size (mvCells mv) w2.heap.size (w2.heap.size + 1) (ltVal l s) (ltVal l s) ((w2.alloc (.cells (ltVal l s) 37)).alloc (.cells (ltVal l s) 37))) := Lib.hid (by
    have g1 := below_var w2 (.cells (ltVal l s) 37)
    have g2 := below_var (w2.alloc (.cells (ltVal l s) 37)) (.cells (ltVal l s) 37)
    have g3 := HX2.out.1
    exact ⟨(HX2.out.keep g1).keep g2, (Row.new w2 (ltVal l s) _).keep g2, heap_alloc2_new w2 (.cells (ltVal l s) 37) (.cells (ltVal l s) 37), below_trans g1 g2, by omega, by omega, by omega⟩)
  have HPC0 := Lib.hid (HPS0.out.cell)
  obtain ⟨W4, hW4⟩ : ∃ W, (w2.alloc (.cells (ltVal l s) 37)).alloc (.cells (ltVal l s) 37) = W := ⟨_, rfl⟩
  have HW4 := Lib.hid hW4
  rw [hW4] at HPS0 HPC0
  clear hW4
  obtain ⟨kn, hkn⟩ : ∃ kn : Nat, l.kind = (kn : Int) := ⟨l.kind.toNat, by have := HL.out.kinds; omega⟩
  have hk1 : 1 ≤ kn ∧ kn ≤ 18 := by have := HL.out.kinds; omega
  have HKN := Lib.hid hkn
  have fl0 : W4.cell? ⟨w2.heap.size, 0, none⟩ = some (I kn) := by rw [← hkn]; exact HPS0.out.rl.2 0
  clear hkn HPC0
  have hx4 : x % 4 = 0 ∨ x % 4 = 1 ∨ x % 4 = 2 ∨ x % 4 = 3 := by omega
  rcases hx4 with e4 | e4 | e4 | e4
  · have c0 : (x % 4 == 0) = true := by rw [e4]; rfl
    clear e4
    have HZ := Lib.hid (ltVal_size l s HR.out)
    have HT : Hid (W4.there (w2.heap.size + 1) 12 (mvCells mv).size) := Lib.hid (HPS0.out.there 12 5 (by rw [HZ.out]; omega))
    have HPS5 : Hid (PtS w2 w.heap.size (mvCells mv) w2.heap.size (w2.heap.size + 1) (ltVal l s) (ltVal { l with move := mv } s) (W4.setCells (w2.heap.size + 1) 12 (mvCells mv).toList)) := Lib.hid (by have := PtS.storeAll (mvCells mv).toList 12 _ _ HPS0.out; rw [put_move] at this; exact this)
    obtain ⟨W5, hW5⟩ : ∃ W, W4.setCells (w2.heap.size + 1) 12 (mvCells mv).toList = W := ⟨_, rfl⟩
    have HW5 := Lib.hid hW5
    rw [hW5] at HPS5
    clear hW5
    have fl5 : W5.cell? ⟨w2.heap.size, 0, none⟩ = some (I kn) := by rw [← HKN.out]; exact HPS5.out.rl.2 0
    have fm0 : W5.cell? ⟨w2.heap.size + 1, 12, none⟩ = some (I mv.day) := HPS5.out.cell 12
    have fm1 : W5.cell? ⟨w2.heap.size + 1, 13, none⟩ = some (.bool mv.drop) := HPS5.out.cell 13
    have fm2 : W5.cell? ⟨w2.heap.size + 1, 14, none⟩ = some (I mv.toDay) := HPS5.out.cell 14
    have fm3 : W5.cell? ⟨w2.heap.size + 1, 15, none⟩ = some (I mv.minute) := HPS5.out.cell 15
    have fm4 : W5.cell? ⟨w2.heap.size + 1, 16, none⟩ = some (I mv.length) := HPS5.out.cell 16
    have heqm := fun W => eql_move mv.day mv.toDay mv.minute mv.length 0 0 0 0 mv.drop false W
    obtain ⟨mz, hmz⟩ : ∃ z, mvZ mv = z := ⟨_, rfl⟩
    rw [show (decide (mv.day = 0) && (mv.drop == false) && decide (mv.toDay = 0) && decide (mv.minute = 0) && decide (mv.length = 0)) = mz from hmz] at heqm
    have HMZ := Lib.hid hmz
    have HCI : Hid (∀ W', Below W5.heap.size W5 W' → IntsAt W' W'.heap.size s.C ({ l with move := mv } : Lt).cells) := Lib.hid fun W' h => (HMEM.out.grow (below_trans HPS5.out.up h) hlo0).ints
    clear hmz fl0
    cases mz with
    | true =>
      go_wp2_with (first
        | (with_reducible refine g_load 37 ?_; refine wpList_load_Row rfl _ _ rfl w2.heap.size rfl (ltVal l s) HRL0.out _ Tryz.underlying37 rfl (size62 _ _ HR.out) ?_)
        | (with_reducible refine g_load 26 ?_; refine wpList_load_Row rfl _ _ rfl w.heap.size rfl (mvCells mv) HPS0.out.bx _ Tryz.underlying26 rfl (mv_size mv) ?_)
        | (with_reducible refine g_store 26 ?_; refine wpList_store_mid rfl _ _ _ rfl (w2.heap.size + 1) 12 (mvCells mv) rfl rfl HT.out (mv_size _) (mv_one _) ?_; rw [HW5.out])
        | (refine wpList_var_row rfl rfl _ _ _ rfl rfl rfl rfl _ (ltVal l s) (lt_info' l s HR.out) (sz_eq l s HR.out) rfl rfl (ltVal_one _ _) ?_; try rw [HW4.out]))
      go_ret
      exact ⟨rfl, below_trans HB2.out HPS5.out.up⟩
    | false =>
      have HRM : Hid (({ l with move := mv }).ref.length = 32) := Lib.hid (HR.out)
      have HOK : Hid (LtOK ({ l with move := mv })) := Lib.hid (by have h := HL.out.ok; exact ⟨h.rule, h.moves, h.zone, HRM.out, h.cells⟩)
      have HHD : Hid (headOK ({ l with move := mv }) = true) := Lib.hid HL.out.head
      have HBAD : Hid (usesB l.kind ((fieldAt 0).toNat : Nat) = false → bodyOK ({ l with move := mv }) = false) := Lib.hid fun hu => oth_no 0 (by omega) (by
        change (usesB l.kind ((fieldAt 0).toNat : Nat) || _) = false
        rw [hu, Bool.false_or]
        exact HMZ.out)
      go_wp2_with (first
        | (with_reducible refine g_load 37 ?_; refine wpList_load_Row rfl _ _ rfl w2.heap.size rfl (ltVal l s) HRL0.out _ Tryz.underlying37 rfl (size62 _ _ HR.out) ?_)
        | (with_reducible refine g_load 26 ?_; refine wpList_load_Row rfl _ _ rfl w.heap.size rfl (mvCells mv) HPS0.out.bx _ Tryz.underlying26 rfl (mv_size mv) ?_)
        | (with_reducible refine g_store 26 ?_; refine wpList_store_mid rfl _ _ _ rfl (w2.heap.size + 1) 12 (mvCells mv) rfl rfl HT.out (mv_size _) (mv_one _) ?_; rw [HW5.out])
        | (refine wpList_var_row rfl rfl _ _ _ rfl rfl rfl rfl _ (ltVal l s) (lt_info' l s HR.out) (sz_eq l s HR.out) rfl rfl (ltVal_one _ _) ?_; try rw [HW4.out]))
      clear fm0 fm1 fm2 fm3 fm4 heqm
      refine (refUses_any kn hk1.1 hk1.2 9 _).mono ?_
      rintro e w6 ⟨rfl, hb6⟩
      obtain ⟨u, hu⟩ : ∃ u, (fieldsL kn).contains (9 : Int) = u := ⟨_, rfl⟩
      have HU : Hid (usesB l.kind (9 : Nat) = u) := Lib.hid (by rw [HKN.out, ← fields_uses kn (by omega) 9 (by omega)]; exact hu)
      rw [hu]
      have HS6 := Lib.hid (HPS5.out.below hb6)
      have HCI6 := Lib.hid (fun W' h => HCI.out W' (below_trans hb6 h))
      clear hb6 hu HPS5 HCI
      cases u with
      | true =>
        go_wp2_with (with_reducible refine g_load 37 ?_; refine wpList_load_Row rfl _ _ rfl w2.heap.size rfl (ltVal l s) HS6.out.rl _ Tryz.underlying37 rfl (size62 _ _ HR.out) ?_)
        refine (valid_made l s ns lo _ HL.out (HMEM.out.grow HS6.out.up hlo0) hlo0).mono ?_
        rintro e w7 ⟨rfl, hb7⟩
        have HS7 := Lib.hid (HS6.out.below hb7)
        clear hb7 HS6
        go_wp2_with fail
        go_ret
        exact ⟨rfl, below_trans HB2.out HS7.out.up⟩
      | false =>
        go_wp2_with (with_reducible refine g_load 37 ?_; refine wpList_load_Row rfl _ _ rfl (w2.heap.size + 1) rfl (ltVal { l with move := mv } s) HS6.out.row _ Tryz.underlying37 rfl (size62 _ _ HRM.out) ?_)
        refine (valid_bad _ _ _ HOK.out (HCI6.out _ (Below.refl _ _)) HHD.out (HBAD.out HU.out)).mono ?_
        rintro e w7 ⟨rfl, hb7⟩
        have HS7 := Lib.hid (HS6.out.below hb7)
        clear hb7 HS6
        go_wp2_with (with_reducible refine g_load 37 ?_; refine wpList_load_Row rfl _ _ rfl w2.heap.size rfl (ltVal l s) HS7.out.rl _ Tryz.underlying37 rfl (size62 _ _ HR.out) ?_)
        refine (valid_made l s ns lo _ HL.out (HMEM.out.grow HS7.out.up hlo0) hlo0).mono ?_
        rintro e w8 ⟨rfl, hb8⟩
        have HS8 := Lib.hid (HS7.out.below hb8)
        clear hb8 HS7
        go_wp2_with fail
        go_ret
        exact ⟨rfl, below_trans HB2.out HS8.out.up⟩
  · have c0 : (x % 4 == 0) = false := by rw [e4]; rfl
    have c1 : (x % 4 == 1) = true := by rw [e4]; rfl
    clear e4
    have kc : W4.cell? ⟨w2.heap.size + 1, 28, none⟩ = some (I l.wto) := HPS0.out.cell 28
    have kf : W4.frozen? ⟨w2.heap.size + 1, 28, none⟩ = false := HPS0.out.froz 28
    have HPS5 : Hid (PtS w2 w.heap.size (mvCells mv) w2.heap.size (w2.heap.size + 1) (ltVal l s) (ltVal { l with wto := 60 } s) (W4.setCell ⟨w2.heap.size + 1, 28, none⟩ (I 60))) := Lib.hid (by have := HPS0.out.store 28 (I 60); rw [put_wto] at this; exact this)
    have HCI : Hid (∀ W', Below (W4.setCell ⟨w2.heap.size + 1, 28, none⟩ (I 60)).heap.size (W4.setCell ⟨w2.heap.size + 1, 28, none⟩ (I 60)) W' → IntsAt W' W'.heap.size s.C ({ l with wto := 60 } : Lt).cells) := Lib.hid fun W' h => (HMEM.out.grow (below_trans HPS5.out.up h) hlo0).ints
    have HRM : Hid (({ l with wto := 60 }).ref.length = 32) := Lib.hid (HR.out)
    have HOK : Hid (LtOK ({ l with wto := 60 })) := Lib.hid (by have h := HL.out.ok; exact ⟨h.rule, h.moves, h.zone, HRM.out, h.cells⟩)
    have HHD : Hid (headOK ({ l with wto := 60 }) = true) := Lib.hid HL.out.head
    have HBAD : Hid (usesB l.kind ((fieldAt 2).toNat : Nat) = false → bodyOK ({ l with wto := 60 }) = false) := Lib.hid fun hu => oth_no 2 (by omega) (by
      change (usesB l.kind ((fieldAt 2).toNat : Nat) || _) = false
      rw [hu, Bool.false_or]
      show (decide (l.wfrom = 0) && decide ((60 : Int) = 0)) = false; rw [decide_eq_false (show ¬ (60 : Int) = 0 by decide), Bool.and_false])
    go_wp2_with (first
      | (with_reducible refine g_load 37 ?_; refine wpList_load_Row rfl _ _ rfl w2.heap.size rfl (ltVal l s) HRL0.out _ Tryz.underlying37 rfl (size62 _ _ HR.out) ?_)
      | (refine wpList_var_row rfl rfl _ _ _ rfl rfl rfl rfl _ (ltVal l s) (lt_info' l s HR.out) (sz_eq l s HR.out) rfl rfl (ltVal_one _ _) ?_; try rw [HW4.out]))
    clear kc kf fl0
    refine (refUses_any kn hk1.1 hk1.2 14 _).mono ?_
    rintro e w6 ⟨rfl, hb6⟩
    obtain ⟨u, hu⟩ : ∃ u, (fieldsL kn).contains (14 : Int) = u := ⟨_, rfl⟩
    have HU : Hid (usesB l.kind (14 : Nat) = u) := Lib.hid (by rw [HKN.out, ← fields_uses kn (by omega) 14 (by omega)]; exact hu)
    rw [hu]
    have HS6 := Lib.hid (HPS5.out.below hb6)
    have HCI6 := Lib.hid (fun W' h => HCI.out W' (below_trans hb6 h))
    clear hb6 hu HPS5 HCI
    cases u with
    | true =>
      go_wp2_with (with_reducible refine g_load 37 ?_; refine wpList_load_Row rfl _ _ rfl w2.heap.size rfl (ltVal l s) HS6.out.rl _ Tryz.underlying37 rfl (size62 _ _ HR.out) ?_)
      refine (valid_made l s ns lo _ HL.out (HMEM.out.grow HS6.out.up hlo0) hlo0).mono ?_
      rintro e w7 ⟨rfl, hb7⟩
      have HS7 := Lib.hid (HS6.out.below hb7)
      clear hb7 HS6
      go_wp2_with fail
      go_ret
      exact ⟨rfl, below_trans HB2.out HS7.out.up⟩
    | false =>
      go_wp2_with (with_reducible refine g_load 37 ?_; refine wpList_load_Row rfl _ _ rfl (w2.heap.size + 1) rfl (ltVal { l with wto := 60 } s) HS6.out.row _ Tryz.underlying37 rfl (size62 _ _ HRM.out) ?_)
      refine (valid_bad _ _ _ HOK.out (HCI6.out _ (Below.refl _ _)) HHD.out (HBAD.out HU.out)).mono ?_
      rintro e w7 ⟨rfl, hb7⟩
      have HS7 := Lib.hid (HS6.out.below hb7)
      clear hb7 HS6
      go_wp2_with (with_reducible refine g_load 37 ?_; refine wpList_load_Row rfl _ _ rfl w2.heap.size rfl (ltVal l s) HS7.out.rl _ Tryz.underlying37 rfl (size62 _ _ HR.out) ?_)
      refine (valid_made l s ns lo _ HL.out (HMEM.out.grow HS7.out.up hlo0) hlo0).mono ?_
      rintro e w8 ⟨rfl, hb8⟩
      have HS8 := Lib.hid (HS7.out.below hb8)
      clear hb8 HS7
      go_wp2_with fail
      go_ret
      exact ⟨rfl, below_trans HB2.out HS8.out.up⟩
  · have c0 : (x % 4 == 0) = false := by rw [e4]; rfl
    have c1 : (x % 4 == 1) = false := by rw [e4]; rfl
    have c2 : (x % 4 == 2) = true := by rw [e4]; rfl
    clear e4
    have HO := Lib.hid (own_none W4)
    obtain ⟨i0, hi, hz0, hz1, hz2⟩ := info_parts info_int
    have HI := Lib.hid hi
    have HZ0 := Lib.hid hz0
    have HZ1 := Lib.hid hz1
    have HZ2 := Lib.hid hz2
    have hlt : W4.heap.size ≤ W4.heap.size + 1 := by omega
    clear hi hz0 hz1 hz2 fl0
    go_wp2_with (first
      | (with_reducible refine g_load 37 ?_; refine wpList_load_Row rfl _ _ rfl w2.heap.size rfl (ltVal l s) HRL0.out _ Tryz.underlying37 rfl (size62 _ _ HR.out) ?_)
      | (refine wpList_var_row rfl rfl _ _ _ rfl rfl rfl rfl _ (ltVal l s) (lt_info' l s HR.out) (sz_eq l s HR.out) rfl rfl (ltVal_one _ _) ?_; try rw [HW4.out])
      | (at_builtin; refine wpList_append_own_at _ rfl _ _ 22 rfl W4.heap.size 3 i0 (.int .i64 0) 1 8 Tryz.underlying22 HI.out HZ0.out HZ1.out HZ2.out rfl (by decide) _ 0 [] rfl (HO.out.alloc _) ⟨W4.heap.size + 1, 0, none⟩ 1 1 [I 0] rfl rfl ?ca ?cb ?cc ?cd ?ce ?_))
    case ca => rw [show W4.heap.size + 1 = (W4.alloc (.cells #[] 3)).heap.size by simp]; exact cell_one_new _ _ _
    case cb => intro u hu; simp at hu; subst hu; rfl
    case cc => unfold maxLen; omega
    case cd => omega
    case ce => simp; omega
    intro v' w5 hown hg _ _
    have HOWN : ∃ A' c', v' = .slice A' 1 c' ∧ LI W4.heap.size w5 A' [0] := LI.of_owns (zs := [0]) hown
    obtain ⟨A', c', rfl, hli⟩ := HOWN
    have HB5 := Lib.hid (below_grown ((below_var W4 (.cells #[] 3)).alloc (by simp) _) (HO.out.alloc _) (by simp; omega) hg)
    have HPS4 := Lib.hid (HPS0.out.below HB5.out)
    have HLI := Lib.hid hli
    have HN := Lib.hid HPS0.out.lt
    clear hown hg hli HPS0 HO
    have kc : w5.cell? ⟨w2.heap.size + 1, 29, none⟩ = some (.slice s.C l.cells.length s.e) := HPS4.out.cell 29
    have kf : w5.frozen? ⟨w2.heap.size + 1, 29, none⟩ = false := HPS4.out.froz 29
    have fl5 : w5.cell? ⟨w2.heap.size, 0, none⟩ = some (I kn) := by rw [← HKN.out]; exact HPS4.out.rl.2 0
    have HPS5 : Hid (PtS w2 w.heap.size (mvCells mv) w2.heap.size (w2.heap.size + 1) (ltVal l s) (ltVal { l with cells := [0] } { s with C := A', e := c' }) (w5.setCell ⟨w2.heap.size + 1, 29, none⟩ (.slice A' 1 c'))) := Lib.hid (by have := HPS4.out.store 29 (.slice A' 1 c'); rw [put_cells l s [0] A' 1 c' rfl] at this; exact this)
    have HCI : Hid (∀ W', Below (w5.setCell ⟨w2.heap.size + 1, 29, none⟩ (.slice A' 1 c')).heap.size (w5.setCell ⟨w2.heap.size + 1, 29, none⟩ (.slice A' 1 c')) W' → IntsAt W' W'.heap.size A' ({ l with cells := [0] } : Lt).cells) := Lib.hid fun W' h => by
      have h1 := HPS4.out.lt
      have h2 := HLI.out.of_blocks (w' := w5.setCell ⟨w2.heap.size + 1, 29, none⟩ (.slice A' 1 c')) (by simp [World.setCell]) (fun k hk _ => heap_setCell_other w5 _ _ _ (by show k ≠ w2.heap.size + 1; have := HN.out; omega))
      exact (h2.of_blocks h.size fun k _ hk => h.block k hk).ints
    have HRM : Hid (({ l with cells := [0] }).ref.length = 32) := Lib.hid (HR.out)
    have HOK : Hid (LtOK ({ l with cells := [0] })) := Lib.hid (by have h := HL.out.ok; exact ⟨h.rule, h.moves, h.zone, HRM.out, by show [(0 : Int)].length ≤ 140737488355328; decide⟩)
    have HHD : Hid (headOK ({ l with cells := [0] }) = true) := Lib.hid HL.out.head
    have HBAD : Hid (usesB l.kind ((fieldAt 3).toNat : Nat) = false → bodyOK ({ l with cells := [0] }) = false) := Lib.hid fun hu => oth_no 3 (by omega) (by
      change (usesB l.kind ((fieldAt 3).toNat : Nat) || _) = false
      rw [hu, Bool.false_or]
      rfl)
    go_wp2_with fail
    clear kc kf fl5
    refine (refUses_any kn hk1.1 hk1.2 15 _).mono ?_
    rintro e w6 ⟨rfl, hb6⟩
    obtain ⟨u, hu⟩ : ∃ u, (fieldsL kn).contains (15 : Int) = u := ⟨_, rfl⟩
    have HU : Hid (usesB l.kind (15 : Nat) = u) := Lib.hid (by rw [HKN.out, ← fields_uses kn (by omega) 15 (by omega)]; exact hu)
    rw [hu]
    have HS6 := Lib.hid (HPS5.out.below hb6)
    have HCI6 := Lib.hid (fun W' h => HCI.out W' (below_trans hb6 h))
    clear hb6 hu HPS5 HCI
    cases u with
    | true =>
      go_wp2_with (with_reducible refine g_load 37 ?_; refine wpList_load_Row rfl _ _ rfl w2.heap.size rfl (ltVal l s) HS6.out.rl _ Tryz.underlying37 rfl (size62 _ _ HR.out) ?_)
      refine (valid_made l s ns lo _ HL.out (HMEM.out.grow HS6.out.up hlo0) hlo0).mono ?_
      rintro e w7 ⟨rfl, hb7⟩
      have HS7 := Lib.hid (HS6.out.below hb7)
      clear hb7 HS6
      go_wp2_with fail
      go_ret
      exact ⟨rfl, below_trans HB2.out HS7.out.up⟩
    | false =>
      go_wp2_with (with_reducible refine g_load 37 ?_; refine wpList_load_Row rfl _ _ rfl (w2.heap.size + 1) rfl (ltVal { l with cells := [0] } { s with C := A', e := c' }) HS6.out.row _ Tryz.underlying37 rfl (size62 _ _ HRM.out) ?_)
      refine (valid_bad _ _ _ HOK.out (HCI6.out _ (Below.refl _ _)) HHD.out (HBAD.out HU.out)).mono ?_
      rintro e w7 ⟨rfl, hb7⟩
      have HS7 := Lib.hid (HS6.out.below hb7)
      clear hb7 HS6
      go_wp2_with (with_reducible refine g_load 37 ?_; refine wpList_load_Row rfl _ _ rfl w2.heap.size rfl (ltVal l s) HS7.out.rl _ Tryz.underlying37 rfl (size62 _ _ HR.out) ?_)
      refine (valid_made l s ns lo _ HL.out (HMEM.out.grow HS7.out.up hlo0) hlo0).mono ?_
      rintro e w8 ⟨rfl, hb8⟩
      have HS8 := Lib.hid (HS7.out.below hb8)
      clear hb8 HS7
      go_wp2_with fail
      go_ret
      exact ⟨rfl, below_trans HB2.out HS8.out.up⟩
  · have c0 : (x % 4 == 0) = false := by rw [e4]; rfl
    have c1 : (x % 4 == 1) = false := by rw [e4]; rfl
    have c2 : (x % 4 == 2) = false := by rw [e4]; rfl
    clear e4
    have kc : W4.cell? ⟨w2.heap.size + 1, 35, none⟩ = some (Extern.Stop.cell (l.ref[5]'(by have := HR.out; omega))) := by
      rw [HPS0.out.cell 35]
      show (ltVal l s)[30 + 5]? = _
      rw [ltVal_get, lt_getRef]
      unfold refCells
      rw [List.getElem?_map, List.getElem?_eq_getElem (by have := HR.out; omega)]
      rfl
    have kf : W4.frozen? ⟨w2.heap.size + 1, 35, none⟩ = false := HPS0.out.froz 35
    have HPS5 : Hid (PtS w2 w.heap.size (mvCells mv) w2.heap.size (w2.heap.size + 1) (ltVal l s) (ltVal { l with ref := l.ref.set 5 1 } s) (W4.setCell ⟨w2.heap.size + 1, 35, none⟩ (.int .u8 1))) := Lib.hid (by have := HPS0.out.store 35 (.int .u8 1); rw [put_ref5] at this; exact this)
    have HCI : Hid (∀ W', Below (W4.setCell ⟨w2.heap.size + 1, 35, none⟩ (.int .u8 1)).heap.size (W4.setCell ⟨w2.heap.size + 1, 35, none⟩ (.int .u8 1)) W' → IntsAt W' W'.heap.size s.C ({ l with ref := l.ref.set 5 1 } : Lt).cells) := Lib.hid fun W' h => (HMEM.out.grow (below_trans HPS5.out.up h) hlo0).ints
    have HRM : Hid (({ l with ref := l.ref.set 5 1 }).ref.length = 32) := Lib.hid (by show (l.ref.set 5 1).length = 32; rw [List.length_set]; exact HR.out)
    have HOK : Hid (LtOK ({ l with ref := l.ref.set 5 1 })) := Lib.hid (by have h := HL.out.ok; exact ⟨h.rule, h.moves, h.zone, HRM.out, h.cells⟩)
    have HHD : Hid (headOK ({ l with ref := l.ref.set 5 1 }) = true) := Lib.hid HL.out.head
    have HBAD : Hid (usesB l.kind ((fieldAt 4).toNat : Nat) = false → bodyOK ({ l with ref := l.ref.set 5 1 }) = false) := Lib.hid fun hu => oth_no 4 (by omega) (by
      change (usesB l.kind ((fieldAt 4).toNat : Nat) || _) = false
      rw [hu, Bool.false_or]
      exact ref5_nz HR.out)
    go_wp2_with (first
      | (with_reducible refine g_load 37 ?_; refine wpList_load_Row rfl _ _ rfl w2.heap.size rfl (ltVal l s) HRL0.out _ Tryz.underlying37 rfl (size62 _ _ HR.out) ?_)
      | (refine wpList_var_row rfl rfl _ _ _ rfl rfl rfl rfl _ (ltVal l s) (lt_info' l s HR.out) (sz_eq l s HR.out) rfl rfl (ltVal_one _ _) ?_; try rw [HW4.out]))
    clear kc kf fl0
    refine (refUses_any kn hk1.1 hk1.2 16 _).mono ?_
    rintro e w6 ⟨rfl, hb6⟩
    obtain ⟨u, hu⟩ : ∃ u, (fieldsL kn).contains (16 : Int) = u := ⟨_, rfl⟩
    have HU : Hid (usesB l.kind (16 : Nat) = u) := Lib.hid (by rw [HKN.out, ← fields_uses kn (by omega) 16 (by omega)]; exact hu)
    rw [hu]
    have HS6 := Lib.hid (HPS5.out.below hb6)
    have HCI6 := Lib.hid (fun W' h => HCI.out W' (below_trans hb6 h))
    clear hb6 hu HPS5 HCI
    cases u with
    | true =>
      go_wp2_with (with_reducible refine g_load 37 ?_; refine wpList_load_Row rfl _ _ rfl w2.heap.size rfl (ltVal l s) HS6.out.rl _ Tryz.underlying37 rfl (size62 _ _ HR.out) ?_)
      refine (valid_made l s ns lo _ HL.out (HMEM.out.grow HS6.out.up hlo0) hlo0).mono ?_
      rintro e w7 ⟨rfl, hb7⟩
      have HS7 := Lib.hid (HS6.out.below hb7)
      clear hb7 HS6
      go_wp2_with fail
      go_ret
      exact ⟨rfl, below_trans HB2.out HS7.out.up⟩
    | false =>
      go_wp2_with (with_reducible refine g_load 37 ?_; refine wpList_load_Row rfl _ _ rfl (w2.heap.size + 1) rfl (ltVal { l with ref := l.ref.set 5 1 } s) HS6.out.row _ Tryz.underlying37 rfl (size62 _ _ HRM.out) ?_)
      refine (valid_bad _ _ _ HOK.out (HCI6.out _ (Below.refl _ _)) HHD.out (HBAD.out HU.out)).mono ?_
      rintro e w7 ⟨rfl, hb7⟩
      have HS7 := Lib.hid (HS6.out.below hb7)
      clear hb7 HS6
      go_wp2_with (with_reducible refine g_load 37 ?_; refine wpList_load_Row rfl _ _ rfl w2.heap.size rfl (ltVal l s) HS7.out.rl _ Tryz.underlying37 rfl (size62 _ _ HR.out) ?_)
      refine (valid_made l s ns lo _ HL.out (HMEM.out.grow HS7.out.up hlo0) hlo0).mono ?_
      rintro e w8 ⟨rfl, hb8⟩
      have HS8 := Lib.hid (HS7.out.below hb8)
      clear hb8 HS7
      go_wp2_with fail
      go_ret
      exact ⟨rfl, below_trans HB2.out HS8.out.up⟩
end Go.Proofs.YtdakcbddlempfaaGreat

/- A struct of five one-cell fields, by value (the kit's block for it, as its page says to copy it). -/
namespace Go.Proofs.YtdakcbddlempfaaGreat
open Go Go.Joins Go.ChangeShapes Go.WideShapes Go.RowKit Go.Deep
section
variable {H : Type} {enc : TypeId × Value → H} {P : Program} {w : World} {base : Nat} {spare : Nat → Bool} {held : Bool}
theorem open_agg5 {r : Reach} {b0 : Nat} {t : TypeId} {f0 f1 f2 f3 f4 : Field} {v : Value} {d : DataW H} {p : List MemPlace} (hs : P.underlying t = some (.struct #[f0, f1, f2, f3, f4])) (hone : oneCellFields P #[f0, f1, f2, f3, f4] = true) (hC : P.cellsOf t = 5)
    (hv : Value.okWide P w r b0 t v) (h : DataW.Trod enc P w base spare held t v d p) :
    ∃ (v0 v1 v2 v3 v4 : Value) (y0 y1 y2 y3 y4 : DataW H × List MemPlace) (n : Nat), v = .agg #[v0, v1, v2, v3, v4] ∧ d = .agg [y0.1, y1.1, y2.1, y3.1, y4.1] ∧ p = y0.2 ++ (y1.2 ++ (y2.2 ++ (y3.2 ++ y4.2))) ∧
      DataW.trod enc P w base spare held n f0.type [v0] = some y0 ∧ DataW.trod enc P w base spare held n f1.type [v1] = some y1 ∧ DataW.trod enc P w base spare held n f2.type [v2] = some y2 ∧ DataW.trod enc P w base spare held n f3.type [v3] = some y3 ∧ DataW.trod enc P w base spare held n f4.type [v4] = some y4 := by
  obtain ⟨cs, rfl, hsz⟩ := okWide_struct hs hv
  obtain ⟨l⟩ := cs
  match l, hsz.trans hC with
  | [c0, c1, c2, c3, c4], _ =>
    obtain ⟨fuel, hf⟩ := h
    obtain ⟨xs, n, _, hx, _, hlen, hg⟩ := DataW.trod_struct hs hf
    obtain ⟨o0, k0⟩ := hone_of hone 0 f0 rfl
    obtain ⟨o1, k1⟩ := hone_of hone 1 f1 rfl
    obtain ⟨o2, k2⟩ := hone_of hone 2 f2 rfl
    obtain ⟨o3, k3⟩ := hone_of hone 3 f3 rfl
    obtain ⟨o4, k4⟩ := hone_of hone 4 f4 rfl
    match xs, hlen with
    | [y0, y1, y2, y3, y4], _ =>
      simp only [Prod.mk.injEq] at hx
      exact ⟨c0, c1, c2, c3, c4, y0, y1, y2, y3, y4, n, rfl, by simpa using hx.1, by simpa using hx.2, by simpa [Value.cells, o0, k0] using hg 0 f0 rfl, by simpa [Value.cells, o1, k1] using hg 1 f1 rfl, by simpa [Value.cells, o2, k2] using hg 2 f2 rfl, by simpa [Value.cells, o3, k3] using hg 3 f3 rfl, by simpa [Value.cells, o4, k4] using hg 4 f4 rfl⟩
end
end Go.Proofs.YtdakcbddlempfaaGreat
