/- The texts MadeD, MadeN, MadeM, MadeW, MadeC, MadeR, in this order. -/
import Derived.Test.YtpgagfmpikhpkaaGreatDoorG11
import Derived.Deep.MidRow
/- kalendsref20.made: what it makes of a letter, and the letter under way. -/
namespace Go.Proofs.YtpgagfmpikhpkaaGreatDoor
open Go Go.RowKit

/-- The letter's lists, in memory that is not older than block lo. -/
structure LtMem (lo : Nat) (w : World) (l : Lt) (s : Sl) (ns : List NdV) : Prop where
  rule : RuleIs lo w (.slice s.A l.series.rule.length s.c) ns
  names : l.series.rule = ns.map (·.d)
  moves : w.ownsRow lo 25 5 (.slice s.B l.series.moves.length s.d) l.series.moves.length (mvsCells l.series.moves)
  cells : w.ownsRow lo 3 1 (.slice s.C l.cells.length s.e) l.cells.length (l.cells.map I)
theorem LtMem.mkeep {lo mb : Nat} {w w' : World} {l : Lt} {s : Sl} {ns : List NdV} (h : LtMem lo w l s ns) (hk : MKeep mb w w') (hm : mb < lo) : LtMem lo w' l s ns :=
  ⟨h.rule.mkeep hk hm, h.names, ownsRow_mkeep h.moves hk hm, ownsRow_mkeep h.cells hk hm⟩
/-- A series that was made. -/
structure SerOK (ns : List NdV) (s : Ser) : Prop where
  names : s.rule = ns.map (·.d)
  made : MRule 3 ns
  len : ns.length ≤ 16
  within : Within 2002 ns
  mok : ∃ dd, dd ≤ 100 ∧ MvsOK s.moves dd
  mlen : s.moves.length ≤ 2
  min : 0 ≤ s.minute ∧ s.minute < 1440
  lng : 1 ≤ s.length ∧ s.length ≤ 200
  zone : ZoneOK s.zone
  gap : 0 ≤ s.gap ∧ s.gap < 3
  fold : 0 ≤ s.fold ∧ s.fold < 3
structure CellsOK (zs : List Int) : Prop where
  ne : 1 ≤ zs.length
  len : zs.length ≤ 5
  rng : ∀ z ∈ zs, 0 ≤ z ∧ z ≤ 15
  up : zs.Pairwise (· < ·)
/-- What one field becomes. -/
def MadeF (l : Lt) (ns : List NdV) (f : Nat) (l' : Lt) (ns' : List NdV) : Prop :=
  (numB f = true ∧ ∃ x, (bnd l.kind f).1 ≤ x ∧ x ≤ (bnd l.kind f).2 ∧ x < (bnd l.kind f).1 + 40 ∧ l' = setNum l f x ∧ ns' = ns) ∨
  (f = 9 ∧ ns' = ns ∧ (((l.kind = 4 ∨ l.scope = 1) ∧ ∃ m, l' = { l with move := m } ∧ MoveOK m.day m ∧ ((l.kind = 4 ∧ 0 ≤ m.day ∧ m.day < 40) ∨ (l.kind ≠ 4 ∧ m.day = l.day))) ∨ (l.kind ≠ 4 ∧ l.scope ≠ 1 ∧ l' = l))) ∨
  (f = 10 ∧ (((l.kind ≠ 6 ∨ l.scope ≠ 1) ∧ ∃ se, l' = { l with series := se } ∧ SerOK ns' se) ∨ (l.kind = 6 ∧ l.scope = 1 ∧ l' = l ∧ ns' = ns))) ∨
  (f = 14 ∧ ns' = ns ∧ ∃ a b, -1000 ≤ a ∧ a ≤ b ∧ b ≤ 9000 ∧ l' = { l with wfrom := a, wto := b }) ∨
  (f = 15 ∧ ns' = ns ∧ ∃ zs, l' = { l with cells := zs } ∧ CellsOK zs) ∨
  (f = 16 ∧ ns' = ns ∧ ∃ r, r.length = 32 ∧ l' = { l with ref := r })
def MadeP (w : World) (lo mb : Nat) (xs : List Int) (at_ nodes : Nat) (l : Lt) (s : Sl) (ns : List NdV) (f : Nat) (e : Ending) (w' : World) : Prop :=
  ∃ l' s' ns' a' n', e = .returned (.agg (ltVal l' s')) ∧ MadeF l ns f l' ns' ∧ LtMem lo w' l' s' ns' ∧ (f ≠ 15 → s'.C = s.C ∧ s'.e = s.e) ∧ MkSt w' mb xs a' n' ∧ a' ≤ at_ + 400 ∧ n' ≤ nodes + 16 ∧ MKeep mb w w'
/-- The letter's variable and the result's, beside the maker. -/
structure TS (w0 : World) (mb : Nat) (xs : List Int) (a nd : Nat) (cs : Array Value) (W : World) : Prop where
  hm : mb < w0.heap.size
  mkr : MkSt W mb xs a nd
  keep : MKeep mb w0 W
  var : W.heap[w0.heap.size]? = some (.cells cs 36 (0, 0))
  res : W.heap[w0.heap.size + 1]? = some (.cells (ltVal zLt zSl) 36 (0, 0))
section
variable {w0 W W' : World} {mb a a' nd nd' : Nat} {xs : List Int} {cs : Array Value}
theorem TS.lt (h : TS w0 mb xs a nd cs W) : w0.heap.size + 1 < W.heap.size := (Array.getElem?_eq_some_iff.1 h.res).1
theorem TS.cell (h : TS w0 mb xs a nd cs W) : ∀ i, W.cell? ⟨w0.heap.size, i, none⟩ = cs[i]? := fun i => cell_of_row W _ i _ _ _ h.var
theorem TS.froz (h : TS w0 mb xs a nd cs W) : ∀ i, W.frozen? ⟨w0.heap.size, i, none⟩ = false := fun i => frozen_of_row W _ i _ _ h.var
theorem TS.row (h : TS w0 mb xs a nd cs W) : Row W w0.heap.size cs := ⟨by have := h.lt; omega, h.cell⟩
theorem TS.step (h : TS w0 mb xs a nd cs W) (hm : MkSt W' mb xs a' nd') (hk : MKeep mb W W') : TS w0 mb xs a' nd' cs W' :=
  have h1 := h.hm
  have h4 := h.lt
  ⟨h.hm, hm, h.keep.trans hk, (hk.block _ (by omega) (by omega)).trans h.var, (hk.block _ (by omega) (by omega)).trans h.res⟩
theorem TS.below (h : TS w0 mb xs a nd cs W) (hb : Below W.heap.size W W') : TS w0 mb xs a nd cs W' := h.step (h.mkr.grow hb) (MKeep.of_below hb)
theorem TS.drew (h : TS w0 mb xs a nd cs W) : TS w0 mb xs a nd cs W.drew := ⟨h.hm, h.mkr, h.keep.draw, h.var, h.res⟩
theorem TS.pick (h : TS w0 mb xs a nd cs W) (hx : XsOK xs) (n : Int) (ha : a ≤ 1000000000) (hn : 0 < n) (hn2 : n ≤ 1000000000000000000) :
    Calls Tryz.prog 18 #[pt mb, I n] W fun e W' => ∃ r, e = .returned (I r) ∧ 0 ≤ r ∧ r < n ∧ MKeep mb W W' ∧ TS w0 mb xs (a + 1) nd cs W' :=
  (pick_any W mb xs a nd n h.mkr hx ha hn hn2).mono fun _ _ ⟨r, h1, h2, h3, h4, h5⟩ => ⟨r, h1, h2, h3, h5, h.step h4 h5⟩
theorem TS.store (h : TS w0 mb xs a nd cs W) (o : Nat) (v : Value) : TS w0 mb xs a nd (cs.setIfInBounds o v) (W.setCell ⟨w0.heap.size, o, none⟩ v) := by
  have h1 := h.hm
  have hb : Below w0.heap.size W (W.setCell ⟨w0.heap.size, o, none⟩ v) := (Below.refl _ W).setCell (p := ⟨w0.heap.size, o, none⟩) (Nat.le_refl _) _
  refine ⟨h.hm, h.mkr.far _ _ h1, ?_, heap_setCell_same W _ o _ _ _ h.var, (heap_setCell_other W _ _ v (by show w0.heap.size + 1 ≠ w0.heap.size; omega)).trans h.res⟩
  exact ⟨hb.os.trans h.keep.os, hb.tape.trans h.keep.tape, hb.output.trans h.keep.output, Nat.le_trans h.keep.size hb.size, fun k hk hn => (hb.block k (by omega)).trans (h.keep.block k hk hn)⟩
theorem TS.start {w : World} (hm : MkSt w mb xs a nd) : TS w mb xs a nd cs ((w.alloc (.cells cs 36)).alloc (.cells (ltVal zLt zSl) 36)) := by
  have hl := hm.lt
  have hb := below_trans (below_var w (.cells cs 36)) (below_var _ (.cells (ltVal zLt zSl) 36))
  exact ⟨hl, hm.grow hb, MKeep.of_below hb, heap_alloc2_old w _ _, heap_alloc2_new w _ _⟩
/-- Behind the store of the result. -/
theorem TS.fin (h : TS w0 mb xs a nd cs W) (ds : Array Value) : MkSt (W.setRow (w0.heap.size + 1) ds) mb xs a nd ∧ MKeep mb w0 (W.setRow (w0.heap.size + 1) ds) := by
  have h1 := h.hm
  have hb : Below w0.heap.size W (W.setRow (w0.heap.size + 1) ds) := below_setRow (Below.refl _ W) (Nat.le_succ _) _
  refine ⟨?_, ?_⟩
  · obtain ⟨A', c', g1, g2⟩ := h.mkr
    exact ⟨A', c', (setRow_other W _ mb _ (by omega)).trans g1, g2.keep (hb.mono (by omega))⟩
  · exact ⟨hb.os.trans h.keep.os, hb.tape.trans h.keep.tape, hb.output.trans h.keep.output, Nat.le_trans h.keep.size hb.size, fun k hk hn => (hb.block k (by omega)).trans (h.keep.block k hk hn)⟩
end
/-- A letter whose lists are those that came in. -/
theorem TS.done {w0 W : World} {lo mb a nd at_ nodes : Nat} {xs : List Int} {cs : Array Value} {l l' : Lt} {s s' : Sl} {ns ns' : List NdV} {f : Nat} (h : TS w0 mb xs a nd cs W) (hf : MadeF l ns f l' ns') (hmem : LtMem lo (W.setRow (w0.heap.size + 1) (ltVal l' s')) l' s' ns') (hC : f ≠ 15 → s'.C = s.C ∧ s'.e = s.e) (ha : a ≤ at_ + 400) (hn : nd ≤ nodes + 16) :
    MadeP w0 lo mb xs at_ nodes l s ns f (.returned (.agg (ltVal l' s'))) (W.setRow (w0.heap.size + 1) (ltVal l' s')) :=
  ⟨l', s', ns', a, nd, rfl, hf, hmem, hC, (h.fin _).1, ha, hn, (h.fin _).2⟩
theorem TS.done_same {w0 W : World} {lo mb a nd at_ nodes : Nat} {xs : List Int} {cs : Array Value} {l l' : Lt} {s : Sl} {ns : List NdV} {f : Nat} (h : TS w0 mb xs a nd cs W) (hf : MadeF l ns f l' ns) (hmem : LtMem lo w0 l s ns) (hlo : mb < lo) (hs : l'.series = l.series) (hc : l'.cells = l.cells) (ha : a ≤ at_ + 400) (hn : nd ≤ nodes + 16) :
    MadeP w0 lo mb xs at_ nodes l s ns f (.returned (.agg (ltVal l' s))) (W.setRow (w0.heap.size + 1) (ltVal l' s)) :=
  h.done hf (by
    have := hmem.mkeep (h.fin (ltVal l' s)).2 hlo
    exact ⟨by rw [hs]; exact this.rule, by rw [hs]; exact this.names, by rw [hs]; exact this.moves, by rw [hc]; exact this.cells⟩) (fun _ => ⟨rfl, rfl⟩) ha hn
end Go.Proofs.YtpgagfmpikhpkaaGreatDoor

/- kalendsref20.made for a field that is a number. -/
namespace Go.Proofs.YtpgagfmpikhpkaaGreatDoor
open Go Go.RowKit

theorem yieldsIf_min {P : Program} {ops : Array Oper} {S : World → Prop} {op : Oper} {a : Act} (hw : Region.wanted op (yielded ops a.tmps) = true) (x : Operand) (c : Int) (ho : op.op = .call { callee := .builtin .min, args := #[x, .const (I c)], argTypes := #[3, 3] })
    (n : Int) (hx : a.eval x = I n) : YieldsIf P ops S op (I (if c < n then c else n)) a :=
  .inl ⟨hw, fun w _ => by
    have hc : a.eval (.const (I c)) = I c := rfl
    unfold execOp
    simp [ho, resolve, invoke, builtin, Builtin.min_, Builtin.min2, hx, hc]⟩
theorem Row.of_block {w w' : World} {b : Nat} {cs : Array Value} (h : Row w b cs) (hb : w'.heap[b]? = w.heap[b]?) : Row w' b cs :=
  ⟨by have h1 := Array.getElem?_eq_getElem h.1; rw [← hb] at h1; exact (Array.getElem?_eq_some_iff.1 h1).1, fun i => (World.cell?_of_block (a := ⟨b, i, none⟩) hb).trans (h.2 i)⟩
attribute [local go_sem] ltVal_get lt_get0
set_option maxRecDepth 10000 in
set_option maxHeartbeats 4000000 in
theorem made_num (w : World) (lo mb : Nat) (xs : List Int) (at_ nodes : Nat) (l : Lt) (s : Sl) (ns : List NdV) (f : Nat) (h : MkSt w mb xs at_ nodes) (hx : XsOK xs) (hat : at_ ≤ 100000) (hmem : LtMem lo w l s ns) (hlo : mb < lo) (hr : l.ref.length = 32) (hf : f < 17) (hnum : numB f = true) :
    Calls Tryz.prog 19 #[pt mb, .agg (ltVal l s), I f] w (MadeP w lo mb xs at_ nodes l s ns f) := by
  have G0 : Hid (TS w mb xs at_ nodes (ltVal l s) ((w.alloc (.cells (ltVal l s) 36)).alloc (.cells (ltVal zLt zSl) 36))) := Lib.hid (TS.start h)
  have hml := h.lt
  have HM := Lib.hid hmem
  have HN := Lib.hid hnum
  have HR := Lib.hid hr
  clear h hmem hr hnum
  go_enter Tryz.func19, Tryz.ntmps19
  go_wp2_with (with_reducible refine g_alloc 36 ?_; refine wpList_alloc_as rfl _ rfl (ltVal zLt zSl) lt_zero ?_)
  refine (numeric_any f _).mono ?_
  rintro e w1 ⟨rfl, rfl⟩
  rw [HN.out]
  go_wp2_with fail
  refine (bounds_any l.kind f hf _).mono ?_
  rintro e w1 ⟨rfl, rfl⟩
  have hbo := bnd_ok l.kind f
  obtain ⟨low, hlow⟩ : ∃ x, (bnd l.kind f).1 = x := ⟨_, rfl⟩
  obtain ⟨hi, hhi⟩ : ∃ x, (bnd l.kind f).2 = x := ⟨_, rfl⟩
  rw [hlow, hhi] at hbo ⊢
  obtain ⟨hb1, hb2, hb3⟩ := hbo
  have HLO := Lib.hid hlow
  have HHI := Lib.hid hhi
  clear hlow hhi
  go_wp2_with fail
  have hw1 : IntKind.i64.wrap (hi - low) = hi - low := by rw [IntKind.wrap_i64]; omega
  have hw2 : IntKind.i64.wrap (hi - low + 1) = hi - low + 1 := by rw [IntKind.wrap_i64]; omega
  refine wp_region_held_drew (S := fun w' => Row w' w.heap.size (ltVal l s)) (by kernel_rfl) G0.out.drew.row (fun hH0 => ?_)
  refine wpAnyH_take_dst (i := 0) (v := _) (d := 23) rfl rfl (by kernel_rfl) (by kernel_rfl) (by kernel_rfl) (fun _ _ _ h => h) (yieldsIf_load_Row (by rfl) _ _ rfl w.heap.size rfl (ltVal l s) _ (fun w' h => h) Tryz.underlying36 rfl (size62 _ _ HR.out)) (by assumption) ?r0
  try simp only [Act.put, List.setIfInBounds_toArray, List.set_cons_zero, List.set_cons_succ]
  refine wpAnyH_take_dst (i := 1) (v := ?v1) (d := 24) rfl rfl (by kernel_rfl) (by kernel_rfl) (by kernel_rfl) (fun _ _ _ h => h) (Or.inl ⟨by rfl, ?hy1⟩) (by assumption) ?r1
  case hy1 => intro w' hSw; first | (go_simp; done) | (go_simp; with_reducible rfl)
  try simp only [Act.put, List.setIfInBounds_toArray, List.set_cons_zero, List.set_cons_succ]
  refine wpAnyH_take_dst (i := 2) (v := ?v2) (d := 25) rfl rfl (by kernel_rfl) (by kernel_rfl) (by kernel_rfl) (fun _ _ _ h => h) (Or.inl ⟨by rfl, ?hy2⟩) (by assumption) ?r2
  case hy2 => intro w' hSw; first | (go_simp; done) | (go_simp; with_reducible rfl)
  try simp only [Act.put, List.setIfInBounds_toArray, List.set_cons_zero, List.set_cons_succ]
  refine wpAnyH_take_dst (i := 3) (v := ?v3) (d := 26) rfl rfl (by kernel_rfl) (by kernel_rfl) (by kernel_rfl) (fun _ _ _ h => h) (Or.inl ⟨by rfl, ?hy3⟩) (by assumption) ?r3
  case hy3 => intro w' hSw; first | (go_simp; done) | (go_simp; with_reducible rfl)
  try simp only [Act.put, List.setIfInBounds_toArray, List.set_cons_zero, List.set_cons_succ]
  refine wpAnyH_take_dst (i := 4) (v := ?v4) (d := 27) rfl rfl (by kernel_rfl) (by kernel_rfl) (by kernel_rfl) (fun _ _ _ h => h) (Or.inl ⟨by rfl, ?hy4⟩) (by assumption) ?r4
  case hy4 => intro w' hSw; first | (go_simp; done) | (go_simp; with_reducible rfl)
  try simp only [Act.put, List.setIfInBounds_toArray, List.set_cons_zero, List.set_cons_succ]
  refine wpAnyH_take_dst (i := 5) (v := ?v5) (d := 28) rfl rfl (by kernel_rfl) (by kernel_rfl) (by kernel_rfl) (fun _ _ _ h => h) (Or.inl ⟨by rfl, ?hy5⟩) (by assumption) ?r5
  case hy5 => intro w' hSw; first | (go_simp; done) | (go_simp; with_reducible rfl)
  try simp only [Act.put, List.setIfInBounds_toArray, List.set_cons_zero, List.set_cons_succ]
  refine wpAnyH_take_dst (i := 6) (v := ?v6) (d := 29) rfl rfl (by kernel_rfl) (by kernel_rfl) (by kernel_rfl) (fun _ _ _ h => h) (Or.inl ⟨by rfl, ?hy6⟩) (by assumption) ?r6
  case hy6 => intro w' hSw; first | (go_simp; done) | (go_simp; with_reducible rfl)
  try simp only [Act.put, List.setIfInBounds_toArray, List.set_cons_zero, List.set_cons_succ]
  refine wpAnyH_take_dst (i := 7) (v := ?v7) (d := 30) rfl rfl (by kernel_rfl) (by kernel_rfl) (by kernel_rfl) (fun _ _ _ h => h) (Or.inl ⟨by rfl, ?hy7⟩) (by assumption) ?r7
  case hy7 => intro w' hSw; first | (go_simp; done) | (go_simp; with_reducible rfl)
  try simp only [Act.put, List.setIfInBounds_toArray, List.set_cons_zero, List.set_cons_succ]
  refine wpAnyH_take_dst (i := 8) (v := _) (d := 31) rfl rfl (by kernel_rfl) (by kernel_rfl) (by kernel_rfl) (fun _ _ _ h => h) (yieldsIf_min (by rfl) _ 40 rfl (hi - low + 1) rfl) (by assumption) ?r8
  try simp only [Act.put, List.setIfInBounds_toArray, List.set_cons_zero, List.set_cons_succ]
  refine wpAnyH_ready (rs := [9]) (by kernel_rfl) (by simp) ?_
  refine AllReadyH.cons rfl (fun K hK => ?_) AllReadyH.nil
  go_simp
  refine (G0.out.drew.pick hx _ (by omega) (by split <;> omega) (by split <;> omega)).mono ?_
  rintro e w2 ⟨r, rfl, hr1, hr2, -, g2⟩
  have G2 := Lib.hid g2
  clear g2
  have hS2 := G2.out.row
  have hr3 : low + r ≤ hi := by split at hr2 <;> omega
  have hr4 : r < 40 := by split at hr2 <;> omega
  have hw3 : IntKind.i64.wrap (low + r) = low + r := by rw [IntKind.wrap_i64]; omega
  refine hK.out _ _ G2.out.row (fun hHeld => ?_)
  clear hHeld
  clear hK K
  try simp only [Act.put, List.setIfInBounds_toArray, List.set_cons_zero, List.set_cons_succ]
  refine wpAnyH_take_dst (i := 10) (v := ?v10) (d := 33) rfl rfl (by kernel_rfl) (by kernel_rfl) (by kernel_rfl) (fun _ _ _ h => h) (Or.inl ⟨by rfl, ?hy10⟩) (by assumption) ?r10
  case hy10 => intro w' hSw; first | (go_simp; done) | (go_simp; with_reducible rfl)
  try simp only [Act.put, List.setIfInBounds_toArray, List.set_cons_zero, List.set_cons_succ]
  refine wpAnyH_ready (rs := [11]) (by kernel_rfl) (by simp) ?_
  refine AllReadyH.cons rfl (fun K hK => ?_) AllReadyH.nil
  go_simp
  refine (setNumber_any l s f hf (low + r) _ HR.out).mono ?_
  rintro e w3 ⟨rfl, hb3⟩
  have G3 := Lib.hid (G2.out.below hb3)
  clear hb3
  have hS3 := G3.out.row
  refine hK.out _ _ G3.out.row (fun hHeld => ?_)
  clear hHeld
  clear hK K
  try simp only [Act.put, List.setIfInBounds_toArray, List.set_cons_zero, List.set_cons_succ]
  refine wpAnyH_ready (rs := [12]) (by kernel_rfl) (by simp) ?_
  refine AllReadyH.cons rfl (fun K hK => ?_) AllReadyH.nil
  have HRF : Hid ((setNum l f (low + r)).ref.length = 32) := Lib.hid (by rw [setNum_ref]; exact HR.out)
  rw [if_pos (by rfl)]
  refine wp_store_row _ _ _ rfl (w.heap.size + 1) (ltVal (setNum l f (low + r)) s) rfl rfl _ (ltVal zLt zSl) G3.out.res (size62 _ _ HRF.out) (sz_eq _ _ HRF.out) (ltVal_one _ _) ?_
  refine hK.out _ _ (hS3.of_block (setRow_other _ _ _ _ (by omega))) (fun hHeld => ?_)
  clear hHeld hK K
  refine wpAnyH_done (by kernel_rfl) ?_ _
  clear hr2
  go_wp2_with fail
  all_goals exact bodyPost_ret (v := .agg (ltVal (setNum l f (low + r)) s)) (results_cell_row rfl _ _ (w.heap.size + 1) _ (ltVal (setNum l f (low + r)) s) (0, 0) _ rfl (setRow_heap _ _ _ _ _ _ G3.out.res) Tryz.underlying36 rfl (size62 _ _ HRF.out)) rfl (G3.out.done_same (.inl ⟨HN.out, low + r, by rw [HLO.out]; omega, by rw [HHI.out]; omega, by rw [HLO.out]; omega, rfl, rfl⟩) HM.out hlo (setNum_series _ _ _) (setNum_cellsL _ _ _) (by omega) (by omega))
end Go.Proofs.YtpgagfmpikhpkaaGreatDoor

/- kalendsref20.made for the fields move, series and window. -/
namespace Go.Proofs.YtpgagfmpikhpkaaGreatDoor
open Go Go.RowKit

def putAll (cs : Array Value) (o : Nat) : List Value → Array Value
  | [] => cs
  | v :: r => putAll (cs.setIfInBounds o v) (o + 1) r
theorem TS.storeAll {w0 : World} {mb a nd : Nat} {xs : List Int} : ∀ (vs : List Value) (o : Nat) (cs : Array Value) (W : World), TS w0 mb xs a nd cs W → TS w0 mb xs a nd (putAll cs o vs) (W.setCells w0.heap.size o vs)
  | [], _, _, _, h => h
  | v :: r, o, _, _, h => TS.storeAll r (o + 1) _ _ (h.store o v)
theorem TS.there {w0 W : World} {mb a nd : Nat} {xs : List Int} {cs : Array Value} (h : TS w0 mb xs a nd cs W) (o n : Nat) (hn : o + n ≤ cs.size) : W.there w0.heap.size o n := by
  intro j hj
  refine ⟨?_, h.froz _⟩
  rw [h.cell, Array.getElem?_eq_getElem (by omega)]; rfl
theorem put_move (l : Lt) (s : Sl) (m : Mv) : putAll (ltVal l s) 12 (mvCells m).toList = ltVal { l with move := m } s := by
  simp [putAll, ltVal, ltCells, mvCells]
def seC (se : Ser) (A B : Option Addr) (c d : Nat) : Array Value := #[.slice A se.rule.length c, I se.minute, I se.length, .string se.zone, I se.gap, I se.fold, .slice B se.moves.length d]
theorem put_series (l : Lt) (s : Sl) (A B : Option Addr) (c d : Nat) (se : Ser) : putAll (ltVal l s) 17 (seC se A B c d).toList = ltVal { l with series := se } { s with A := A, c := c, B := B, d := d } := by
  simp [putAll, ltVal, ltCells, seC]
theorem put_wfrom (l : Lt) (s : Sl) (x : Int) : (ltVal l s).setIfInBounds 27 (I x) = ltVal { l with wfrom := x } s := by
  simp [ltVal, ltCells]
theorem put_wto (l : Lt) (s : Sl) (x : Int) : (ltVal l s).setIfInBounds 28 (I x) = ltVal { l with wto := x } s := by
  simp [ltVal, ltCells]
theorem se_size (se : Ser) (A B : Option Addr) (c d : Nat) : (Tryz.prog.info? 30).map (·.size) = some (seC se A B c d).size := by kernel_rfl
theorem se_one (se : Ser) (A B : Option Addr) (c d : Nat) : (seC se A B c d).all (·.oneCell') = true := by kernel_rfl
theorem ltVal_size (l : Lt) (s : Sl) (h : l.ref.length = 32) : (ltVal l s).size = 62 := lt_size _ _ _ _ h
theorem own_formA {w : World} {base e size n : Nat} {v : Value} {xs : List Value} (h : w.ownsRow base e size v n xs) : ∃ A c, v = .slice A n c := by
  rcases h.2 with ⟨rfl, rfl⟩ | ⟨g, cap, cur, rfl, _⟩
  · exact ⟨_, _, rfl⟩
  · exact ⟨_, _, rfl⟩
theorem LtMem.step {lo mb : Nat} {w w' : World} {l l' : Lt} {s s' : Sl} {ns ns' : List NdV} (hr : RuleIs lo w' (.slice s'.A l'.series.rule.length s'.c) ns') (hn : l'.series.rule = ns'.map (·.d)) (hm : w'.ownsRow lo 25 5 (.slice s'.B l'.series.moves.length s'.d) l'.series.moves.length (mvsCells l'.series.moves))
    (h : LtMem lo w l s ns) (hk : MKeep mb w w') (hb : mb < lo) (hc : l'.cells = l.cells) (hC : s'.C = s.C) (he : s'.e = s.e) : LtMem lo w' l' s' ns' :=
  ⟨hr, hn, hm, by rw [hc, hC, he]; exact (h.mkeep hk hb).cells⟩
theorem setCells_other : ∀ (vs : List Value) (w : World) (b o k : Nat), k ≠ b → (w.setCells b o vs).heap[k]? = w.heap[k]?
  | [], _, _, _, _, _ => rfl
  | v :: r, w, b, o, k, h => (setCells_other r _ b (o + 1) k h).trans (heap_setCell_other w _ k v h)
theorem setCells_size : ∀ (vs : List Value) (w : World) (b o : Nat), (w.setCells b o vs).heap.size = w.heap.size
  | [], _, _, _ => rfl
  | v :: r, w, b, o => (setCells_size r _ b (o + 1)).trans (by simp [World.setCell])
theorem made_ser_done {w w3 : World} {lo mb a3 n3 at_ nodes : Nat} {xs : List Int} {l : Lt} {s : Sl} {ns ns' : List NdV} {ms : List Mv} {mi ln : Int} {zv : ByteArray} {gp fo : Int} {A B : Option Addr} {cr cm : Nat} {se : Ser}
    (hmem : LtMem lo w l s ns) (hlo : mb < lo) (hlw : lo ≤ w.heap.size) (hse : se = ⟨ns'.map (·.d), mi, ln, zv, gp, fo, ms⟩)
    (g : TS w mb xs a3 n3 (ltVal { l with series := se } { s with A := A, c := cr, B := B, d := cm }) (w3.setCells w.heap.size 17 (seC se A B cr cm).toList))
    (hsm : SerMade ((w.alloc (.cells (ltVal l s) 36)).alloc (.cells (ltVal zLt zSl) 36)) ns' ms mi ln zv gp fo (.slice A ns'.length cr) (.slice B ms.length cm) w3)
    (_hk3 : MKeep mb ((w.alloc (.cells (ltVal l s) 36)).alloc (.cells (ltVal zLt zSl) 36)) w3) (hks : l.kind ≠ 6 ∨ l.scope ≠ 1) (ha : a3 ≤ at_ + 400) (hn : n3 ≤ nodes + 16) :
    MadeP w lo mb xs at_ nodes l s ns 10 (.returned (.agg (ltVal { l with series := se } { s with A := A, c := cr, B := B, d := cm }))) ((w3.setCells w.heap.size 17 (seC se A B cr cm).toList).setRow (w.heap.size + 1) (ltVal { l with series := se } { s with A := A, c := cr, B := B, d := cm })) := by
  have hB : ∀ k, w.heap.size + 2 ≤ k → ((w3.setCells w.heap.size 17 (seC se A B cr cm).toList).setRow (w.heap.size + 1) (ltVal { l with series := se } { s with A := A, c := cr, B := B, d := cm })).heap[k]? = w3.heap[k]? := fun k hk => by
    rw [setRow_other _ _ k _ (by omega)]
    exact setCells_other _ _ _ _ k (by omega)
  have hsz : w3.heap.size ≤ ((w3.setCells w.heap.size 17 (seC se A B cr cm).toList).setRow (w.heap.size + 1) (ltVal { l with series := se } { s with A := A, c := cr, B := B, d := cm })).heap.size := by
    rw [show ∀ (W : World) b ds, (W.setRow b ds).heap.size = W.heap.size from fun W b ds => by simp]
    rw [setCells_size]; exact Nat.le_refl _
  subst hse
  have h2 : ((w.alloc (.cells (ltVal l s) 36)).alloc (.cells (ltVal zLt zSl) 36)).heap.size = w.heap.size + 2 := by simp
  have hr := hsm.rule
  have hmv := hsm.moves
  rw [h2] at hr hmv
  refine g.done (.inr (.inr (.inl ⟨rfl, .inl ⟨hks, _, rfl, ⟨rfl, hsm.made, hsm.len, hsm.within, hsm.mok, hsm.mlen, hsm.min, hsm.lng, hsm.zone, hsm.gap, hsm.fold⟩⟩⟩))) ?_ (fun _ => ⟨rfl, rfl⟩) ha hn
  refine LtMem.step ?_ rfl ?_ hmem (g.fin _).2 hlo rfl rfl rfl
  · show RuleIs _ _ (.slice A (ns'.map (·.d)).length cr) _
    rw [List.length_map]
    exact (hr.of_blocks hsz fun k hk _ => hB k (by omega)).lower (by omega)
  · exact ownsRow_base' (ownsRow_blocks hmv fun k hk _ => hB k (by omega)) (by omega)
attribute [local go_sem] ltVal_get lt_get0 lt_get10 lt_get11 lt_get27
set_option maxRecDepth 10000 in
set_option maxHeartbeats 4000000 in
theorem made_move (w : World) (lo mb : Nat) (xs : List Int) (at_ nodes : Nat) (l : Lt) (s : Sl) (ns : List NdV) (h : MkSt w mb xs at_ nodes) (hx : XsOK xs) (hat : at_ ≤ 100000) (hmem : LtMem lo w l s ns) (hlo : mb < lo) (_hlw : lo ≤ w.heap.size) (hr : l.ref.length = 32) :
    Calls Tryz.prog 19 #[pt mb, .agg (ltVal l s), I 9] w (MadeP w lo mb xs at_ nodes l s ns 9) := by
  have G0 : Hid (TS w mb xs at_ nodes (ltVal l s) ((w.alloc (.cells (ltVal l s) 36)).alloc (.cells (ltVal zLt zSl) 36))) := Lib.hid (TS.start h)
  have hml := h.lt
  have HM := Lib.hid hmem
  have HR := Lib.hid hr
  have HZ := Lib.hid (ltVal_size l s hr)
  clear h hmem hr
  by_cases hk4 : l.kind = 4
  · go_enter Tryz.func19, Tryz.ntmps19
    go_wp2_with (with_reducible refine g_alloc 36 ?_; refine wpList_alloc_as rfl _ rfl (ltVal zLt zSl) lt_zero ?_)
    refine (numeric_any 9 _).mono ?_
    rintro e w1 ⟨rfl, rfl⟩
    rw [show numB 9 = false from rfl]
    go_wp2_with fail
    refine (G0.out.pick hx 40 (by omega) (by omega) (by omega)).mono ?_
    rintro e w2 ⟨dy, rfl, d1, d2, -, g2⟩
    have g2c := g2.cell
    have G2 := Lib.hid g2
    clear g2
    go_wp2_with fail
    refine (madeMove_any _ mb xs _ nodes dy G2.out.mkr hx (by omega)).mono ?_
    rintro e w3 ⟨m, a3, rfl, hmv, hm3, ha3, hk3⟩
    have G3 := Lib.hid (G2.out.step hm3 hk3)
    have HT : Hid (w3.there w.heap.size 12 (mvCells m).size) := Lib.hid (G3.out.there 12 5 (by rw [HZ.out]; omega))
    have G4 : Hid (TS w mb xs a3 nodes (ltVal { l with move := m } s) (w3.setCells w.heap.size 12 (mvCells m).toList)) := Lib.hid (by have := G3.out.storeAll (mvCells m).toList 12; rw [put_move] at this; exact this)
    have HMV := Lib.hid hmv
    clear hm3 hk3 hmv
    clear g2c
    go_wp2_with (first
      | (with_reducible refine g_store 25 ?_; refine wpList_store_mid rfl _ _ _ rfl w.heap.size 12 (mvCells m) rfl rfl HT.out (mv_size _) (mv_one _) ?_)
      | (with_reducible refine g_load 36 ?_; refine wpList_load_Row rfl _ _ rfl w.heap.size rfl (ltVal { l with move := m } s) G4.out.row _ Tryz.underlying36 rfl (size62 _ _ HR.out) ?_)
      | (with_reducible refine g_store 36 ?_; refine wpList_store_row rfl _ _ _ rfl (w.heap.size + 1) (ltVal { l with move := m } s) rfl rfl 36 (ltVal zLt zSl) G4.out.res (size62 _ _ HR.out) (sz_eq _ _ HR.out) (ltVal_one _ _) ?_))
    exact bodyPost_ret (v := .agg (ltVal { l with move := m } s)) (results_cell_row rfl _ _ (w.heap.size + 1) _ (ltVal { l with move := m } s) (0, 0) _ rfl (setRow_heap _ _ _ _ _ _ G4.out.res) Tryz.underlying36 rfl (size62 _ _ HR.out)) rfl (G4.out.done_same (at_ := at_) (nodes := nodes) (.inr (.inl ⟨rfl, rfl, .inl ⟨.inl hk4, m, rfl, by rw [HMV.out.1]; exact HMV.out, .inl ⟨hk4, by rw [HMV.out.1]; exact d1, by rw [HMV.out.1]; exact d2⟩⟩⟩)) HM.out hlo rfl rfl (by omega) (by omega))
  by_cases hs1 : l.scope = 1
  · go_enter Tryz.func19, Tryz.ntmps19
    go_wp2_with (with_reducible refine g_alloc 36 ?_; refine wpList_alloc_as rfl _ rfl (ltVal zLt zSl) lt_zero ?_)
    refine (numeric_any 9 _).mono ?_
    rintro e w1 ⟨rfl, rfl⟩
    rw [show numB 9 = false from rfl]
    go_wp2_with fail
    refine (madeMove_any _ mb xs _ nodes l.day G0.out.mkr hx (by omega)).mono ?_
    rintro e w3 ⟨m, a3, rfl, hmv, hm3, ha3, hk3⟩
    have G3 := Lib.hid (G0.out.step hm3 hk3)
    have HT : Hid (w3.there w.heap.size 12 (mvCells m).size) := Lib.hid (G3.out.there 12 5 (by rw [HZ.out]; omega))
    have G4 : Hid (TS w mb xs a3 nodes (ltVal { l with move := m } s) (w3.setCells w.heap.size 12 (mvCells m).toList)) := Lib.hid (by have := G3.out.storeAll (mvCells m).toList 12; rw [put_move] at this; exact this)
    have HMV := Lib.hid hmv
    clear hm3 hk3 hmv
    go_wp2_with (first
      | (with_reducible refine g_store 25 ?_; refine wpList_store_mid rfl _ _ _ rfl w.heap.size 12 (mvCells m) rfl rfl HT.out (mv_size _) (mv_one _) ?_)
      | (with_reducible refine g_load 36 ?_; refine wpList_load_Row rfl _ _ rfl w.heap.size rfl (ltVal { l with move := m } s) G4.out.row _ Tryz.underlying36 rfl (size62 _ _ HR.out) ?_)
      | (with_reducible refine g_store 36 ?_; refine wpList_store_row rfl _ _ _ rfl (w.heap.size + 1) (ltVal { l with move := m } s) rfl rfl 36 (ltVal zLt zSl) G4.out.res (size62 _ _ HR.out) (sz_eq _ _ HR.out) (ltVal_one _ _) ?_))
    exact bodyPost_ret (v := .agg (ltVal { l with move := m } s)) (results_cell_row rfl _ _ (w.heap.size + 1) _ (ltVal { l with move := m } s) (0, 0) _ rfl (setRow_heap _ _ _ _ _ _ G4.out.res) Tryz.underlying36 rfl (size62 _ _ HR.out)) rfl (G4.out.done_same (at_ := at_) (nodes := nodes) (.inr (.inl ⟨rfl, rfl, .inl ⟨.inr hs1, m, rfl, by rw [HMV.out.1]; exact HMV.out, .inr ⟨hk4, HMV.out.1⟩⟩⟩)) HM.out hlo rfl rfl (by omega) (by omega))
  · go_enter Tryz.func19, Tryz.ntmps19
    go_wp2_with (with_reducible refine g_alloc 36 ?_; refine wpList_alloc_as rfl _ rfl (ltVal zLt zSl) lt_zero ?_)
    refine (numeric_any 9 _).mono ?_
    rintro e w1 ⟨rfl, rfl⟩
    rw [show numB 9 = false from rfl]
    go_wp2_with (first
      | (with_reducible refine g_load 36 ?_; refine wpList_load_Row rfl _ _ rfl w.heap.size rfl (ltVal l s) G0.out.row _ Tryz.underlying36 rfl (size62 _ _ HR.out) ?_)
      | (with_reducible refine g_store 36 ?_; refine wpList_store_row rfl _ _ _ rfl (w.heap.size + 1) (ltVal l s) rfl rfl 36 (ltVal zLt zSl) G0.out.res (size62 _ _ HR.out) (sz_eq _ _ HR.out) (ltVal_one _ _) ?_))
    exact bodyPost_ret (v := .agg (ltVal l s)) (results_cell_row rfl _ _ (w.heap.size + 1) _ (ltVal l s) (0, 0) _ rfl (setRow_heap _ _ _ _ _ _ G0.out.res) Tryz.underlying36 rfl (size62 _ _ HR.out)) rfl (G0.out.done_same (at_ := at_) (nodes := nodes) (.inr (.inl ⟨rfl, rfl, .inr ⟨hk4, hs1, rfl⟩⟩)) HM.out hlo rfl rfl (by omega) (by omega))
set_option maxRecDepth 10000 in
set_option maxHeartbeats 4000000 in
theorem made_series (w : World) (lo mb : Nat) (xs : List Int) (at_ nodes : Nat) (l : Lt) (s : Sl) (ns : List NdV) (h : MkSt w mb xs at_ nodes) (hx : XsOK xs) (hat : at_ ≤ 100000) (hnd : nodes ≤ 100000) (hmem : LtMem lo w l s ns) (hlo : mb < lo) (hlw : lo ≤ w.heap.size) (hr : l.ref.length = 32) :
    Calls Tryz.prog 19 #[pt mb, .agg (ltVal l s), I 10] w (MadeP w lo mb xs at_ nodes l s ns 10) := by
  have G0 : Hid (TS w mb xs at_ nodes (ltVal l s) ((w.alloc (.cells (ltVal l s) 36)).alloc (.cells (ltVal zLt zSl) 36))) := Lib.hid (TS.start h)
  have hml := h.lt
  have HM := Lib.hid hmem
  have HR := Lib.hid hr
  have HZ := Lib.hid (ltVal_size l s hr)
  clear h hmem hr
  by_cases hks : l.kind = 6 ∧ l.scope = 1
  · obtain ⟨hk6, hs1⟩ := hks
    go_enter Tryz.func19, Tryz.ntmps19
    go_wp2_with (with_reducible refine g_alloc 36 ?_; refine wpList_alloc_as rfl _ rfl (ltVal zLt zSl) lt_zero ?_)
    refine (numeric_any 10 _).mono ?_
    rintro e w1 ⟨rfl, rfl⟩
    rw [show numB 10 = false from rfl]
    go_wp2_with (first
      | (with_reducible refine g_load 36 ?_; refine wpList_load_Row rfl _ _ rfl w.heap.size rfl (ltVal l s) G0.out.row _ Tryz.underlying36 rfl (size62 _ _ HR.out) ?_)
      | (with_reducible refine g_store 36 ?_; refine wpList_store_row rfl _ _ _ rfl (w.heap.size + 1) (ltVal l s) rfl rfl 36 (ltVal zLt zSl) G0.out.res (size62 _ _ HR.out) (sz_eq _ _ HR.out) (ltVal_one _ _) ?_))
    exact bodyPost_ret (v := .agg (ltVal l s)) (results_cell_row rfl _ _ (w.heap.size + 1) _ (ltVal l s) (0, 0) _ rfl (setRow_heap _ _ _ _ _ _ G0.out.res) Tryz.underlying36 rfl (size62 _ _ HR.out)) rfl (G0.out.done_same (at_ := at_) (nodes := nodes) (.inr (.inr (.inl ⟨rfl, .inr ⟨hk6, hs1, rfl, rfl⟩⟩))) HM.out hlo rfl rfl (by omega) (by omega))
  have HKS : Hid (l.kind ≠ 6 ∨ l.scope ≠ 1) := Lib.hid (by omega)
  by_cases hk : l.kind = 6
  · have hs1 : l.scope ≠ 1 := fun e => hks ⟨hk, e⟩
    clear hks
    go_enter Tryz.func19, Tryz.ntmps19
    go_wp2_with (with_reducible refine g_alloc 36 ?_; refine wpList_alloc_as rfl _ rfl (ltVal zLt zSl) lt_zero ?_)
    refine (numeric_any 10 _).mono ?_
    rintro e w1 ⟨rfl, rfl⟩
    rw [show numB 10 = false from rfl]
    go_wp2_with fail
    refine (madeSeries_any _ mb xs at_ nodes G0.out.mkr hx hat hnd).mono ?_
    rintro e w3 ⟨ns', ms, mi, ln, zv, gp, fo, vr, vm, a3, n3, rfl, hsm, hm3, ha3, hn3, hk3⟩
    obtain ⟨B, cm, rfl⟩ := own_formA hsm.moves
    obtain ⟨A, cr, rfl⟩ := own_formA hsm.rule.row
    obtain ⟨se, hse⟩ : ∃ se : Ser, se = ⟨ns'.map (·.d), mi, ln, zv, gp, fo, ms⟩ := ⟨_, rfl⟩
    have hv : #[.slice A ns'.length cr, I mi, I ln, .string zv, I gp, I fo, .slice B ms.length cm] = seC se A B cr cm := by subst hse; simp [seC]
    rw [hv]
    have G3 := Lib.hid (G0.out.step hm3 hk3)
    have HT : Hid (w3.there w.heap.size 17 (seC se A B cr cm).size) := Lib.hid (G3.out.there 17 7 (by rw [HZ.out]; omega))
    have HSM := Lib.hid hsm
    have HSE := Lib.hid hse
    have G4 : Hid (TS w mb xs a3 n3 (ltVal { l with series := se } { s with A := A, c := cr, B := B, d := cm }) (w3.setCells w.heap.size 17 (seC se A B cr cm).toList)) := Lib.hid (by have := G3.out.storeAll (seC se A B cr cm).toList 17; rw [put_series] at this; exact this)
    have HK3 := Lib.hid hk3
    clear hm3 hk3 hsm hse hv
    go_wp2_with (first
      | (with_reducible refine g_store 30 ?_; refine wpList_store_mid rfl _ _ _ rfl w.heap.size 17 (seC se A B cr cm) rfl rfl HT.out (se_size _ _ _ _ _) (se_one _ _ _ _ _) ?_)
      | (with_reducible refine g_load 36 ?_; refine wpList_load_Row rfl _ _ rfl w.heap.size rfl (ltVal { l with series := se } { s with A := A, c := cr, B := B, d := cm }) G4.out.row _ Tryz.underlying36 rfl (size62 _ _ HR.out) ?_)
      | (with_reducible refine g_store 36 ?_; refine wpList_store_row rfl _ _ _ rfl (w.heap.size + 1) (ltVal { l with series := se } { s with A := A, c := cr, B := B, d := cm }) rfl rfl 36 (ltVal zLt zSl) G4.out.res (size62 _ _ HR.out) (sz_eq _ _ HR.out) (ltVal_one _ _) ?_))
    exact bodyPost_ret (v := .agg (ltVal { l with series := se } { s with A := A, c := cr, B := B, d := cm })) (results_cell_row rfl _ _ (w.heap.size + 1) _ (ltVal { l with series := se } { s with A := A, c := cr, B := B, d := cm }) (0, 0) _ rfl (setRow_heap _ _ _ _ _ _ G4.out.res) Tryz.underlying36 rfl (size62 _ _ HR.out)) rfl (made_ser_done HM.out hlo hlw HSE.out G4.out HSM.out HK3.out HKS.out (by omega) (by omega))
  · clear hks
    go_enter Tryz.func19, Tryz.ntmps19
    go_wp2_with (with_reducible refine g_alloc 36 ?_; refine wpList_alloc_as rfl _ rfl (ltVal zLt zSl) lt_zero ?_)
    refine (numeric_any 10 _).mono ?_
    rintro e w1 ⟨rfl, rfl⟩
    rw [show numB 10 = false from rfl]
    go_wp2_with fail
    refine (madeSeries_any _ mb xs at_ nodes G0.out.mkr hx hat hnd).mono ?_
    rintro e w3 ⟨ns', ms, mi, ln, zv, gp, fo, vr, vm, a3, n3, rfl, hsm, hm3, ha3, hn3, hk3⟩
    obtain ⟨B, cm, rfl⟩ := own_formA hsm.moves
    obtain ⟨A, cr, rfl⟩ := own_formA hsm.rule.row
    obtain ⟨se, hse⟩ : ∃ se : Ser, se = ⟨ns'.map (·.d), mi, ln, zv, gp, fo, ms⟩ := ⟨_, rfl⟩
    have hv : #[.slice A ns'.length cr, I mi, I ln, .string zv, I gp, I fo, .slice B ms.length cm] = seC se A B cr cm := by subst hse; simp [seC]
    rw [hv]
    have G3 := Lib.hid (G0.out.step hm3 hk3)
    have HT : Hid (w3.there w.heap.size 17 (seC se A B cr cm).size) := Lib.hid (G3.out.there 17 7 (by rw [HZ.out]; omega))
    have HSM := Lib.hid hsm
    have HSE := Lib.hid hse
    have G4 : Hid (TS w mb xs a3 n3 (ltVal { l with series := se } { s with A := A, c := cr, B := B, d := cm }) (w3.setCells w.heap.size 17 (seC se A B cr cm).toList)) := Lib.hid (by have := G3.out.storeAll (seC se A B cr cm).toList 17; rw [put_series] at this; exact this)
    have HK3 := Lib.hid hk3
    clear hm3 hk3 hsm hse hv
    go_wp2_with (first
      | (with_reducible refine g_store 30 ?_; refine wpList_store_mid rfl _ _ _ rfl w.heap.size 17 (seC se A B cr cm) rfl rfl HT.out (se_size _ _ _ _ _) (se_one _ _ _ _ _) ?_)
      | (with_reducible refine g_load 36 ?_; refine wpList_load_Row rfl _ _ rfl w.heap.size rfl (ltVal { l with series := se } { s with A := A, c := cr, B := B, d := cm }) G4.out.row _ Tryz.underlying36 rfl (size62 _ _ HR.out) ?_)
      | (with_reducible refine g_store 36 ?_; refine wpList_store_row rfl _ _ _ rfl (w.heap.size + 1) (ltVal { l with series := se } { s with A := A, c := cr, B := B, d := cm }) rfl rfl 36 (ltVal zLt zSl) G4.out.res (size62 _ _ HR.out) (sz_eq _ _ HR.out) (ltVal_one _ _) ?_))
    exact bodyPost_ret (v := .agg (ltVal { l with series := se } { s with A := A, c := cr, B := B, d := cm })) (results_cell_row rfl _ _ (w.heap.size + 1) _ (ltVal { l with series := se } { s with A := A, c := cr, B := B, d := cm }) (0, 0) _ rfl (setRow_heap _ _ _ _ _ _ G4.out.res) Tryz.underlying36 rfl (size62 _ _ HR.out)) rfl (made_ser_done HM.out hlo hlw HSE.out G4.out HSM.out HK3.out HKS.out (by omega) (by omega))
end Go.Proofs.YtpgagfmpikhpkaaGreatDoor

/- kalendsref20.made for the window. -/
namespace Go.Proofs.YtpgagfmpikhpkaaGreatDoor
open Go Go.RowKit

attribute [local go_sem] ltVal_get lt_get27
set_option maxRecDepth 10000 in
set_option maxHeartbeats 4000000 in
theorem made_window (w : World) (lo mb : Nat) (xs : List Int) (at_ nodes : Nat) (l : Lt) (s : Sl) (ns : List NdV) (h : MkSt w mb xs at_ nodes) (hx : XsOK xs) (hat : at_ ≤ 100000) (hmem : LtMem lo w l s ns) (hlo : mb < lo) (_hlw : lo ≤ w.heap.size) (hr : l.ref.length = 32) :
    Calls Tryz.prog 19 #[pt mb, .agg (ltVal l s), I 14] w (MadeP w lo mb xs at_ nodes l s ns 14) := by
  have G0 : Hid (TS w mb xs at_ nodes (ltVal l s) ((w.alloc (.cells (ltVal l s) 36)).alloc (.cells (ltVal zLt zSl) 36))) := Lib.hid (TS.start h)
  have hml := h.lt
  have HM := Lib.hid hmem
  have HR := Lib.hid hr
  have HZ := Lib.hid (ltVal_size l s hr)
  clear h hmem hr
  go_enter Tryz.func19, Tryz.ntmps19
  go_wp2_with (with_reducible refine g_alloc 36 ?_; refine wpList_alloc_as rfl _ rfl (ltVal zLt zSl) lt_zero ?_)
  refine (numeric_any 14 _).mono ?_
  rintro e w1 ⟨rfl, rfl⟩
  rw [show numB 14 = false from rfl]
  go_wp2_with fail
  refine (G0.out.pick hx 5000 (by omega) (by omega) (by omega)).mono ?_
  rintro e w2 ⟨x, rfl, x1, x2, -, g2⟩
  have g2c := g2.cell
  have g2f := g2.froz
  have hw1 : IntKind.i64.wrap (x - 1000) = x - 1000 := by rw [IntKind.wrap_i64]; omega
  have G2 : Hid (TS w mb xs _ nodes (ltVal { l with wfrom := x - 1000 } s) (w2.setCell ⟨w.heap.size, 27, none⟩ (I (x - 1000)))) := Lib.hid (by have := g2.store 27 (I (x - 1000)); rw [put_wfrom] at this; exact this)
  clear g2
  go_wp2_with fail
  clear g2c g2f
  have HGD : Hid (TS w mb xs (at_ + 1) nodes (ltVal { l with wfrom := x - 1000 } s) (w2.setCell ⟨w.heap.size, 27, none⟩ (I (x - 1000))).drew) := Lib.hid G2.out.drew
  have hc27 : (w2.setCell ⟨w.heap.size, 27, none⟩ (I (x - 1000))).cell? ⟨w.heap.size, 27, none⟩ = some (I (x - 1000)) := HGD.out.cell 27
  go_region_law (go_simp; go_at_call 18; refine (HGD.out.pick hx 5000 (by omega) (by omega) (by omega)).mono ?_; rintro e w5 ⟨y, rfl, y1, y2, -, g5⟩; have hc5 : w5.cell? ⟨w.heap.size, 27, none⟩ = some (I (x - 1000)) := g5.cell 27; have hc58 : w5.cell? ⟨w.heap.size, 28, none⟩ = some (I l.wto) := g5.cell 28; have hf58 := g5.froz 28; have hw2 : IntKind.i64.wrap (x - 1000 + y) = x - 1000 + y := (by rw [IntKind.wrap_i64]; omega); have G5 : Hid (TS w mb xs (at_ + 1 + 1) nodes (ltVal { l with wfrom := x - 1000, wto := x - 1000 + y } s) (w5.setCell ⟨w.heap.size, 28, none⟩ (I (x - 1000 + y)))) := Lib.hid (by have := g5.store 28 (I (x - 1000 + y)); rw [put_wto] at this; exact this); clear g5)
  all_goals
    go_wp2_with (first
      | (with_reducible refine g_load 36 ?_; refine wpList_load_Row rfl _ _ rfl w.heap.size rfl (ltVal { l with wfrom := x - 1000, wto := x - 1000 + y } s) G5.out.row _ Tryz.underlying36 rfl (size62 _ _ HR.out) ?_)
      | (with_reducible refine g_store 36 ?_; refine wpList_store_row rfl _ _ _ rfl (w.heap.size + 1) (ltVal { l with wfrom := x - 1000, wto := x - 1000 + y } s) rfl rfl 36 (ltVal zLt zSl) G5.out.res (size62 _ _ HR.out) (sz_eq _ _ HR.out) (ltVal_one _ _) ?_))
    exact bodyPost_ret (v := .agg (ltVal { l with wfrom := x - 1000, wto := x - 1000 + y } s)) (results_cell_row rfl _ _ (w.heap.size + 1) _ (ltVal { l with wfrom := x - 1000, wto := x - 1000 + y } s) (0, 0) _ rfl (setRow_heap _ _ _ _ _ _ G5.out.res) Tryz.underlying36 rfl (size62 _ _ HR.out)) rfl (G5.out.done_same (at_ := at_) (nodes := nodes) (.inr (.inr (.inr (.inl ⟨rfl, rfl, x - 1000, x - 1000 + y, by omega, by omega, by omega, rfl⟩)))) HM.out hlo rfl rfl (by omega) (by omega))
end Go.Proofs.YtpgagfmpikhpkaaGreatDoor

/- kalendsref20.made for the cells. -/
namespace Go.Proofs.YtpgagfmpikhpkaaGreatDoor
open Go Go.RowKit

theorem put_cells (l : Lt) (s : Sl) (zs : List Int) (C : Option Addr) (n e : Nat) (hn : zs.length = n) : (ltVal l s).setIfInBounds 29 (.slice C n e) = ltVal { l with cells := zs } { s with C := C, e := e } := by
  subst hn
  simp [ltVal, ltCells]
theorem TS.grown {w0 W w' : World} {mb a nd base e size n : Nat} {xs : List Int} {cs : Array Value} {v : Value} {ys : List Value} {o : Obj} (h : TS w0 mb xs a nd cs W) (hown : W.ownsRow base e size v n ys) (hb : w0.heap.size + 1 < base) (hg : (W.alloc o).grownBy w' v.ownBlock) : TS w0 mb xs a nd cs w' := by
  have h1 := h.hm
  have h4 := h.lt
  have hs := h.keep.size
  have hB : ∀ k, k < W.heap.size → k < base → w'.heap[k]? = W.heap[k]? := fun k hk hkb => by rw [hg.block k (by simp; omega) (own_ge hown k hkb), Below.heap_alloc W o k hk]
  exact ⟨h.hm, (mk_grown h.mkr hown (by omega) hg).1, ⟨hg.os.trans h.keep.os, hg.tape.trans h.keep.tape, hg.output.trans h.keep.output, by have := hg.size; simp at this; omega, fun k hk hn => (hB k (by omega) (by omega)).trans (h.keep.block k hk hn)⟩, (hB _ (by omega) (by omega)).trans h.var, (hB _ (by omega) (by omega)).trans h.res⟩
structure CP (nn : Int) (j : Nat) (zs : List Int) : Prop where
  len : zs.length = j
  rng : ∀ z ∈ zs, 0 ≤ z ∧ z < nn
  up : zs.Pairwise (· < ·)
  lo : 0 ≤ nn
  hi : nn ≤ 3 + 2 * j
  top : ∀ z ∈ zs, z ≤ 1 + 2 * (j : Int)
theorem CP.more {nn : Int} {j : Nat} {zs : List Int} (h : CP nn j zs) {r : Int} (h0 : 0 ≤ r) (h1 : r < 2) : CP (nn + 1 + r) (j + 1) (zs ++ [nn]) := by
  have hl := h.lo
  have hh := h.hi
  refine ⟨by rw [List.length_append, h.len]; rfl, fun z hz => ?_, ?_, by omega, by push_cast; omega, fun z hz => ?_⟩
  · rcases List.mem_append.1 hz with hz | hz
    · have := h.rng z hz; omega
    · rw [List.mem_singleton.1 hz]; omega
  · rw [List.pairwise_append]
    exact ⟨h.up, List.pairwise_singleton _ _, fun a ha b hb => by rw [List.mem_singleton.1 hb]; exact (h.rng a ha).2⟩
  · rcases List.mem_append.1 hz with hz | hz
    · have := h.top z hz; push_cast; omega
    · rw [List.mem_singleton.1 hz]; push_cast; omega
def ClRel (w : World) (mb : Nat) (xs : List Int) (a0 nodes : Nat) (l : Lt) (s : Sl) (kk : Int) (n i : Value) (wr : World) : Prop :=
  ∃ (j : Nat) (nn : Int) (zs : List Int) (a' : Nat) (C : Option Addr) (e : Nat), (j : Int) ≤ kk ∧ i = I j ∧ n = I nn ∧ CP nn j zs ∧ a' ≤ a0 + j ∧
    TS w mb xs a' nodes (ltVal { l with cells := zs } { s with C := C, e := e }) wr ∧ wr.ownsRow (w.heap.size + 2) 3 1 (.slice C j e) j (zs.map I)
theorem cells_done {w wr : World} {lo mb a nodes at_ j e : Nat} {xs : List Int} {l : Lt} {s : Sl} {ns : List NdV} {zs : List Int} {nn : Int} {C : Option Addr} (hm : LtMem lo w l s ns) (hlo : mb < lo) (hlw : lo ≤ w.heap.size) (h : TS w mb xs a nodes (ltVal { l with cells := zs } { s with C := C, e := e }) wr)
    (ho : wr.ownsRow (w.heap.size + 2) 3 1 (.slice C j e) j (zs.map I)) (hp : CP nn j zs) (h1 : 1 ≤ j) (h5 : j ≤ 5) (ha : a ≤ at_ + 400) :
    MadeP w lo mb xs at_ nodes l s ns 15 (.returned (.agg (ltVal { l with cells := zs } { s with C := C, e := e }))) (wr.setRow (w.heap.size + 1) (ltVal { l with cells := zs } { s with C := C, e := e })) := by
  have hml := h.hm
  have hl := hp.len
  have hpl := hp.lo
  have hhi := hp.hi
  refine h.done (.inr (.inr (.inr (.inr (.inl ⟨rfl, rfl, zs, rfl, ⟨by omega, by omega, fun z hz => ?_, hp.up⟩⟩))))) ?_ (fun h => absurd rfl h) ha (by omega)
  · refine ⟨(hp.rng z hz).1, ?_⟩
    have := hp.top z hz
    omega
  · have k := hm.mkeep (h.fin (ltVal { l with cells := zs } { s with C := C, e := e })).2 hlo
    refine ⟨k.rule, k.names, k.moves, ?_⟩
    show World.ownsRow _ _ _ _ (.slice C zs.length e) zs.length _
    rw [hl]
    exact ownsRow_base' (ownsRow_blocks ho fun k hk _ => setRow_other _ _ k _ (by omega)) (by omega)
attribute [local go_sem] ltVal_get lt_get29
set_option maxRecDepth 10000 in
set_option maxHeartbeats 4000000 in
theorem made_cells (w : World) (lo mb : Nat) (xs : List Int) (at_ nodes : Nat) (l : Lt) (s : Sl) (ns : List NdV) (h : MkSt w mb xs at_ nodes) (hx : XsOK xs) (hat : at_ ≤ 100000) (hc0 : l.cells = []) (hC : s.C = none) (he : s.e = 0) (hmem : LtMem lo w l s ns) (hlo : mb < lo) (hlw : lo ≤ w.heap.size) (hr : l.ref.length = 32) :
    Calls Tryz.prog 19 #[pt mb, .agg (ltVal l s), I 15] w (MadeP w lo mb xs at_ nodes l s ns 15) := by
  have G0 : Hid (TS w mb xs at_ nodes (ltVal l s) ((w.alloc (.cells (ltVal l s) 36)).alloc (.cells (ltVal zLt zSl) 36))) := Lib.hid (TS.start h)
  have hml := h.lt
  have HM := Lib.hid hmem
  have HR := Lib.hid hr
  have HZ := Lib.hid (ltVal_size l s hr)
  clear h hmem hr
  go_enter Tryz.func19, Tryz.ntmps19
  go_wp2_with (with_reducible refine g_alloc 36 ?_; refine wpList_alloc_as rfl _ rfl (ltVal zLt zSl) lt_zero ?_)
  refine (numeric_any 15 _).mono ?_
  rintro e w1 ⟨rfl, rfl⟩
  rw [show numB 15 = false from rfl]
  go_wp2_with fail
  refine (G0.out.pick hx 4 (by omega) (by omega) (by omega)).mono ?_
  rintro e w2 ⟨n0, rfl, n1, n2, -, g2⟩
  have G2 := Lib.hid g2
  clear g2
  go_wp2_with fail
  refine (G2.out.pick hx 5 (by omega) (by omega) (by omega)).mono ?_
  rintro e w3 ⟨k0, rfl, k1, k2, -, g3⟩
  have G3 := Lib.hid g3
  clear g3
  go_wp2_with fail
  have GL : Hid (TS w mb xs (at_ + 1 + 1) nodes (ltVal { l with cells := [] } { s with C := none, e := 0 }) w3) := Lib.hid (by have := G3.out; rw [show ltVal { l with cells := [] } { s with C := none, e := 0 } = ltVal l s by unfold ltVal; rw [hc0, hC, he]; rfl]; exact this)
  clear G0 G2 G3 hc0 hC he
  go_loopw [10, 12] (fun n i wr => ClRel w mb xs (at_ + 2) nodes l s (1 + k0) n i wr) (fun _ i _ => (1 + k0 - intOf i).toNat)
  case atStart => exact ⟨0, n0, [], _, none, 0, by omega, rfl, rfl, ⟨rfl, (fun z hz => nomatch hz), List.Pairwise.nil, n1, by omega, (fun z hz => nomatch hz)⟩, by omega, GL.out, World.ownsRow_nil _ _ _ _⟩
  case round =>
    obtain ⟨j, nn, zs, a', C, e, hj, rfl, rfl, hcp, ha', hts, hown⟩ := hrel
    have HG := Lib.hid hts
    have HO := Lib.hid hown
    have HP := Lib.hid hcp
    have hlt1 := hts.lt
    have hpl := hcp.lo
    have hhi := hcp.hi
    have hc29 : wr.cell? ⟨w.heap.size, 29, none⟩ = some (.slice C j e) := by rw [hts.cell, ← hcp.len]; rfl
    clear hts hown hcp GL
    by_cases hlt : (j : Int) < 1 + k0
    · go_wp2_with (at_builtin; refine wpList_app_int rfl _ _ rfl (w.heap.size + 2) _ j (zs.map I) rfl HO.out nn rfl (by omega) (by omega) ?_)
      intro v' w4 hown' hgrow
      obtain ⟨gg, cap, rfl⟩ := ownsRow_succ hown'
      have hg4 := HG.out.grown HO.out (by omega) hgrow
      have hc4 : w4.cell? ⟨w.heap.size, 29, none⟩ = some (.slice C zs.length e) := hg4.cell 29
      have hf4 := hg4.froz 29
      have G4 : Hid (TS w mb xs a' nodes (ltVal { l with cells := zs ++ [nn] } { s with C := some ⟨gg, 0, none⟩, e := cap }) (w4.setCell ⟨w.heap.size, 29, none⟩ (.slice (some ⟨gg, 0, none⟩) (j + 1) cap))) := Lib.hid (by have := hg4.store 29 (.slice (some ⟨gg, 0, none⟩) (j + 1) cap); rw [put_cells _ _ (zs ++ [nn]) _ _ _ (by rw [List.length_append, HP.out.len]; rfl)] at this; exact this)
      have HO4 := Lib.hid (ownsRow_setCell_below (a := ⟨w.heap.size, 29, none⟩) hown' (by show w.heap.size < _; omega) (.slice (some ⟨gg, 0, none⟩) (j + 1) cap))
      clear hown' hgrow hg4 hc29
      go_wp2_with fail
      refine (G4.out.pick hx 2 (by omega) (by omega) (by omega)).mono ?_
      rintro e w5 ⟨r, rfl, r1, r2, hk5, g5⟩
      have G5 := Lib.hid g5
      have HO5 := Lib.hid (ownsRow_mkeep HO4.out hk5 (by omega))
      clear hk5 g5 hc4 hf4
      go_wp2_with fail
      go_roundw
      case rel => exact ⟨j + 1, _, zs ++ [nn], _, _, _, by omega, by go_num, by first | rfl | go_num, HP.out.more r1 r2, by omega, G5.out, by rw [List.map_append]; exact HO5.out⟩
      case measure => simp [intOf]; omega
    · go_wp2_with (first
        | (with_reducible refine g_load 36 ?_; refine wpList_load_Row rfl _ _ rfl w.heap.size rfl (ltVal { l with cells := zs } { s with C := C, e := e }) HG.out.row _ Tryz.underlying36 rfl (size62 _ _ HR.out) ?_)
        | (with_reducible refine g_store 36 ?_; refine wpList_store_row rfl _ _ _ rfl (w.heap.size + 1) (ltVal { l with cells := zs } { s with C := C, e := e }) rfl rfl 36 (ltVal zLt zSl) HG.out.res (size62 _ _ HR.out) (sz_eq _ _ HR.out) (ltVal_one _ _) ?_))
      exact bodyPost_ret (v := .agg (ltVal { l with cells := zs } { s with C := C, e := e })) (results_cell_row rfl _ _ (w.heap.size + 1) _ (ltVal { l with cells := zs } { s with C := C, e := e }) (0, 0) _ rfl (setRow_heap _ _ _ _ _ _ HG.out.res) Tryz.underlying36 rfl (size62 _ _ HR.out)) rfl (cells_done HM.out hlo hlw HG.out HO.out HP.out (by omega) (by omega) (by omega))
end Go.Proofs.YtpgagfmpikhpkaaGreatDoor

/- kalendsref20.made for the digest; made for every field. -/
namespace Go.Proofs.YtpgagfmpikhpkaaGreatDoor
open Go Go.RowKit

theorem put_ref (l : Lt) (s : Sl) (o : Nat) (x : Int) (h0 : 0 ≤ x) (h1 : x < 256) : ∃ b : UInt8, (ltVal l s).setIfInBounds (30 + o) (.int .u8 x) = ltVal { l with ref := l.ref.set o b } s := by
  obtain ⟨n, rfl⟩ := Int.eq_ofNat_of_zero_le h0
  refine ⟨UInt8.ofNat n, ?_⟩
  have hb : Extern.Stop.cell (UInt8.ofNat n) = .int .u8 (n : Int) := by
    unfold Extern.Stop.cell
    simp
    omega
  unfold ltVal ltCells refCells
  rw [List.setIfInBounds_toArray, List.set_append_right _ _ (by simp), List.map_set, hb]
  simp
def RfRel (w : World) (mb : Nat) (xs : List Int) (a0 nodes : Nat) (l : Lt) (s : Sl) (i : Value) (wr : World) : Prop :=
  ∃ (j : Nat) (r : List UInt8) (a' : Nat), j ≤ 4 ∧ i = I j ∧ r.length = 32 ∧ a' ≤ a0 + j ∧ TS w mb xs a' nodes (ltVal { l with ref := r } s) wr
attribute [local go_sem] ltVal_get
set_option maxRecDepth 10000 in
set_option maxHeartbeats 4000000 in
theorem made_ref (w : World) (lo mb : Nat) (xs : List Int) (at_ nodes : Nat) (l : Lt) (s : Sl) (ns : List NdV) (h : MkSt w mb xs at_ nodes) (hx : XsOK xs) (hat : at_ ≤ 100000) (hmem : LtMem lo w l s ns) (hlo : mb < lo) (_hlw : lo ≤ w.heap.size) (hr : l.ref.length = 32) :
    Calls Tryz.prog 19 #[pt mb, .agg (ltVal l s), I 16] w (MadeP w lo mb xs at_ nodes l s ns 16) := by
  have G0 : Hid (TS w mb xs at_ nodes (ltVal l s) ((w.alloc (.cells (ltVal l s) 36)).alloc (.cells (ltVal zLt zSl) 36))) := Lib.hid (TS.start h)
  have hml := h.lt
  have HM := Lib.hid hmem
  have HR := Lib.hid hr
  have HZ := Lib.hid (ltVal_size l s hr)
  clear h hmem hr
  go_enter Tryz.func19, Tryz.ntmps19
  go_wp2_with (with_reducible refine g_alloc 36 ?_; refine wpList_alloc_as rfl _ rfl (ltVal zLt zSl) lt_zero ?_)
  refine (numeric_any 16 _).mono ?_
  rintro e w1 ⟨rfl, rfl⟩
  rw [show numB 16 = false from rfl]
  go_wp2_with fail
  clear HZ
  go_loopw [13] (fun i wr => RfRel w mb xs at_ nodes l s i wr) (fun i _ => (4 - intOf i).toNat)
  case atStart => exact ⟨0, l.ref, _, by omega, rfl, HR.out, by omega, G0.out⟩
  case round =>
    obtain ⟨j, r, a', hj, rfl, hrl, ha', hts⟩ := hrel
    have HG := Lib.hid hts
    have HRL := Lib.hid hrl
    have hlt1 := hts.lt
    clear hts hrl G0
    by_cases hlt : (j : Int) < 4
    · have hj4 : j = 0 ∨ j = 1 ∨ j = 2 ∨ j = 3 := by omega
      rcases hj4 with rfl | rfl | rfl | rfl
      · go_wp2_with fail
        refine (HG.out.pick hx 256 (by omega) (by omega) (by omega)).mono ?_
        rintro e w2 ⟨x, rfl, x1, x2, -, g2⟩
        have hcx : ∃ v, w2.cell? ⟨w.heap.size, 30, none⟩ = some v := ⟨_, (g2.cell 30).trans (Array.getElem?_eq_getElem (by rw [ltVal_size _ _ HRL.out]; omega))⟩
        obtain ⟨v0, hc2⟩ := hcx
        have hf2 := g2.froz 30
        have hwx : IntKind.u8.wrap x = x := by rw [IntKind.wrap_u8]; omega
        obtain ⟨b, hb⟩ := put_ref { l with ref := r } s 0 x x1 x2
        have G3 : Hid (TS w mb xs (a' + 1) nodes (ltVal { l with ref := r.set 0 b } s) (w2.setCell ⟨w.heap.size, 30, none⟩ (.int .u8 x))) := Lib.hid (by have := g2.store 30 (.int .u8 x); rw [show 30 = 30 + 0 from rfl, hb] at this; exact this)
        have HLN : Hid ((r.set 0 b).length = 32) := Lib.hid (by rw [List.length_set]; exact HRL.out)
        clear g2 hb
        go_wp2_with fail
        go_roundw
        case rel => exact ⟨1, _, _, by omega, by go_num, HLN.out, by omega, G3.out⟩
        case measure => simp [intOf]
      · go_wp2_with fail
        refine (HG.out.pick hx 256 (by omega) (by omega) (by omega)).mono ?_
        rintro e w2 ⟨x, rfl, x1, x2, -, g2⟩
        have hcx : ∃ v, w2.cell? ⟨w.heap.size, 38, none⟩ = some v := ⟨_, (g2.cell 38).trans (Array.getElem?_eq_getElem (by rw [ltVal_size _ _ HRL.out]; omega))⟩
        obtain ⟨v0, hc2⟩ := hcx
        have hf2 := g2.froz 38
        have hwx : IntKind.u8.wrap x = x := by rw [IntKind.wrap_u8]; omega
        obtain ⟨b, hb⟩ := put_ref { l with ref := r } s 8 x x1 x2
        have G3 : Hid (TS w mb xs (a' + 1) nodes (ltVal { l with ref := r.set 8 b } s) (w2.setCell ⟨w.heap.size, 38, none⟩ (.int .u8 x))) := Lib.hid (by have := g2.store 38 (.int .u8 x); rw [show 38 = 30 + 8 from rfl, hb] at this; exact this)
        have HLN : Hid ((r.set 8 b).length = 32) := Lib.hid (by rw [List.length_set]; exact HRL.out)
        clear g2 hb
        go_wp2_with fail
        go_roundw
        case rel => exact ⟨2, _, _, by omega, by go_num, HLN.out, by omega, G3.out⟩
        case measure => simp [intOf]
      · go_wp2_with fail
        refine (HG.out.pick hx 256 (by omega) (by omega) (by omega)).mono ?_
        rintro e w2 ⟨x, rfl, x1, x2, -, g2⟩
        have hcx : ∃ v, w2.cell? ⟨w.heap.size, 46, none⟩ = some v := ⟨_, (g2.cell 46).trans (Array.getElem?_eq_getElem (by rw [ltVal_size _ _ HRL.out]; omega))⟩
        obtain ⟨v0, hc2⟩ := hcx
        have hf2 := g2.froz 46
        have hwx : IntKind.u8.wrap x = x := by rw [IntKind.wrap_u8]; omega
        obtain ⟨b, hb⟩ := put_ref { l with ref := r } s 16 x x1 x2
        have G3 : Hid (TS w mb xs (a' + 1) nodes (ltVal { l with ref := r.set 16 b } s) (w2.setCell ⟨w.heap.size, 46, none⟩ (.int .u8 x))) := Lib.hid (by have := g2.store 46 (.int .u8 x); rw [show 46 = 30 + 16 from rfl, hb] at this; exact this)
        have HLN : Hid ((r.set 16 b).length = 32) := Lib.hid (by rw [List.length_set]; exact HRL.out)
        clear g2 hb
        go_wp2_with fail
        go_roundw
        case rel => exact ⟨3, _, _, by omega, by go_num, HLN.out, by omega, G3.out⟩
        case measure => simp [intOf]
      · go_wp2_with fail
        refine (HG.out.pick hx 256 (by omega) (by omega) (by omega)).mono ?_
        rintro e w2 ⟨x, rfl, x1, x2, -, g2⟩
        have hcx : ∃ v, w2.cell? ⟨w.heap.size, 54, none⟩ = some v := ⟨_, (g2.cell 54).trans (Array.getElem?_eq_getElem (by rw [ltVal_size _ _ HRL.out]; omega))⟩
        obtain ⟨v0, hc2⟩ := hcx
        have hf2 := g2.froz 54
        have hwx : IntKind.u8.wrap x = x := by rw [IntKind.wrap_u8]; omega
        obtain ⟨b, hb⟩ := put_ref { l with ref := r } s 24 x x1 x2
        have G3 : Hid (TS w mb xs (a' + 1) nodes (ltVal { l with ref := r.set 24 b } s) (w2.setCell ⟨w.heap.size, 54, none⟩ (.int .u8 x))) := Lib.hid (by have := g2.store 54 (.int .u8 x); rw [show 54 = 30 + 24 from rfl, hb] at this; exact this)
        have HLN : Hid ((r.set 24 b).length = 32) := Lib.hid (by rw [List.length_set]; exact HRL.out)
        clear g2 hb
        go_wp2_with fail
        go_roundw
        case rel => exact ⟨4, _, _, by omega, by go_num, HLN.out, by omega, G3.out⟩
        case measure => simp [intOf]
    · have HR0 := HR
      clear HR
      have HR : Hid (r.length = 32) := HRL
      go_wp2_with (first
        | (with_reducible refine g_load 36 ?_; refine wpList_load_Row rfl _ _ rfl w.heap.size rfl (ltVal { l with ref := r } s) HG.out.row _ Tryz.underlying36 rfl (size62 _ _ HR.out) ?_)
        | (with_reducible refine g_store 36 ?_; refine wpList_store_row rfl _ _ _ rfl (w.heap.size + 1) (ltVal { l with ref := r } s) rfl rfl 36 (ltVal zLt zSl) HG.out.res (size62 _ _ HR.out) (sz_eq _ _ HR.out) (ltVal_one _ _) ?_))
      exact bodyPost_ret (v := .agg (ltVal { l with ref := r } s)) (results_cell_row rfl _ _ (w.heap.size + 1) _ (ltVal { l with ref := r } s) (0, 0) _ rfl (setRow_heap _ _ _ _ _ _ HG.out.res) Tryz.underlying36 rfl (size62 _ _ HR.out)) rfl (HG.out.done_same (at_ := at_) (nodes := nodes) (.inr (.inr (.inr (.inr (.inr ⟨rfl, rfl, r, HR.out, rfl⟩))))) HM.out hlo rfl rfl (by omega) (by omega))
theorem made_any (w : World) (lo mb : Nat) (xs : List Int) (at_ nodes : Nat) (l : Lt) (s : Sl) (ns : List NdV) (f : Nat) (h : MkSt w mb xs at_ nodes) (hx : XsOK xs) (hat : at_ ≤ 100000) (hnd : nodes ≤ 100000) (hmem : LtMem lo w l s ns) (hlo : mb < lo) (hlw : lo ≤ w.heap.size) (hr : l.ref.length = 32) (hf : f < 17)
    (hC : f = 15 → l.cells = [] ∧ s.C = none ∧ s.e = 0) : Calls Tryz.prog 19 #[pt mb, .agg (ltVal l s), I f] w (MadeP w lo mb xs at_ nodes l s ns f) := by
  cases hn : numB f with
  | true => exact made_num w lo mb xs at_ nodes l s ns f h hx hat hmem hlo hr hf hn
  | false =>
    have h5 : f = 9 ∨ f = 10 ∨ f = 14 ∨ f = 15 ∨ f = 16 := by simp [numB] at hn; omega
    rcases h5 with rfl | rfl | rfl | rfl | rfl
    · exact made_move w lo mb xs at_ nodes l s ns h hx hat hmem hlo hlw hr
    · exact made_series w lo mb xs at_ nodes l s ns h hx hat hnd hmem hlo hlw hr
    · exact made_window w lo mb xs at_ nodes l s ns h hx hat hmem hlo hlw hr
    · obtain ⟨h1, h2, h3⟩ := hC rfl
      exact made_cells w lo mb xs at_ nodes l s ns h hx hat h1 h2 h3 hmem hlo hlw hr
    · exact made_ref w lo mb xs at_ nodes l s ns h hx hat hmem hlo hlw hr
end Go.Proofs.YtpgagfmpikhpkaaGreatDoor
