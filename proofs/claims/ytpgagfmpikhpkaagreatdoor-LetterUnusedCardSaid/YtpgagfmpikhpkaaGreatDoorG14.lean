/- The texts UnP, RefSame, UnW, in this order. -/
import Derived.Test.YtpgagfmpikhpkaaGreatDoorG13
import Derived.Test.YtpgagfmpikhpkaaGreatDoorG07
import Derived.Deep.DeepCutAuto
import Derived.Test.YtpgagfmpikhpkaaGreatDoorG10
/- What a letter that was made is, in plain words: its head, its lengths, the numbers that its kind does not use. -/
namespace Go.Proofs.YtpgagfmpikhpkaaGreatDoor
open Go Go.RowKit

theorem MRule.lists {cals : Int} {ns : List NdV} (h : MRule cals ns) : ∀ x ∈ ns, x.d.list.length ≤ 4 := by
  induction h with
  | leaf x h =>
    intro y hy
    rw [List.mem_singleton.1 hy]
    obtain ⟨_, h⟩ := h
    rcases h with h | h | h | h | h | h | h | h
    · rw [h.2.2.2.2.2.2.2.1]; simp
    · rw [h.2.2.2.2.2.2.2.2.1]; simp
    · exact h.2.2.2.2.2.2.1.2.1
    · exact h.2.2.2.2.2.2.1.2.1
    · exact h.2.2.2.2.2.1.2.1
    · exact h.2.2.2.2.2.2.1.2.1
    · rw [h.2.2.2.2.2.2.2.2.1]; simp
    · rw [h.2.2.2.2.2.1]; simp
  | one ns x _ h ih =>
    intro y hy
    rcases List.mem_append.1 hy with hy | hy
    · exact ih y hy
    · rw [List.mem_singleton.1 hy]
      show x.d.list.length ≤ 4
      rcases h.2.2 with h | h | h | h
      · rw [h.2.2.2.2.2]; simp
      · rw [h.2.2.2.2.2]; simp
      · exact h.2.2.2.2.2.1
      · exact h.2.2.2.2.2.2.2.1
  | two ns ms x _ _ h ih1 ih2 =>
    intro y hy
    rcases List.mem_append.1 hy with hy | hy
    · rcases List.mem_append.1 hy with hy | hy
      · exact ih1 y hy
      · obtain ⟨z, hz, rfl⟩ := List.mem_map.1 hy
        exact ih2 z hz
    · rw [List.mem_singleton.1 hy]
      show x.d.list.length ≤ 4
      rw [h.2.2.1]; simp
theorem numF_ne (l : Lt) (x : Int) (f k : Nat) (hk : k < 17) (h : f ≠ k) : numF (setNum l f x) k = numF l k :=
  all17 (p := fun k => f ≠ k → numF (setNum l f x) k = numF l k) (by
    refine ⟨?_, ?_, ?_, ?_, ?_, ?_, ?_, ?_, ?_, ?_, ?_, ?_, ?_, ?_, ?_, ?_, ?_⟩ <;> (intro h; unfold setNum; split <;> first | rfl | exact absurd rfl h)) k hk h
theorem numF_same (l : Lt) (x : Int) (k : Nat) (hk : k < 17) (h : (numOff k).isSome = true) : numF (setNum l k x) k = x :=
  all17 (p := fun k => (numOff k).isSome = true → numF (setNum l k x) k = x) (by
    refine ⟨?_, ?_, ?_, ?_, ?_, ?_, ?_, ?_, ?_, ?_, ?_, ?_, ?_, ?_, ?_, ?_, ?_⟩ <;> (intro h; first | rfl | cases h)) k hk h
theorem setNum_none (l : Lt) (x : Int) (k : Nat) (hk : k < 17) (h : numOff k = none) : setNum l k x = l :=
  all17 (p := fun k => numOff k = none → setNum l k x = l) (by
    refine ⟨?_, ?_, ?_, ?_, ?_, ?_, ?_, ?_, ?_, ?_, ?_, ?_, ?_, ?_, ?_, ?_, ?_⟩ <;> (intro h; first | rfl | cases h)) k hk h
theorem setNum_src (l : Lt) (k : Nat) (x : Int) : (setNum l k x).src = l.src := by unfold setNum; split <;> rfl
theorem setNum_dst (l : Lt) (k : Nat) (x : Int) : (setNum l k x).dst = l.dst := by unfold setNum; split <;> rfl
theorem setNum_move (l : Lt) (k : Nat) (x : Int) : (setNum l k x).move = l.move := by unfold setNum; split <;> rfl
theorem setNum_wfrom (l : Lt) (k : Nat) (x : Int) : (setNum l k x).wfrom = l.wfrom := by unfold setNum; split <;> rfl
theorem setNum_wto (l : Lt) (k : Nat) (x : Int) : (setNum l k x).wto = l.wto := by unfold setNum; split <;> rfl
theorem MadeF.numF {l l' : Lt} {ns ns' : List NdV} {f : Nat} (h : MadeF l ns f l' ns') (k : Nat) (hk : k < 17) (hf : f ≠ k) : numF l' k = numF l k := by
  rcases h with ⟨_, x, _, _, _, rfl, _⟩ | ⟨_, _, ⟨_, m, rfl, _⟩ | ⟨_, _, rfl⟩⟩ | ⟨_, ⟨_, se, rfl, _⟩ | ⟨_, _, rfl, _⟩⟩ | ⟨_, _, a, b, _, _, _, rfl⟩ | ⟨_, _, zs, rfl, _⟩ | ⟨_, _, r, _, rfl⟩
  · exact numF_ne l x f k hk hf
  all_goals rfl
theorem MadeTo.unused {bare : Bool} {l0 l : Lt} {j : Nat} {ns : List NdV} (h : MadeTo bare l0 j l ns) (k : Nat) (hk : k < 17) (hu : usesB l0.kind k = false) : numF l k = numF l0 k := by
  induction h with
  | zero => rfl
  | skip _ _ ih => exact ih
  | @step j l l' ns ns' _ hs hf ih =>
    refine (hf.numF k hk ?_).trans ih
    rintro rfl
    unfold skipB at hs
    rw [hu] at hs
    cases hs
theorem start_numF (k f t : Int) (i : Nat) (hi : i < 17) : numF (startLt k f t) i = 0 :=
  all17 (p := fun i => numF (startLt k f t) i = 0) (by refine ⟨?_, ?_, ?_, ?_, ?_, ?_, ?_, ?_, ?_, ?_, ?_, ?_, ?_, ?_, ?_, ?_, ?_⟩ <;> rfl) i hi
theorem adjust_unused (l : Lt) (k : Nat) (hk : k < 17) (hu : usesB l.kind k = false) : numF (adjust l) k = numF l k := by
  unfold adjust
  split
  · rename_i h
    rw [h.1] at hu
    have : k ≠ 8 := by rintro rfl; revert hu; decide
    exact numF_ne l 0 8 k hk (fun e => this e.symm)
  · split
    · rename_i h
      rw [h.1] at hu
      have : k ≠ 5 := by rintro rfl; revert hu; decide
      exact numF_ne l (l.other + 1) 5 k hk (fun e => this e.symm)
    · rfl
theorem adjust_kind (l : Lt) : (adjust l).kind = l.kind := by unfold adjust; split <;> (try split) <;> rfl
theorem adjust_src (l : Lt) : (adjust l).src = l.src := by unfold adjust; split <;> (try split) <;> rfl
theorem adjust_dst (l : Lt) : (adjust l).dst = l.dst := by unfold adjust; split <;> (try split) <;> rfl
theorem adjust_series (l : Lt) : (adjust l).series = l.series := by unfold adjust; split <;> (try split) <;> rfl
theorem adjust_cells (l : Lt) : (adjust l).cells = l.cells := by unfold adjust; split <;> (try split) <;> rfl
/-- What every letter under way keeps. -/
structure Inv (l0 l : Lt) (ns : List NdV) : Prop where
  kind : l.kind = l0.kind
  src : l.src = l0.src
  dst : l.dst = l0.dst
  ser : (l.series = zSer ∧ ns = []) ∨ SerOK ns l.series
  cells : l.cells = [] ∨ CellsOK l.cells
theorem MadeF.inv {l0 l l' : Lt} {ns ns' : List NdV} {f : Nat} (h : MadeF l ns f l' ns') (i : Inv l0 l ns) : Inv l0 l' ns' := by
  rcases h with ⟨_, x, _, _, _, rfl, rfl⟩ | ⟨_, rfl, ⟨_, m, rfl, _⟩ | ⟨_, _, rfl⟩⟩ | ⟨_, ⟨_, se, rfl, h⟩ | ⟨_, _, rfl, rfl⟩⟩ | ⟨_, rfl, a, b, _, _, _, rfl⟩ | ⟨_, rfl, zs, rfl, h⟩ | ⟨_, rfl, r, _, rfl⟩
  · exact ⟨by rw [setNum_kind]; exact i.kind, by rw [setNum_src]; exact i.src, by rw [setNum_dst]; exact i.dst, by rw [setNum_series]; exact i.ser, by rw [setNum_cellsL]; exact i.cells⟩
  · exact ⟨i.kind, i.src, i.dst, i.ser, i.cells⟩
  · exact i
  · exact ⟨i.kind, i.src, i.dst, .inr h, i.cells⟩
  · exact i
  · exact ⟨i.kind, i.src, i.dst, i.ser, i.cells⟩
  · exact ⟨i.kind, i.src, i.dst, i.ser, .inr h⟩
  · exact ⟨i.kind, i.src, i.dst, i.ser, i.cells⟩
theorem MadeTo.inv {bare : Bool} {l0 l : Lt} {j : Nat} {ns : List NdV} (h : MadeTo bare l0 j l ns) (h0 : Inv l0 l0 []) : Inv l0 l ns := by
  induction h with
  | zero => exact h0
  | skip _ _ ih => exact ih
  | step _ _ hf ih => exact hf.inv ih
theorem MadeLt.inv {l : Lt} {ns : List NdV} (h : MadeLt l ns) : ∃ k f t, 1 ≤ k ∧ k ≤ 18 ∧ 0 ≤ f ∧ f ≤ 15 ∧ 0 ≤ t ∧ t ≤ 15 ∧ f ≠ t ∧ Inv (startLt k f t) l ns ∧ ∀ i : Nat, i < 17 → usesB k i = false → numF l i = 0 := by
  obtain ⟨bare, k, f, t, l1, h1, h2, h3, h4, h5, h6, h7, _, hm, rfl⟩ := h.made
  have i := hm.inv ⟨rfl, rfl, rfl, .inl ⟨rfl, rfl⟩, .inl rfl⟩
  refine ⟨k, f, t, h1, h2, h3, h4, h5, h6, h7, ⟨by rw [adjust_kind]; exact i.kind, by rw [adjust_src]; exact i.src, by rw [adjust_dst]; exact i.dst, by rw [adjust_series]; exact i.ser, by rw [adjust_cells]; exact i.cells⟩, fun j hj hu => ?_⟩
  have hk : l1.kind = k := i.kind
  rw [adjust_unused l1 j hj (by rw [hk]; exact hu), hm.unused j hj hu, start_numF k f t j hj]
theorem MadeLt.unused {l : Lt} {ns : List NdV} (h : MadeLt l ns) (i : Nat) (hi : i < 17) (hu : usesB l.kind i = false) : numF l i = 0 := by
  obtain ⟨k, f, t, _, _, _, _, _, _, _, hv, hz⟩ := h.inv
  exact hz i hi (by rw [hv.kind] at hu; exact hu)
theorem MadeLt.kinds {l : Lt} {ns : List NdV} (h : MadeLt l ns) : 1 ≤ l.kind ∧ l.kind ≤ 18 := by
  obtain ⟨k, f, t, h1, h2, _, _, _, _, _, hv, _⟩ := h.inv
  have : l.kind = k := hv.kind
  omega
theorem MadeLt.head {l : Lt} {ns : List NdV} (h : MadeLt l ns) : headOK l = true := by
  obtain ⟨k, f, t, h1, h2, h3, h4, h5, h6, h7, hv, _⟩ := h.inv
  have e1 : l.kind = k := hv.kind
  have e2 : l.src = f := hv.src
  have e3 : l.dst = t := hv.dst
  unfold headOK srvIn
  rw [e1, e2, e3]
  simp only [Bool.and_eq_true, decide_eq_true_eq]
  omega
theorem MadeLt.ok {l : Lt} {ns : List NdV} (h : MadeLt l ns) : LtOK l := by
  obtain ⟨k, f, t, _, _, _, _, _, _, _, hv, _⟩ := h.inv
  have hc : l.cells.length ≤ 140737488355328 := by
    rcases hv.cells with h | h
    · rw [h]; simp
    · have := h.len; omega
  rcases hv.ser with ⟨hs, _⟩ | hs
  · exact ⟨by rw [hs]; simp [zSer], by rw [hs]; simp [zSer], by rw [hs]; simp [zSer], h.ref, hc⟩
  · refine ⟨?_, ?_, ?_, h.ref, hc⟩
    · rw [hs.names, List.length_map]; have := hs.len; omega
    · have := hs.mlen; omega
    · rcases hs.zone with h | h | h | h <;> rw [h] <;> decide
theorem MadeLt.lens {l : Lt} {ns : List NdV} (h : MadeLt l ns) : l.series.rule.length ≤ 16 ∧ l.series.moves.length ≤ 2 ∧ l.cells.length ≤ 5 ∧ ∀ x ∈ ns, x.d.list.length ≤ 4 := by
  obtain ⟨k, f, t, _, _, _, _, _, _, _, hv, _⟩ := h.inv
  have hc : l.cells.length ≤ 5 := by
    rcases hv.cells with h | h
    · rw [h]; simp
    · exact h.len
  rcases hv.ser with ⟨hs, hn⟩ | hs
  · exact ⟨by rw [hs]; simp [zSer], by rw [hs]; simp [zSer], hc, by rw [hn]; simp⟩
  · exact ⟨by rw [hs.names, List.length_map]; exact hs.len, hs.mlen, hc, hs.made.lists⟩
theorem LtOK.num {l : Lt} (h : LtOK l) (k : Nat) (x : Int) : LtOK (setNum l k x) := ⟨by rw [setNum_series]; exact h.rule, by rw [setNum_series]; exact h.moves, by rw [setNum_series]; exact h.zone, by rw [setNum_ref]; exact h.ref, by rw [setNum_cellsL]; exact h.cells⟩
theorem head_num (l : Lt) (k : Nat) (x : Int) : headOK (setNum l k x) = headOK l := by unfold headOK; rw [setNum_kind, setNum_src, setNum_dst]
/-- A number that the kind does not use is not zero: the letter is not valid. -/
theorem unused_bad {l : Lt} (k : Nat) (hk : k < 17) (hu : usesB l.kind k = false) (x : Int) (hx : x ≠ 0) (ho : (numOff k).isSome = true) : bodyOK (setNum l k x) = false := by
  unfold bodyOK
  rw [vNums_no hk, Bool.false_and]
  unfold numOK numLow numHigh
  rw [setNum_kind, hu, numF_same l x k hk ho]
  obtain ⟨o, ho⟩ := Option.isSome_iff_exists.1 ho
  rw [ho]
  simp
  omega
theorem numsEq_num (l : Lt) (k : Nat) (hk : k < 17) (x : Int) : numsEq l (setNum l k x) = ((numOff k).isNone || (numF l k == x)) := by
  cases h : (numOff k).isNone || (numF l k == x) with
  | true =>
    apply numsEq_yes
    intro j hj
    by_cases e : j = k
    · subst e
      cases h2 : numOff j with
      | none => rfl
      | some o =>
        rw [h2] at h
        rw [numF_same l x j hj (by rw [h2]; rfl)]
        exact h
    · rw [numF_ne l x k j hj (fun h => e h.symm)]
      simp
  | false =>
    rw [Bool.or_eq_false_iff] at h
    obtain ⟨o, ho⟩ : ∃ o, numOff k = some o := by
      cases h2 : numOff k with
      | none => rw [h2] at h; cases h.1
      | some o => exact ⟨o, rfl⟩
    exact numsEq_no hk ho (by rw [numF_same l x k hk (by rw [ho]; rfl)]; exact h.2)
theorem headEq_num (l : Lt) (k : Nat) (x : Int) : headEq l (setNum l k x) = true := by
  unfold headEq moveEq
  rw [setNum_kind, setNum_src, setNum_dst, setNum_move, setNum_wfrom, setNum_wto, setNum_ref]
  simp
theorem serEq_same (s : Ser) : serEq s s = true := by unfold serEq; simp
/-- The lists, as the laws of equality ask for them. -/
theorem LtMem.rules {lo : Nat} {w : World} {l : Lt} {s : Sl} {ns : List NdV} (h : LtMem lo w l s ns) (hl : ∀ x ∈ ns, x.d.list.length ≤ 4) : RulesAt w w.heap.size s.A ns := by
  by_cases hn : ns = []
  · exact .inl (by rw [hn]; rfl)
  obtain ⟨g, cap, h1, h2, h3, h4⟩ := h.rule.form hn
  injection h1 with h1 _ _
  refine .inr ⟨g, h1, h3, fun k x hx => ⟨fun j v hv => ?_, (h.rule.lists x (List.mem_of_getElem? hx)).ints, by have := hl x (List.mem_of_getElem? hx); omega⟩⟩
  have hj : j < 8 := by have := (List.getElem?_eq_some_iff.1 hv).1; rw [x.len] at this; exact this
  exact h4 _ _ (by rw [rcells_get ns k j hj, hx]; exact hv)
theorem LtMem.mvs {lo : Nat} {w : World} {l : Lt} {s : Sl} {ns : List NdV} (h : LtMem lo w l s ns) : MovesAt w w.heap.size s.B l.series.moves := by
  obtain ⟨h0, ⟨_, h1⟩ | ⟨g, cap, cur, hv, hg, hb, h1, h2, h3, h4⟩⟩ := h.moves
  · exact .inl h1
  injection hv with hv _ _
  refine .inr ⟨g, hv, (Array.getElem?_eq_some_iff.1 hb).1, fun k x hx j v hj => ?_⟩
  have h5 : j < 5 := (List.getElem?_eq_some_iff.1 hj).1
  rw [cell_of_row w g _ _ _ _ hb]
  have h6 : (mvsCells l.series.moves)[k * 5 + j]? = some v := by rw [mvs_get _ k j h5, hx]; exact hj
  rw [← h4, List.getElem?_take] at h6
  split at h6
  · simpa using h6
  · cases h6
theorem LtMem.ints {lo : Nat} {w : World} {l : Lt} {s : Sl} {ns : List NdV} (h : LtMem lo w l s ns) : IntsAt w w.heap.size s.C l.cells := by
  obtain ⟨A, c, h1, h2⟩ := LI.of_owns h.cells
  injection h1 with h1 _ _
  rw [h1]
  exact h2.ints
end Go.Proofs.YtpgagfmpikhpkaaGreatDoor

/- kalendsref20.Same of letters that differ in numbers alone. -/
namespace Go.Proofs.YtpgagfmpikhpkaaGreatDoor
open Go Go.RowKit

/-- Two letters that differ in numbers alone. -/
structure Twin (a b : Lt) : Prop where
  kind : a.kind = b.kind
  src : a.src = b.src
  dst : a.dst = b.dst
  move : a.move = b.move
  wfrom : a.wfrom = b.wfrom
  wto : a.wto = b.wto
  ref : a.ref = b.ref
  cells : a.cells = b.cells
  series : a.series = b.series
  len : a.ref.length = 32
/-- Both letters, as they lie. -/
structure TwoLt (w : World) (a b : Lt) (s t : Sl) (wr : World) : Prop where
  ra : Row wr w.heap.size (ltVal a s)
  rb : Row wr (w.heap.size + 1) (ltVal b t)
  lo : Below w.heap.size w wr
theorem TwoLt.below {w wr w' : World} {a b : Lt} {s t : Sl} (h : TwoLt w a b s t wr) (hb : Below wr.heap.size wr w') : TwoLt w a b s t w' := ⟨h.ra.keep hb, h.rb.keep hb, below_trans h.lo hb⟩
theorem TwoLt.drew {w wr : World} {a b : Lt} {s t : Sl} (h : TwoLt w a b s t wr) : TwoLt w a b s t wr.drew := ⟨h.ra, h.rb, h.lo.drew⟩
theorem numB_off (k : Nat) (hk : k < 17) : numB k = (numOff k).isSome :=
  all17 (p := fun k => numB k = (numOff k).isSome) (by refine ⟨?_, ?_, ?_, ?_, ?_, ?_, ?_, ?_, ?_, ?_, ?_, ?_, ?_, ?_, ?_, ?_, ?_⟩ <;> rfl) k hk
attribute [local go_sem] ltVal_get lt_get0 lt_get1 lt_get2 lt_get12 lt_get13 lt_get14 lt_get15 lt_get16 lt_get17 lt_get18 lt_get19 lt_get20 lt_get21 lt_get22 lt_get23 lt_get27 lt_get28 lt_get29
set_option maxRecDepth 10000 in
set_option maxHeartbeats 4000000 in
theorem refSame_twin (a b : Lt) (s t : Sl) (w : World) (h : Twin a b)
    (hc : ∀ w', Below w.heap.size w w' → Calls Tryz.prog 24 #[.slice s.C a.cells.length s.e, .slice t.C b.cells.length t.e] w' (Gives (.bool true) w'))
    (hs : ∀ w', Below w.heap.size w w' → Calls Tryz.prog 25 #[.agg (seC a.series s.A s.B s.c s.d), .agg (seC b.series t.A t.B t.c t.d)] w' (Gives (.bool true) w')) :
    Calls Tryz.prog 9 #[.agg (ltVal a s), .agg (ltVal b t)] w (Gives (.bool (numsEq a b)) w) := by
  have HRA := Lib.hid ((Row.new w (ltVal a s) 36).keep (below_var _ (.cells (ltVal b t) 36)))
  have HRB : Hid (Row ((w.alloc (.cells (ltVal a s) 36)).alloc (.cells (ltVal b t) 36)) (w.heap.size + 1) (ltVal b t)) := Lib.hid (by have := Row.new (w.alloc (.cells (ltVal a s) 36)) (ltVal b t) 36; rwa [World.size_alloc] at this)
  have HB0 := Lib.hid (below_trans (below_var w (.cells (ltVal a s) 36)) (below_var _ (.cells (ltVal b t) 36)))
  have HC := Lib.hid hc
  have HSR := Lib.hid hs
  have HT := Lib.hid h
  have h0 : (a.kind == b.kind) = true := by rw [h.kind]; exact beq_self_eq_true _
  have h1 : (a.src == b.src) = true := by rw [h.src]; exact beq_self_eq_true _
  have h2 : (a.dst == b.dst) = true := by rw [h.dst]; exact beq_self_eq_true _
  have n0 : (a.kind != b.kind) = false := by rw [h.kind]; exact ints_same _
  have n1 : (a.src != b.src) = false := by rw [h.src]; exact ints_same _
  have n2 : (a.dst != b.dst) = false := by rw [h.dst]; exact ints_same _
  have hlb : b.ref.length = 32 := by rw [← h.ref]; exact h.len
  have heqd : ∀ W, (binOp .neq 34 (.agg (refCells a.ref).toArray) (.agg (refCells b.ref).toArray)).run Tryz.prog W = .ok (.bool false) W := fun W => by rw [neq_digest a.ref b.ref h.len hlb W, h.ref]; simp
  have heqm : ∀ W, (binOp .neq 25 (.agg #[I a.move.day, .bool a.move.drop, I a.move.toDay, I a.move.minute, I a.move.length]) (.agg #[I b.move.day, .bool b.move.drop, I b.move.toDay, I b.move.minute, I b.move.length])).run Tryz.prog W = .ok (.bool false) W := fun W => by rw [h.move]; exact neq_mv_same _ W
  have heqw : ∀ W, (binOp .neq 32 (.agg #[I a.wfrom, I a.wto]) (.agg #[I b.wfrom, I b.wto])).run Tryz.prog W = .ok (.bool false) W := fun W => by rw [neq_span, h.wfrom, h.wto]; simp
  have h32a : (refCells a.ref).length = 32 := by simp [refCells, h.len]
  have h32b : (refCells b.ref).length = 32 := by simp [refCells, hlb]
  have HDIA : Hid ((Tryz.prog.info? 34).map (·.size) = some (refCells a.ref).length) := Lib.hid (by rw [h32a]; kernel_rfl)
  have HDIB : Hid ((Tryz.prog.info? 34).map (·.size) = some (refCells b.ref).length) := Lib.hid (by rw [h32b]; kernel_rfl)
  have HDA : Hid (World.rangeAt _ w.heap.size 30 (refCells a.ref)) := Lib.hid fun j v hv => (HRA.out.2 (30 + j)).trans ((lt_getRef a _ _ _ j).trans hv)
  have HDB : Hid (World.rangeAt _ (w.heap.size + 1) 30 (refCells b.ref)) := Lib.hid fun j v hv => (HRB.out.2 (30 + j)).trans ((lt_getRef b _ _ _ j).trans hv)
  have HLA := Lib.hid h.len
  have HLB := Lib.hid hlb
  clear hc hs h h32a h32b hlb
  go_enter Tryz.func9, Tryz.ntmps9
  go_wp2_with (first
    | (with_reducible refine g_load 34 ?_; refine wpList_load_at rfl _ _ rfl w.heap.size 30 rfl (refCells a.ref) HDA.out _ Tryz.underlying34 rfl HDIA.out ?_)
    | (with_reducible refine g_load 34 ?_; refine wpList_load_at rfl _ _ rfl (w.heap.size + 1) 30 rfl (refCells b.ref) HDB.out _ Tryz.underlying34 rfl HDIB.out ?_))
  have HT0 := Lib.hid (TwoLt.mk HRA.out HRB.out HB0.out)
  obtain ⟨W0, hW0⟩ : ∃ W, (w.alloc (.cells (ltVal a s) 36)).alloc (.cells (ltVal b t) 36) = W := ⟨_, rfl⟩
  rw [hW0] at HT0 ⊢
  clear hW0 HRA HRB HB0 HDA HDB
  go_loopw [5] (fun i wr => ∃ k : Nat, k ≤ 17 ∧ i = I k ∧ TwoLt w a b s t wr ∧ ∀ j, j < k → ((numOff j).isNone || (numF a j == numF b j)) = true) (fun i _ => 17 - (intOf i).toNat)
  case atStart => exact ⟨0, Nat.zero_le _, rfl, HT0.out, fun j hj => absurd hj (Nat.not_lt_zero _)⟩
  case round =>
    obtain ⟨k, hk, rfl, hS, hall⟩ := hrel
    have HS := Lib.hid hS
    have HALL := Lib.hid hall
    clear hS hall HT0
    by_cases hlt : (k : Int) < 17
    · have hk17 : k < 17 := by omega
      obtain ⟨u, hu⟩ : ∃ u, numB k = u := ⟨_, rfl⟩
      have HU := Lib.hid hu
      clear hu
      cases u with
      | false =>
        go_wp2_with fail
        have hS1 := HS.out.drew
        refine wp_region_held_drew (S := TwoLt w a b s t) (by kernel_rfl) hS1 (fun hH0 => ?_)
        refine wpAnyH_take_dst (i := 0) (v := ?v0q2) (d := 50) rfl rfl (by kernel_rfl) (by kernel_rfl) (by kernel_rfl) (fun _ _ _ h => h) (Or.inl ⟨by rfl, ?hy0q2⟩) (by assumption) ?r0q2
        case hy0q2 => intro w' hSw; first | (go_simp; done) | (go_simp; with_reducible rfl)
        try simp only [Act.put, List.setIfInBounds_toArray, List.set_cons_zero, List.set_cons_succ]
        refine wpAnyH_ready (rs := [1]) (by kernel_rfl) (by simp) ?_
        refine AllReadyH.cons rfl (fun K hK => ?_) AllReadyH.nil
        go_simp
        refine (numeric_any k _).mono ?_
        rintro x w2 ⟨rfl, hw2⟩
        subst hw2
        rw [HU.out]
        refine hK.out _ _ hS1 (fun hHeld => ?_)
        clear hHeld
        clear hK K
        try simp only [Act.put, List.setIfInBounds_toArray, List.set_cons_zero, List.set_cons_succ]
        refine wpAnyH_take_dst (i := 2) (v := ?v2q2) (d := 52) rfl rfl (by kernel_rfl) (by kernel_rfl) (by kernel_rfl) (fun _ _ _ h => h) (Or.inl ⟨by rfl, ?hy2q2⟩) (by assumption) ?r2q2
        case hy2q2 => intro w' hSw; first | (go_simp; done) | (go_simp; with_reducible rfl)
        try simp only [Act.put, List.setIfInBounds_toArray, List.set_cons_zero, List.set_cons_succ]
        refine wpAnyH_take_dst (i := 3) (v := undef) (d := 53) rfl rfl (by kernel_rfl) (by kernel_rfl) (by kernel_rfl) (fun _ _ _ h => h) (Or.inr ⟨by rfl, rfl⟩) (by assumption) ?r3q2
        try simp only [Act.put, List.setIfInBounds_toArray, List.set_cons_zero, List.set_cons_succ]
        refine wpAnyH_take_dst (i := 4) (v := undef) (d := 54) rfl rfl (by kernel_rfl) (by kernel_rfl) (by kernel_rfl) (fun _ _ _ h => h) (Or.inr ⟨by rfl, rfl⟩) (by assumption) ?r4q2
        try simp only [Act.put, List.setIfInBounds_toArray, List.set_cons_zero, List.set_cons_succ]
        refine wpAnyH_take_dst (i := 5) (v := undef) (d := 55) rfl rfl (by kernel_rfl) (by kernel_rfl) (by kernel_rfl) (fun _ _ _ h => h) (Or.inr ⟨by rfl, rfl⟩) (by assumption) ?r5q2
        try simp only [Act.put, List.setIfInBounds_toArray, List.set_cons_zero, List.set_cons_succ]
        refine wpAnyH_take_dst (i := 6) (v := undef) (d := 56) rfl rfl (by kernel_rfl) (by kernel_rfl) (by kernel_rfl) (fun _ _ _ h => h) (Or.inr ⟨by rfl, rfl⟩) (by assumption) ?r6q2
        try simp only [Act.put, List.setIfInBounds_toArray, List.set_cons_zero, List.set_cons_succ]
        refine wpAnyH_take_dst (i := 7) (v := undef) (d := 57) rfl rfl (by kernel_rfl) (by kernel_rfl) (by kernel_rfl) (fun _ _ _ h => h) (Or.inr ⟨by rfl, rfl⟩) (by assumption) ?r7q2
        try simp only [Act.put, List.setIfInBounds_toArray, List.set_cons_zero, List.set_cons_succ]
        refine wpAnyH_take_dst (i := 8) (v := undef) (d := 58) rfl rfl (by kernel_rfl) (by kernel_rfl) (by kernel_rfl) (fun _ _ _ h => h) (Or.inr ⟨by rfl, rfl⟩) (by assumption) ?r8q2
        try simp only [Act.put, List.setIfInBounds_toArray, List.set_cons_zero, List.set_cons_succ]
        refine wpAnyH_take_dst (i := 9) (v := undef) (d := 59) rfl rfl (by kernel_rfl) (by kernel_rfl) (by kernel_rfl) (fun _ _ _ h => h) (Or.inr ⟨by rfl, rfl⟩) (by assumption) ?r9q2
        try simp only [Act.put, List.setIfInBounds_toArray, List.set_cons_zero, List.set_cons_succ]
        refine wpAnyH_take_dst (i := 10) (v := ?v10q2) (d := 60) rfl rfl (by kernel_rfl) (by kernel_rfl) (by kernel_rfl) (fun _ _ _ h => h) (Or.inl ⟨by rfl, ?hy10q2⟩) (by assumption) ?r10q2
        case hy10q2 => intro w' hSw; first | (go_simp; done) | (go_simp; with_reducible rfl)
        try simp only [Act.put, List.setIfInBounds_toArray, List.set_cons_zero, List.set_cons_succ]
        refine wpAnyH_done (by kernel_rfl) ?_ _
        clear hH0
        go_wp2_with fail
        go_roundw
        case rel => exact ⟨k + 1, by omega, by go_num, hS1, fun j hj => by
            by_cases e : j = k
            · subst e
              have h1 := numB_off j hk17
              rw [HU.out] at h1
              cases h2 : numOff j with
              | none => rfl
              | some o => rw [h2] at h1; cases h1
            · exact HALL.out j (by omega)⟩
        case measure => simp [intOf]; omega
      | true =>
        obtain ⟨v, hv⟩ : ∃ v, (numF a k == numF b k) = v := ⟨_, rfl⟩
        have HV := Lib.hid hv
        have hv' : (numF a k != numF b k) = !v := by rw [← hv]; rfl
        clear hv
        cases v with
        | true =>
          go_wp2_with fail
          have hS1 := HS.out.drew
          refine wp_region_held_drew (S := TwoLt w a b s t) (by kernel_rfl) hS1 (fun hH0 => ?_)
          refine wpAnyH_take_dst (i := 0) (v := ?v0q3) (d := 50) rfl rfl (by kernel_rfl) (by kernel_rfl) (by kernel_rfl) (fun _ _ _ h => h) (Or.inl ⟨by rfl, ?hy0q3⟩) (by assumption) ?r0q3
          case hy0q3 => intro w' hSw; first | (go_simp; done) | (go_simp; with_reducible rfl)
          try simp only [Act.put, List.setIfInBounds_toArray, List.set_cons_zero, List.set_cons_succ]
          refine wpAnyH_ready (rs := [1]) (by kernel_rfl) (by simp) ?_
          refine AllReadyH.cons rfl (fun K hK => ?_) AllReadyH.nil
          go_simp
          refine (numeric_any k _).mono ?_
          rintro x w2 ⟨rfl, hw2⟩
          subst hw2
          rw [HU.out]
          refine hK.out _ _ hS1 (fun hHeld => ?_)
          clear hHeld
          clear hK K
          try simp only [Act.put, List.setIfInBounds_toArray, List.set_cons_zero, List.set_cons_succ]
          refine wpAnyH_take_dst (i := 2) (v := ?v2q3) (d := 52) rfl rfl (by kernel_rfl) (by kernel_rfl) (by kernel_rfl) (fun _ _ _ h => h) (Or.inl ⟨by rfl, ?hy2q3⟩) (by assumption) ?r2q3
          case hy2q3 => intro w' hSw; first | (go_simp; done) | (go_simp; with_reducible rfl)
          try simp only [Act.put, List.setIfInBounds_toArray, List.set_cons_zero, List.set_cons_succ]
          refine wpAnyH_take_dst (i := 3) (v := _) (d := 53) rfl rfl (by kernel_rfl) (by kernel_rfl) (by kernel_rfl) (fun _ _ _ h => h) (yieldsIf_load_Row (by rfl) _ _ rfl w.heap.size rfl (ltVal a s) _ (fun w' h => h.ra) Tryz.underlying36 rfl (size62 _ _ HLA.out)) (by assumption) ?r3q3
          try simp only [Act.put, List.setIfInBounds_toArray, List.set_cons_zero, List.set_cons_succ]
          refine wpAnyH_take_dst (i := 4) (v := ?v4q3) (d := 54) rfl rfl (by kernel_rfl) (by kernel_rfl) (by kernel_rfl) (fun _ _ _ h => h) (Or.inl ⟨by rfl, ?hy4q3⟩) (by assumption) ?r4q3
          case hy4q3 => intro w' hSw; first | (go_simp; done) | (go_simp; with_reducible rfl)
          try simp only [Act.put, List.setIfInBounds_toArray, List.set_cons_zero, List.set_cons_succ]
          refine wpAnyH_take_dst (i := 6) (v := _) (d := 56) rfl rfl (by kernel_rfl) (by kernel_rfl) (by kernel_rfl) (fun _ _ _ h => h) (yieldsIf_load_Row (by rfl) _ _ rfl (w.heap.size + 1) rfl (ltVal b t) _ (fun w' h => h.rb) Tryz.underlying36 rfl (size62 _ _ HLB.out)) (by assumption) ?r6q3
          try simp only [Act.put, List.setIfInBounds_toArray, List.set_cons_zero, List.set_cons_succ]
          refine wpAnyH_take_dst (i := 7) (v := ?v7q3) (d := 57) rfl rfl (by kernel_rfl) (by kernel_rfl) (by kernel_rfl) (fun _ _ _ h => h) (Or.inl ⟨by rfl, ?hy7q3⟩) (by assumption) ?r7q3
          case hy7q3 => intro w' hSw; first | (go_simp; done) | (go_simp; with_reducible rfl)
          try simp only [Act.put, List.setIfInBounds_toArray, List.set_cons_zero, List.set_cons_succ]
          refine wpAnyH_ready (rs := [5]) (by kernel_rfl) (by simp) ?_
          refine AllReadyH.cons rfl (fun K hK => ?_) AllReadyH.nil
          go_simp
          refine (refNumber_any a s k hk17 HU.out _).mono ?_
          rintro x w3 ⟨rfl, hb3⟩
          have hS3 := hS1.below hb3
          clear hb3
          refine hK.out _ _ hS3 (fun hHeld => ?_)
          clear hHeld
          clear hK K
          try simp only [Act.put, List.setIfInBounds_toArray, List.set_cons_zero, List.set_cons_succ]
          refine wpAnyH_ready (rs := [8]) (by kernel_rfl) (by simp) ?_
          refine AllReadyH.cons rfl (fun K hK => ?_) AllReadyH.nil
          go_simp
          refine (refNumber_any b t k hk17 HU.out _).mono ?_
          rintro x w4 ⟨rfl, hb4⟩
          have hS4 := hS3.below hb4
          clear hb4
          refine hK.out _ _ hS4 (fun hHeld => ?_)
          clear hHeld
          clear hK K
          try simp only [Act.put, List.setIfInBounds_toArray, List.set_cons_zero, List.set_cons_succ]
          refine wpAnyH_take_dst (i := 9) (v := ?v9q3) (d := 59) rfl rfl (by kernel_rfl) (by kernel_rfl) (by kernel_rfl) (fun _ _ _ h => h) (Or.inl ⟨by rfl, ?hy9q3⟩) (by assumption) ?r9q3
          case hy9q3 => intro w' hSw; first | (go_simp; done) | (go_simp; with_reducible rfl)
          try simp only [Act.put, List.setIfInBounds_toArray, List.set_cons_zero, List.set_cons_succ]
          refine wpAnyH_take_dst (i := 10) (v := ?v10q3) (d := 60) rfl rfl (by kernel_rfl) (by kernel_rfl) (by kernel_rfl) (fun _ _ _ h => h) (Or.inl ⟨by rfl, ?hy10q3⟩) (by assumption) ?r10q3
          case hy10q3 => intro w' hSw; first | (go_simp; done) | (go_simp; with_reducible rfl)
          try simp only [Act.put, List.setIfInBounds_toArray, List.set_cons_zero, List.set_cons_succ]
          refine wpAnyH_done (by kernel_rfl) ?_ _
          clear hH0
          go_wp2_with fail
          go_roundw
          case rel => exact ⟨k + 1, by omega, by go_num, hS4, fun j hj => by
            by_cases e : j = k
            · subst e; rw [HV.out, Bool.or_true]
            · exact HALL.out j (by omega)⟩
          case measure => simp [intOf]; omega
        | false =>
          go_wp2_with fail
          have hS1 := HS.out.drew
          refine wp_region_held_drew (S := TwoLt w a b s t) (by kernel_rfl) hS1 (fun hH0 => ?_)
          refine wpAnyH_take_dst (i := 0) (v := ?v0q4) (d := 50) rfl rfl (by kernel_rfl) (by kernel_rfl) (by kernel_rfl) (fun _ _ _ h => h) (Or.inl ⟨by rfl, ?hy0q4⟩) (by assumption) ?r0q4
          case hy0q4 => intro w' hSw; first | (go_simp; done) | (go_simp; with_reducible rfl)
          try simp only [Act.put, List.setIfInBounds_toArray, List.set_cons_zero, List.set_cons_succ]
          refine wpAnyH_ready (rs := [1]) (by kernel_rfl) (by simp) ?_
          refine AllReadyH.cons rfl (fun K hK => ?_) AllReadyH.nil
          go_simp
          refine (numeric_any k _).mono ?_
          rintro x w2 ⟨rfl, hw2⟩
          subst hw2
          rw [HU.out]
          refine hK.out _ _ hS1 (fun hHeld => ?_)
          clear hHeld
          clear hK K
          try simp only [Act.put, List.setIfInBounds_toArray, List.set_cons_zero, List.set_cons_succ]
          refine wpAnyH_take_dst (i := 2) (v := ?v2q4) (d := 52) rfl rfl (by kernel_rfl) (by kernel_rfl) (by kernel_rfl) (fun _ _ _ h => h) (Or.inl ⟨by rfl, ?hy2q4⟩) (by assumption) ?r2q4
          case hy2q4 => intro w' hSw; first | (go_simp; done) | (go_simp; with_reducible rfl)
          try simp only [Act.put, List.setIfInBounds_toArray, List.set_cons_zero, List.set_cons_succ]
          refine wpAnyH_take_dst (i := 3) (v := _) (d := 53) rfl rfl (by kernel_rfl) (by kernel_rfl) (by kernel_rfl) (fun _ _ _ h => h) (yieldsIf_load_Row (by rfl) _ _ rfl w.heap.size rfl (ltVal a s) _ (fun w' h => h.ra) Tryz.underlying36 rfl (size62 _ _ HLA.out)) (by assumption) ?r3q4
          try simp only [Act.put, List.setIfInBounds_toArray, List.set_cons_zero, List.set_cons_succ]
          refine wpAnyH_take_dst (i := 4) (v := ?v4q4) (d := 54) rfl rfl (by kernel_rfl) (by kernel_rfl) (by kernel_rfl) (fun _ _ _ h => h) (Or.inl ⟨by rfl, ?hy4q4⟩) (by assumption) ?r4q4
          case hy4q4 => intro w' hSw; first | (go_simp; done) | (go_simp; with_reducible rfl)
          try simp only [Act.put, List.setIfInBounds_toArray, List.set_cons_zero, List.set_cons_succ]
          refine wpAnyH_take_dst (i := 6) (v := _) (d := 56) rfl rfl (by kernel_rfl) (by kernel_rfl) (by kernel_rfl) (fun _ _ _ h => h) (yieldsIf_load_Row (by rfl) _ _ rfl (w.heap.size + 1) rfl (ltVal b t) _ (fun w' h => h.rb) Tryz.underlying36 rfl (size62 _ _ HLB.out)) (by assumption) ?r6q4
          try simp only [Act.put, List.setIfInBounds_toArray, List.set_cons_zero, List.set_cons_succ]
          refine wpAnyH_take_dst (i := 7) (v := ?v7q4) (d := 57) rfl rfl (by kernel_rfl) (by kernel_rfl) (by kernel_rfl) (fun _ _ _ h => h) (Or.inl ⟨by rfl, ?hy7q4⟩) (by assumption) ?r7q4
          case hy7q4 => intro w' hSw; first | (go_simp; done) | (go_simp; with_reducible rfl)
          try simp only [Act.put, List.setIfInBounds_toArray, List.set_cons_zero, List.set_cons_succ]
          refine wpAnyH_ready (rs := [5]) (by kernel_rfl) (by simp) ?_
          refine AllReadyH.cons rfl (fun K hK => ?_) AllReadyH.nil
          go_simp
          refine (refNumber_any a s k hk17 HU.out _).mono ?_
          rintro x w3 ⟨rfl, hb3⟩
          have hS3 := hS1.below hb3
          clear hb3
          refine hK.out _ _ hS3 (fun hHeld => ?_)
          clear hHeld
          clear hK K
          try simp only [Act.put, List.setIfInBounds_toArray, List.set_cons_zero, List.set_cons_succ]
          refine wpAnyH_ready (rs := [8]) (by kernel_rfl) (by simp) ?_
          refine AllReadyH.cons rfl (fun K hK => ?_) AllReadyH.nil
          go_simp
          refine (refNumber_any b t k hk17 HU.out _).mono ?_
          rintro x w4 ⟨rfl, hb4⟩
          have hS4 := hS3.below hb4
          clear hb4
          refine hK.out _ _ hS4 (fun hHeld => ?_)
          clear hHeld
          clear hK K
          try simp only [Act.put, List.setIfInBounds_toArray, List.set_cons_zero, List.set_cons_succ]
          refine wpAnyH_take_dst (i := 9) (v := ?v9q4) (d := 59) rfl rfl (by kernel_rfl) (by kernel_rfl) (by kernel_rfl) (fun _ _ _ h => h) (Or.inl ⟨by rfl, ?hy9q4⟩) (by assumption) ?r9q4
          case hy9q4 => intro w' hSw; first | (go_simp; done) | (go_simp; with_reducible rfl)
          try simp only [Act.put, List.setIfInBounds_toArray, List.set_cons_zero, List.set_cons_succ]
          refine wpAnyH_take_dst (i := 10) (v := ?v10q4) (d := 60) rfl rfl (by kernel_rfl) (by kernel_rfl) (by kernel_rfl) (fun _ _ _ h => h) (Or.inl ⟨by rfl, ?hy10q4⟩) (by assumption) ?r10q4
          case hy10q4 => intro w' hSw; first | (go_simp; done) | (go_simp; with_reducible rfl)
          try simp only [Act.put, List.setIfInBounds_toArray, List.set_cons_zero, List.set_cons_succ]
          refine wpAnyH_done (by kernel_rfl) ?_ _
          clear hH0
          go_wp2_with fail
          go_ret
          have h1 := numB_off k hk17
          rw [HU.out] at h1
          obtain ⟨o, ho⟩ := Option.isSome_iff_exists.1 h1.symm
          rw [numsEq_no hk17 ho HV.out]
          exact ⟨rfl, hS4.lo⟩
    · have hk17 : k = 17 := by omega
      subst hk17
      have hcells : a.cells.length = a.cells.length := rfl
      have fa : ∀ i, wr.cell? ⟨w.heap.size, i, none⟩ = (ltVal a s)[i]? := HS.out.ra.2
      have fb : ∀ i, wr.cell? ⟨w.heap.size + 1, i, none⟩ = (ltVal b t)[i]? := HS.out.rb.2
      go_wp2_with fail
      refine (HC.out _ HS.out.lo).mono ?_
      rintro x w1 ⟨rfl, hb1⟩
      have HS1 := Lib.hid (HS.out.below hb1)
      clear fa fb hb1
      have fa : ∀ i, w1.cell? ⟨w.heap.size, i, none⟩ = (ltVal a s)[i]? := HS1.out.ra.2
      have fb : ∀ i, w1.cell? ⟨w.heap.size + 1, i, none⟩ = (ltVal b t)[i]? := HS1.out.rb.2
      go_wp2_with fail
      refine (HSR.out _ HS1.out.lo).mono ?_
      rintro x w2 ⟨rfl, hb2⟩
      have HS2 := Lib.hid (HS1.out.below hb2)
      clear fa fb hb2
      go_wp2_with fail
      go_ret
      rw [numsEq_yes HALL.out]
      exact ⟨rfl, HS2.out.lo⟩
end Go.Proofs.YtpgagfmpikhpkaaGreatDoor

/- The letters' functions at a letter that was made and its neighbour with another number: Same, kalendsref20.Same; Valid, Bytes, Ref where the number is not used; kalendsref20.Mod. -/
namespace Go.Proofs.YtpgagfmpikhpkaaGreatDoor
open Go Go.RowKit

theorem LtMem.grow {lo : Nat} {w w' : World} {l : Lt} {s : Sl} {ns : List NdV} (h : LtMem lo w l s ns) (hb : Below w.heap.size w w') (hlo : 0 < lo) : LtMem lo w' l s ns := h.mkeep (MKeep.of_below (mb := 0) hb) hlo
theorem sameL_num (l : Lt) (s : Sl) (ns : List NdV) (lo k : Nat) (x : Int) (W : World) (hm : MadeLt l ns) (mem : LtMem lo W l s ns) (hlo : 0 < lo) :
    Calls Tryz.prog 10 #[.agg (ltVal l s), .agg (ltVal (setNum l k x) s)] W (Gives (.bool (numsEq l (setNum l k x))) W) := by
  have hl := hm.lens
  have h := same_any l (setNum l k x) s s W hm.ok (hm.ok.num k x) true true true
    (fun w' hb => by
      have m' := mem.grow hb hlo
      have := eqInts_any s.C s.C s.e s.e l.cells l.cells w' m'.ints m'.ints (by omega)
      rw [beq_self_eq_true] at this
      rw [setNum_cellsL]; exact this)
    (fun w' hb => by
      have m' := mem.grow hb hlo
      rw [setNum_series]
      exact eqMoves_eq s.B s.B s.d s.d l.series.moves w' m'.mvs m'.mvs (by omega) _ rfl)
    (fun w' hb => by
      have m' := mem.grow hb hlo
      rw [setNum_series]
      exact eqRule_eq s.A s.A s.c s.c ns ns w' rfl (m'.rules hl.2.2.2) (m'.rules hl.2.2.2) (by have h1 := hl.1; rw [mem.names, List.length_map] at h1; omega) _ (by rw [mem.names, List.length_map]))
  rw [headEq_num, setNum_series, serEq_same] at h
  simpa using h
theorem refSame_num (l : Lt) (s : Sl) (ns : List NdV) (lo k : Nat) (x : Int) (W : World) (hm : MadeLt l ns) (mem : LtMem lo W l s ns) (hlo : 0 < lo) :
    Calls Tryz.prog 9 #[.agg (ltVal l s), .agg (ltVal (setNum l k x) s)] W (Gives (.bool (numsEq l (setNum l k x))) W) := by
  have hl := hm.lens
  refine refSame_twin l (setNum l k x) s s W ⟨(setNum_kind _ _ _).symm, (setNum_src _ _ _).symm, (setNum_dst _ _ _).symm, (setNum_move _ _ _).symm, (setNum_wfrom _ _ _).symm, (setNum_wto _ _ _).symm, (setNum_ref _ _ _).symm, (setNum_cellsL _ _ _).symm, (setNum_series _ _ _).symm, hm.ref⟩
    (fun w' hb => ?_) (fun w' hb => ?_)
  · have m' := mem.grow hb hlo
    have := sameInts_any s.C s.C s.e s.e l.cells l.cells w' m'.ints m'.ints (by omega)
    rw [beq_self_eq_true] at this
    rw [setNum_cellsL]; exact this
  · have m' := mem.grow hb hlo
    rw [setNum_series]
    exact refSeries_eq l.series s.A s.A s.B s.B s.c s.c s.d s.d ns ns w' mem.names mem.names (m'.rules hl.2.2.2) (m'.rules hl.2.2.2) m'.mvs m'.mvs (by omega) (by omega)
theorem valid_bad (m : Lt) (s : Sl) (W : World) (hok : LtOK m) (hi : IntsAt W W.heap.size s.C m.cells) (hh : headOK m = true) (hb : bodyOK m = false) : Calls Tryz.prog 13 #[.agg (ltVal m s)] W (Gives (I 1) W) := by
  have h := valid_nos m s W hok hi hh (fun h => by rw [hb] at h; cases h)
  have e : vCode m 0 = 1 := by unfold vCode; rw [hh, hb]; rfl
  rw [e] at h
  exact h
theorem bytes_bad (m : Lt) (s : Sl) (W : World) (hok : LtOK m) (hi : IntsAt W W.heap.size s.C m.cells) (hh : headOK m = true) (hb : bodyOK m = false) : Calls Tryz.prog 11 #[.agg (ltVal m s)] W (Gives (.tuple #[.slice none 0 0, I 1]) W) :=
  (bytes_no m s [] W 1 hok.ref rfl (fun w' hb' => valid_bad m s w' hok ((hi.keep hb').more hb'.size) hh hb)).mono fun _ _ h => ⟨h.1, h.2⟩
def zDig : Array Value := (refCells zero32).toArray
theorem zDig_info : (Tryz.prog.info? 34).map (fun i => (i.zero, i.size)) = some (some (.agg zDig), zDig.size) := by kernel_rfl
theorem zDig_size : (Tryz.prog.info? 34).map (·.size) = some zDig.size := by kernel_rfl
theorem zDig_built : Tryz.prog.built 34 [] = some zDig := by kernel_rfl
theorem zDig_one : zDig.all (·.oneCell') = true := by kernel_rfl
set_option maxRecDepth 10000 in
set_option maxHeartbeats 2000000 in
theorem ref_bad (m : Lt) (s : Sl) (W : World) (hr : m.ref.length = 32) (hby : ∀ w', Below W.heap.size W w' → Calls Tryz.prog 11 #[.agg (ltVal m s)] w' (Gives (.tuple #[.slice none 0 0, I 1]) w')) :
    Calls Tryz.prog 12 #[.agg (ltVal m s)] W (Gives (.tuple #[.agg zDig, I 1]) W) := by
  have HR0 := Lib.hid ((Row.new W (ltVal m s) 36).keep (below_var _ (.cells zDig 34)))
  have HB0 := Lib.hid (below_trans (below_var W (.cells (ltVal m s) 36)) (below_var _ (.cells zDig 34)))
  have HRES := Lib.hid (heap_alloc2_new W (.cells (ltVal m s) 36) (.cells zDig 34))
  have HV := Lib.hid hby
  have HR := Lib.hid hr
  clear hby hr
  go_enter Tryz.func12, Tryz.ntmps12
  go_wp2_with (first
    | (with_reducible refine g_alloc 34 ?_; refine wpList_alloc_as rfl _ rfl zDig zDig_info ?_)
    | (with_reducible refine g_load 36 ?_; refine wpList_load_Row rfl _ _ rfl W.heap.size rfl (ltVal m s) HR0.out _ Tryz.underlying36 rfl (size62 _ _ HR.out) ?_))
  refine (HV.out _ HB0.out).mono ?_
  rintro e w1 ⟨rfl, hb1⟩
  have HB1 := Lib.hid (below_trans HB0.out hb1)
  have HRES1 := Lib.hid ((hb1.block _ (by simp)).trans HRES.out)
  clear hb1 HRES
  go_wp2_with (first
    | (with_reducible refine at_build 34 ?_; refine wpList_build_as rfl _ rfl zDig (by exact zDig_built) ?_)
    | (with_reducible refine g_store 34 ?_; refine wpList_store_row rfl _ _ _ rfl (W.heap.size + 1) zDig rfl rfl 34 zDig HRES1.out zDig_size rfl zDig_one ?_))
  refine bodyPost_ret (v := .tuple #[.agg zDig, I 1]) (results_row_tmp rfl _ _ (W.heap.size + 1) _ zDig (0, 0) _ rfl (setRow_heap _ _ _ _ _ _ HRES1.out) Tryz.underlying34 rfl zDig_size _ rfl) rfl ?_
  exact ⟨rfl, below_setRow HB1.out (Nat.le_succ _) _⟩
set_option maxRecDepth 10000 in
theorem refMod_any (a b : Int) (w : World) (hb : 0 < b) (hb2 : b ≤ 1000000000000000000) (ha : fits a) : Calls Tryz.prog 6 #[I a, I b] w fun e w' => e = .returned (I (a % b)) ∧ w' = w := by
  have HM := Lib.hid (mod_any a b w hb hb2 ha)
  clear ha hb hb2
  go_enter Tryz.func6, Tryz.ntmps6
  go_wp2_with fail
  refine HM.out.mono ?_
  rintro e w1 ⟨rfl, rfl⟩
  go_wp2_with fail
  go_ret
  exact ⟨rfl, rfl⟩
end Go.Proofs.YtpgagfmpikhpkaaGreatDoor
