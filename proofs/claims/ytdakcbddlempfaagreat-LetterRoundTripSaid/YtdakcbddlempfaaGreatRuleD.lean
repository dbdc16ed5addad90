/- Rules as they lie; kalendsref07.Two and over. -/
import Derived.Test.YtdakcbddlempfaaGreatLeaf
import Derived.Great.BuildSlice
namespace Go.Proofs.YtdakcbddlempfaaGreat
open Go Go.RowKit

structure NdV where
  d : Nd
  A : Option Addr
  c : Nat
def NdV.cells (x : NdV) : List Value := (ndCells x.d x.A x.c).toList
def rcells (ns : List NdV) : List Value := ns.flatMap NdV.cells
theorem NdV.len (x : NdV) : x.cells.length = 8 := rfl
theorem rcells_len (ns : List NdV) : (rcells ns).length = ns.length * 8 := by
  induction ns with
  | nil => rfl
  | cons x ns ih => unfold rcells at ih ⊢; rw [List.flatMap_cons, List.length_append, ih, x.len, List.length_cons]; omega
theorem rcells_app (ns ms : List NdV) : rcells (ns ++ ms) = rcells ns ++ rcells ms := by simp [rcells]
theorem rcells_one (x : NdV) : rcells [x] = x.cells := by simp [rcells]
theorem rcells_ok (ns : List NdV) : ∀ u ∈ rcells ns, u.oneCell' = true := by
  intro u hu
  unfold rcells at hu
  obtain ⟨x, _, hx⟩ := List.mem_flatMap.1 hu
  have := nd_one x.d x.A x.c
  rw [Array.all_eq_true_iff_forall_mem] at this
  exact this u (by simpa [NdV.cells] using hx)
/-- A rule in a row that is not older than block lo, and so its lists. -/
structure RuleIs (lo : Nat) (w : World) (v : Value) (ns : List NdV) : Prop where
  row : w.ownsRow lo 87 8 v ns.length (rcells ns)
  lists : ∀ x ∈ ns, LI lo w x.A x.d.list
theorem ownsRow_blocks {lo e size n : Nat} {w w' : World} {v : Value} {xs : List Value} (h : w.ownsRow lo e size v n xs) (hb : ∀ k, lo ≤ k → k < w.heap.size → w'.heap[k]? = w.heap[k]?) : w'.ownsRow lo e size v n xs := by
  refine ⟨h.1, ?_⟩
  rcases h.2 with h | ⟨g, cap, cur, rfl, hg, hh, hr⟩
  · exact .inl h
  · exact .inr ⟨g, cap, cur, rfl, hg, (hb g hg (Array.getElem?_eq_some_iff.1 hh).1).trans hh, hr⟩
theorem RuleIs.of_blocks {lo : Nat} {w w' : World} {v : Value} {ns : List NdV} (h : RuleIs lo w v ns) (hs : w.heap.size ≤ w'.heap.size) (hb : ∀ k, lo ≤ k → k < w.heap.size → w'.heap[k]? = w.heap[k]?) : RuleIs lo w' v ns :=
  ⟨ownsRow_blocks h.row hb, fun x hx => (h.lists x hx).of_blocks hs hb⟩
theorem RuleIs.below {lo : Nat} {w w' : World} {v : Value} {ns : List NdV} (h : RuleIs lo w v ns) (hb : Below w.heap.size w w') : RuleIs lo w' v ns := h.of_blocks hb.size fun k _ h2 => hb.block k h2
theorem RuleIs.mkeep {lo mb : Nat} {w w' : World} {v : Value} {ns : List NdV} (h : RuleIs lo w v ns) (hk : MKeep mb w w') (hm : mb < lo) : RuleIs lo w' v ns := h.of_blocks hk.size fun k h1 h2 => hk.block k h2 (by omega)
theorem info_node : (Tryz.prog.info? 87).map (fun i => (i.zero, i.size, i.bytes)) = some (some (.agg zNode), 8, 88) := by kernel_rfl
/-- append of nodes to a row of the call's own. -/
theorem wpList_app_nodes {ops : Array Oper} {rest : List Oper} {o : Oper} {a : Act} {Q : Exit → Act → World → Prop} {w : World} (hgd : o.guard = none) (s x : Operand)
    (ho : o.op = .call { callee := .builtin .append, args := #[s, x], argTypes := #[28, 28] }) (base : Nat) (v : Value) (ns : List NdV) (hs : a.eval s = v) (hown : w.ownsRow base 87 8 v ns.length (rcells ns))
    (ad : Addr) (c : Nat) (ms : List NdV) (hx : a.eval x = .slice (some ad) ms.length c) (hnews : ∀ j u, (rcells ms)[j]? = some u → w.cell? (ad.add j) = some u) (hn : ns.length + ms.length ≤ 1000000) (hb : base ≤ w.heap.size)
    (h : ∀ v' w', w'.ownsRow base 87 8 v' (ns ++ ms).length (rcells (ns ++ ms)) → w.grownBy w' v.ownBlock → wpList Tryz.prog ops Q rest (a.put o.dst v') w') :
    wpList Tryz.prog ops Q (o :: rest) a w := by
  obtain ⟨i0, hi, hz0, hz1, hz2⟩ := info_parts info_node
  refine wpList_append_own_at _ hgd s x 28 ho base 87 i0 (.agg zNode) 8 88 Tryz.underlying28 hi hz0 hz1 hz2 rfl (by decide) v ns.length (rcells ns) hs hown ad ms.length c (rcells ms) hx (rcells_len ms) hnews (rcells_ok ms) (by unfold maxLen; omega) (by omega) hb (fun v' w' h1 h2 _ _ => h v' w' (by rw [List.length_append, rcells_app]; exact h1) h2)
/-- A slice literal of one node. -/
theorem wpList_node_slice {ops : Array Oper} {rest : List Oper} {o : Oper} {a : Act} {Q : Exit → Act → World → Prop} {w : World} (hgd : o.guard = none) (x : Operand) (ho : o.op = .buildSlice 28 1 #[(0, x)]) (d : Nd) (A : Option Addr) (c : Nat)
    (hx : a.eval x = .agg (ndCells d A c)) (h : wpList Tryz.prog ops Q rest (a.put o.dst (.slice (some ⟨w.heap.size, 0, none⟩) 1 1)) (w.alloc (.cells (ndCells d A c) 87))) : wpList Tryz.prog ops Q (o :: rest) a w := by
  obtain ⟨i0, hi, hz0, hz1, hz2⟩ := info_parts info_node
  refine wpList_buildSlice hgd 28 87 1 _ ho (ndCells d A c) i0 (.agg zNode) Tryz.underlying28 hi hz0 (by rw [hz1]; decide) (by rw [hz1]; decide) ?_ h
  rw [hz1]
  simp only [List.map_toArray, List.map_cons, List.map_nil, hx]
  kernel_rfl
section
variable {P : Program} {ops : Array Oper} {Q : Exit → Act → World → Prop} {a : Act} {w : World} {rest : List Oper} {d : Option Tmp} {t : TypeId} {pos : String} {af : Array Edge} {g : Option (Nat × Bool)}
theorem g_bslice (ty : TypeId) {n : Nat} {x : Array (Nat × Operand)} (h : wpList P ops Q (⟨d, .buildSlice ty n x, t, pos, af, g⟩ :: rest) a w) : wpList P ops Q (⟨d, .buildSlice ty n x, t, pos, af, g⟩ :: rest) a w := h
end
theorem own_empty (w : World) (lo : Nat) (h : lo ≤ w.heap.size) : (w.alloc (.cells #[] 87)).ownsRow lo 87 8 (.slice (some ⟨w.heap.size, 0, none⟩) 0 0) ([] : List NdV).length (rcells []) :=
  ⟨rfl, .inr ⟨w.heap.size, 0, #[], rfl, h, heap_alloc_last w _, Nat.le_refl _, Nat.zero_le _, rfl, rfl⟩⟩
theorem RuleIs.form {lo : Nat} {w : World} {v : Value} {ns : List NdV} (h : RuleIs lo w v ns) (hn : ns ≠ []) : ∃ g cap, v = .slice (some ⟨g, 0, none⟩) ns.length cap ∧ lo ≤ g ∧ g < w.heap.size ∧ ∀ j u, (rcells ns)[j]? = some u → w.cell? ⟨g, j, none⟩ = some u := by
  obtain ⟨h0, ⟨_, h1⟩ | ⟨g, cap, cur, rfl, hg, hb, h1, h2, h3, h4⟩⟩ := h.row
  · exact absurd (List.eq_nil_of_length_eq_zero h1) hn
  · refine ⟨g, cap, rfl, hg, (Array.getElem?_eq_some_iff.1 hb).1, fun j u hu => ?_⟩
    rw [cell_of_row w g j _ _ _ hb]
    rw [← h4] at hu
    rw [List.getElem?_take] at hu
    split at hu
    · simpa using hu
    · cases hu
def twoB (k : Int) : Bool := (k == 8) || (k == 9) || (k == 10) || (k == 17)
set_option maxRecDepth 10000 in
set_option maxHeartbeats 400000 in
theorem two_any (k : Int) (w : World) : Calls Tryz.prog 92 #[I k] w fun e w' => e = .returned (.bool (twoB k)) ∧ w' = w := by
  unfold twoB
  cases h1 : (k == 8)
  · cases h2 : (k == 9)
    · cases h3 : (k == 10)
      · cases h4 : (k == 17)
        all_goals
          go_enter Tryz.func92, Tryz.ntmps92
          go_wp2
          go_ret
          exact ⟨rfl, rfl⟩
      · go_enter Tryz.func92, Tryz.ntmps92
        go_wp2
        go_ret
        exact ⟨rfl, rfl⟩
    · go_enter Tryz.func92, Tryz.ntmps92
      go_wp2
      go_ret
      exact ⟨rfl, rfl⟩
  · go_enter Tryz.func92, Tryz.ntmps92
    go_wp2
    go_ret
    exact ⟨rfl, rfl⟩
end Go.Proofs.YtdakcbddlempfaaGreat
