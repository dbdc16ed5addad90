/- kalendsref07.over. -/
import Derived.Test.YtdakcbddlempfaaGreatRuleD
import Derived.Deep.DeepCutAuto
import Derived.Deep.CutBlock
namespace Go.Proofs.YtdakcbddlempfaaGreat
open Go Go.RowKit

theorem grown_mk {lo : Nat} {w w1 : World} {v : Value} (h : w.grownBy w1 v.ownBlock) {e size n : Nat} {xs : List Value} {w0 : World} (hw : Below w0.heap.size w0 w) (hown : w.ownsRow w0.heap.size e size v n xs) : Below w0.heap.size w0 w1 :=
  have _ := lo
  ⟨h.os.trans hw.os, h.tape.trans hw.tape, h.output.trans hw.output, Nat.le_trans hw.size h.size, fun k hk => (h.block k (Nat.lt_of_lt_of_le hk hw.size) (own_ge hown k hk)).trans (hw.block k hk)⟩
theorem ownsRow_base' {w : World} {base base' e size n : Nat} {v : Value} {xs : List Value} (h : w.ownsRow base e size v n xs) (hb : base' ≤ base) : w.ownsRow base' e size v n xs := by
  refine ⟨h.1, ?_⟩
  rcases h.2 with h | ⟨g, cap, cur, rfl, hg, hh⟩
  · exact .inl h
  · exact .inr ⟨g, cap, cur, rfl, Nat.le_trans hb hg, hh⟩
theorem cells_new {w : World} {x : NdV} {t : TypeId} : ∀ j u, (rcells [x])[j]? = some u → (w.alloc (.cells (ndCells x.d x.A x.c) t)).cell? ((⟨w.heap.size, 0, none⟩ : Addr).add j) = some u := by
  intro j u hu
  have hadd : (⟨w.heap.size, 0, none⟩ : Addr).add j = ⟨w.heap.size, j, none⟩ := by unfold Addr.add; split <;> simp_all
  rw [hadd, (Row.new w _ t).2 j]
  rw [rcells_one] at hu
  simpa [NdV.cells] using hu
/-- The new rule: old nodes, then one that uses the last of them. -/
def RuleGot (lo : Nat) (w : World) (ns : List NdV) (e : Ending) (w' : World) : Prop := ∃ v, e = .returned v ∧ RuleIs lo w' v ns ∧ Below w.heap.size w w'
def overN (ns : List NdV) (x : NdV) : List NdV := ns ++ [⟨{ x.d with l := (ns.length : Int) - 1 }, x.A, x.c⟩]
theorem nd_get0 (d : Nd) (A : Option Addr) (c : Nat) : (ndCells d A c)[0]? = some (I d.kind) := rfl
theorem nd_get2 (d : Nd) (A : Option Addr) (c : Nat) : (ndCells d A c)[2]? = some (I d.l) := rfl
theorem nd_get3 (d : Nd) (A : Option Addr) (c : Nat) : (ndCells d A c)[3]? = some (I d.r) := rfl
attribute [local go_sem] nd_get0 nd_get2 nd_get3
theorem addr_add (g j : Nat) : (⟨g, 0, none⟩ : Addr).add j = ⟨g, j, none⟩ := by unfold Addr.add; split <;> simp_all
set_option maxRecDepth 10000 in
set_option maxHeartbeats 1000000 in
theorem over_any (lo : Nat) (w : World) (v : Value) (ns : List NdV) (x : NdV) (hr : RuleIs lo w v ns) (hne : ns ≠ []) (hl : LI lo w x.A x.d.list) (hn : ns.length ≤ 1000) (hlo : lo ≤ w.heap.size) :
    Calls Tryz.prog 95 #[v, .agg (ndCells x.d x.A x.c)] w (RuleGot lo w (overN ns x)) := by
  obtain ⟨g, cap, rfl, hg1, hg2, hcells⟩ := hr.form hne
  have hpos : 0 < ns.length := by cases ns; exact absurd rfl hne; simp
  have HR := Lib.hid hr
  have HL := Lib.hid hl
  have HC := Lib.hid hcells
  clear hr hl hcells
  go_enter Tryz.func95, Tryz.ntmps95
  obtain ⟨y, hy⟩ : ∃ y : NdV, (⟨{ x.d with l := (ns.length : Int) - 1 }, x.A, x.c⟩ : NdV) = y := ⟨_, rfl⟩
  have hyc : (ndCells x.d x.A x.c).setIfInBounds 2 (.int .i64 ((ns.length : Int) - 1)) = ndCells y.d y.A y.c := by rw [← hy]; rfl
  have HOV : Hid (overN ns x = ns ++ [y]) := Lib.hid (by rw [← hy]; rfl)
  have HLY : Hid (LI lo w y.A y.d.list) := Lib.hid (by rw [← hy]; exact HL.out)
  have HBa := Lib.hid (below_trans (below_var w (.cells (ndCells y.d y.A y.c) 87)) (below_var _ (.cells #[] 87)))
  have HOE : Hid (((w.alloc (.cells (ndCells y.d y.A y.c) 87)).alloc (.cells #[] 87)).ownsRow w.heap.size 87 8 (.slice (some ⟨w.heap.size + 1, 0, none⟩) 0 0) ([] : List NdV).length (rcells [])) := Lib.hid (by have := own_empty (w.alloc (.cells (ndCells y.d y.A y.c) 87)) w.heap.size (by simp); rwa [World.size_alloc] at this)
  have HNEW : Hid (∀ j u, (rcells ns)[j]? = some u → ((w.alloc (.cells (ndCells y.d y.A y.c) 87)).alloc (.cells #[] 87)).cell? ((⟨g, 0, none⟩ : Addr).add j) = some u) := Lib.hid (fun j u hu => by rw [addr_add]; exact (HBa.out.cell (p := ⟨g, j, none⟩) hg2).trans (HC.out j u hu))
  go_upto_region 2 with fail
  try rw [hyc]
  clear hyc hy
  go_wp2_with (at_builtin; refine wpList_app_nodes rfl _ _ rfl w.heap.size _ [] rfl HOE.out ⟨g, 0, none⟩ cap ns rfl HNEW.out (by simp; omega) (by simp; omega) ?_)
  intro v1 w1 hown1 hgrow1
  have HB1 := Lib.hid (grown_mk (lo := lo) hgrow1 HBa.out HOE.out)
  have hnb : w1.heap[w.heap.size]? = some (.cells (ndCells y.d y.A y.c) 87 (0, 0)) := (hgrow1.block w.heap.size (by simp; omega) (by simp [Value.ownBlock])).trans (heap_alloc2_old w _ _)
  have HRW : Hid (Row w1 w.heap.size (ndCells y.d y.A y.c)) := Lib.hid ⟨(Array.getElem?_eq_some_iff.1 hnb).1, fun i => cell_of_row w1 _ i _ _ _ hnb⟩
  have HO1 := Lib.hid hown1
  clear hown1 hgrow1 hnb HBa HOE HNEW
  go_wp2_with (first
    | (with_reducible refine g_load 87 ?_; refine wpList_load_Row rfl _ _ rfl w.heap.size rfl (ndCells y.d y.A y.c) HRW.out _ Tryz.underlying87 rfl (nd_size _ _ _) ?_)
    | (with_reducible refine g_bslice 28 ?_; refine wpList_node_slice rfl _ rfl y.d y.A y.c rfl ?_)
    | (at_builtin; refine wpList_app_nodes rfl _ _ rfl w.heap.size _ ([] ++ ns) rfl (HO1.out.alloc _) ⟨w1.heap.size, 0, none⟩ 1 [y] rfl cells_new (by simp; omega) (by have := HB1.out.size; simp; omega) ?_))
  intro v2 w2 hown2 hgrow2
  have HB2 := Lib.hid (grown_mk (lo := lo) hgrow2 (below_trans HB1.out (below_var w1 _)) (HO1.out.alloc _))
  have HO2 := Lib.hid hown2
  clear hown2 hgrow2
  go_wp2_with fail
  go_ret
  refine ⟨v2, rfl, ⟨?_, ?_⟩, HB2.out⟩
  · rw [HOV.out, List.length_append]
    exact ownsRow_base' HO2.out hlo
  · rw [HOV.out]
    intro z hz
    rcases List.mem_append.1 hz with hz | hz
    · exact ((HR.out.lists z hz).of_blocks HB2.out.size fun k _ h2 => HB2.out.block k h2)
    · rw [List.mem_singleton.1 hz]
      exact HLY.out.of_blocks HB2.out.size fun k _ h2 => HB2.out.block k h2
end Go.Proofs.YtdakcbddlempfaaGreat
