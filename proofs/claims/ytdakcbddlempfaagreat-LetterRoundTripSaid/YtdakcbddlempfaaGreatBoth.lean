/- kalendsref07.Both. -/
import Derived.Test.YtdakcbddlempfaaGreatMoved
namespace Go.Proofs.YtdakcbddlempfaaGreat
open Go Go.RowKit

def bothN (ns ms : List NdV) (x : NdV) : List NdV := ns ++ movedN ns.length ms ++ [⟨{ x.d with l := (ns.length : Int) - 1, r := (ns.length : Int) + ms.length - 1 }, x.A, x.c⟩]
theorem own_below {lo e size n : Nat} {w w' : World} {v : Value} {xs : List Value} (h : w.ownsRow lo e size v n xs) (hb : Below w.heap.size w w') : w'.ownsRow lo e size v n xs := ownsRow_blocks h fun k _ h2 => hb.block k h2
attribute [local go_sem] nd_get0 nd_get2 nd_get3
set_option maxRecDepth 10000 in
set_option maxHeartbeats 1000000 in
theorem both_any (lo : Nat) (w : World) (v u : Value) (ns ms : List NdV) (x : NdV) (hr : RuleIs lo w v ns) (hne : ns ≠ []) (hm : RuleIs lo w u ms) (hme : ms ≠ []) (hsm : Small ms) (hl : LI lo w x.A x.d.list) (hn : ns.length ≤ 400) (hn2 : ms.length ≤ 400) (hlo : lo ≤ w.heap.size) :
    Calls Tryz.prog 93 #[v, u, .agg (ndCells x.d x.A x.c)] w (RuleGot lo w (bothN ns ms x)) := by
  obtain ⟨g, cap, rfl, hg1, hg2, hcells⟩ := hr.form hne
  obtain ⟨g', cap', rfl, _, _, _⟩ := hm.form hme
  have hpos : 0 < ns.length := by cases ns; exact absurd rfl hne; simp
  have HR := Lib.hid hr
  have HM := Lib.hid hm
  have HSM := Lib.hid hsm
  have HL := Lib.hid hl
  have HC := Lib.hid hcells
  clear hr hl hcells hm hsm
  go_enter Tryz.func93, Tryz.ntmps93
  obtain ⟨y, hy⟩ : ∃ y : NdV, (⟨{ x.d with l := (ns.length : Int) - 1, r := (ns.length : Int) + ms.length - 1 }, x.A, x.c⟩ : NdV) = y := ⟨_, rfl⟩
  have hyc : ((ndCells x.d x.A x.c).setIfInBounds 2 (.int .i64 ((ns.length : Int) - 1))).setIfInBounds 3 (.int .i64 ((ns.length : Int) + (ms.length : Int) - 1)) = ndCells y.d y.A y.c := by rw [← hy]; rfl
  have HOV : Hid (bothN ns ms x = ns ++ movedN ns.length ms ++ [y]) := Lib.hid (by rw [← hy]; rfl)
  have HLY : Hid (LI lo w y.A y.d.list) := Lib.hid (by rw [← hy]; exact HL.out)
  have HBa := Lib.hid (below_trans (below_var w (.cells (ndCells y.d y.A y.c) 87)) (below_var _ (.cells #[] 87)))
  have HOE : Hid (((w.alloc (.cells (ndCells y.d y.A y.c) 87)).alloc (.cells #[] 87)).ownsRow (w.heap.size + 1) 87 8 (.slice (some ⟨w.heap.size + 1, 0, none⟩) 0 0) ([] : List NdV).length (rcells [])) := Lib.hid (by have := own_empty (w.alloc (.cells (ndCells y.d y.A y.c) 87)) (w.heap.size + 1) (by simp); rwa [World.size_alloc] at this)
  have HNEW : Hid (∀ j u, (rcells ns)[j]? = some u → ((w.alloc (.cells (ndCells y.d y.A y.c) 87)).alloc (.cells #[] 87)).cell? ((⟨g, 0, none⟩ : Addr).add j) = some u) := Lib.hid (fun j u hu => by rw [addr_add]; exact (HBa.out.cell (p := ⟨g, j, none⟩) hg2).trans (HC.out j u hu))
  have g3 : ((ndCells x.d x.A x.c).setIfInBounds 2 (.int .i64 ((ns.length : Int) - 1)))[3]? = some (I x.d.r) := rfl
  go_upto_region 3 with fail
  try rw [hyc]
  clear hyc hy g3
  go_wp2_with (at_builtin; refine wpList_app_nodes rfl _ _ rfl (w.heap.size + 1) _ [] rfl HOE.out ⟨g, 0, none⟩ cap ns rfl HNEW.out (by simp; omega) (by simp) ?_)
  intro v1 w1 hown1 hgrow1
  have HB1 := Lib.hid (grown_mk (lo := lo) hgrow1 HBa.out (ownsRow_base' HOE.out (Nat.le_succ _)))
  have hnb : w1.heap[w.heap.size]? = some (.cells (ndCells y.d y.A y.c) 87 (0, 0)) := (hgrow1.block w.heap.size (by simp; omega) (by simp [Value.ownBlock])).trans (heap_alloc2_old w _ _)
  have HRW : Hid (Row w1 w.heap.size (ndCells y.d y.A y.c)) := Lib.hid ⟨(Array.getElem?_eq_some_iff.1 hnb).1, fun i => cell_of_row w1 _ i _ _ _ hnb⟩
  have HO1 : Hid (w1.ownsRow (w.heap.size + 1) 87 8 v1 ns.length (rcells ns)) := Lib.hid hown1
  clear hown1 hgrow1 hnb HBa HOE HNEW
  go_wp2_with fail
  refine (moved_any lo w1 _ ms ns.length (HM.out.below HB1.out) hme (by omega) (Nat.le_trans hlo HB1.out.size) HSM.out (by omega) (by omega)).mono ?_
  rintro e w2 ⟨u2, rfl, hm2, hb2⟩
  have hmn : movedN ns.length ms ≠ [] := by unfold movedN; intro e; exact hme (List.map_eq_nil_iff.1 e)
  have hml : (movedN ns.length ms).length = ms.length := by unfold movedN; simp
  obtain ⟨g2, cap2, rfl, _, _, hc2⟩ := hm2.form hmn
  have HB2 := Lib.hid (below_trans HB1.out hb2)
  have HRW2 := Lib.hid (HRW.out.keep hb2)
  have HO2 := Lib.hid (own_below HO1.out hb2)
  have HN2 : Hid (∀ j u, (rcells (movedN ns.length ms))[j]? = some u → w2.cell? ((⟨g2, 0, none⟩ : Addr).add j) = some u) := Lib.hid (fun j u hu => by rw [addr_add]; exact hc2 j u hu)
  have HM2 := Lib.hid hm2
  clear hb2 hc2 hm2 HRW HO1
  obtain ⟨M, hM⟩ : ∃ M, movedN ns.length ms = M := ⟨_, rfl⟩
  rw [hM] at hml HN2 HM2 HOV ⊢
  have HML := Lib.hid hml
  have HMD := Lib.hid hM
  clear hM hmn hml
  go_wp2_with (at_builtin; refine wpList_app_nodes rfl _ _ rfl (w.heap.size + 1) _ ns rfl HO2.out ⟨g2, 0, none⟩ cap2 M rfl HN2.out (by have := HML.out; omega) HRW2.out.1 ?_)
  intro v3 w3 hown3 hgrow3
  have hln3 : (ns ++ M).length ≤ 800 := by have := HML.out; rw [List.length_append]; omega
  obtain ⟨N3, hN3⟩ : ∃ N, ns ++ M = N := ⟨_, rfl⟩
  have e3 : ns.length + M.length = N3.length := by rw [← hN3, List.length_append]
  rw [hN3] at hown3 hln3
  rw [e3] at hown3
  clear e3
  have HN3 := Lib.hid hN3
  clear hN3
  have HB3 := Lib.hid (grown_mk (lo := lo) hgrow3 HB2.out (ownsRow_base' HO2.out (Nat.le_succ _)))
  have hne2 : some w.heap.size ≠ v1.ownBlock := own_ge HO2.out _ (Nat.lt_succ_self _)
  have HRW3 : Hid (Row w3 w.heap.size (ndCells y.d y.A y.c)) := Lib.hid ⟨Nat.lt_of_lt_of_le HRW2.out.1 hgrow3.size, fun i => (World.cell?_of_block (a := ⟨w.heap.size, i, none⟩) (hgrow3.block _ HRW2.out.1 hne2)).trans (HRW2.out.2 i)⟩
  have HO3 := Lib.hid hown3
  clear hown3 hgrow3 hne2
  go_wp2_with (first
    | (with_reducible refine g_load 87 ?_; refine wpList_load_Row rfl _ _ rfl w.heap.size rfl (ndCells y.d y.A y.c) HRW3.out _ Tryz.underlying87 rfl (nd_size _ _ _) ?_)
    | (with_reducible refine g_bslice 28 ?_; refine wpList_node_slice rfl _ rfl y.d y.A y.c rfl ?_)
    | (at_builtin; refine wpList_app_nodes rfl _ _ rfl (w.heap.size + 1) _ N3 rfl (HO3.out.alloc _) ⟨w3.heap.size, 0, none⟩ 1 [y] rfl cells_new (by simp; omega) (by have := HRW3.out.1; simp; omega) ?_))
  intro v4 w4 hown4 hgrow4
  have HB4 := Lib.hid (grown_mk (lo := lo) hgrow4 (below_trans HB3.out (below_var w3 _)) (ownsRow_base' (HO3.out.alloc _) (Nat.le_succ _)))
  have HO4 := Lib.hid hown4
  clear hown4 hgrow4
  go_wp2_with fail
  go_ret
  refine ⟨v4, rfl, ⟨?_, ?_⟩, HB4.out⟩
  · rw [HOV.out, HN3.out, List.length_append]
    exact ownsRow_base' HO4.out (by omega)
  · rw [HOV.out]
    intro z hz
    rcases List.mem_append.1 hz with hz | hz
    · rcases List.mem_append.1 hz with hz | hz
      · exact ((HR.out.lists z hz).of_blocks HB4.out.size fun k _ h2 => HB4.out.block k h2)
      · rw [← HMD.out] at hz
        obtain ⟨t, ht, rfl⟩ := List.mem_map.1 hz
        exact ((HM.out.lists t ht).of_blocks HB4.out.size fun k _ h2 => HB4.out.block k h2)
    · rw [List.mem_singleton.1 hz]
      exact HLY.out.of_blocks HB4.out.size fun k _ h2 => HB4.out.block k h2
end Go.Proofs.YtdakcbddlempfaaGreat
