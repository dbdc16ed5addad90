/- The texts TrR, Kn, Ko, Kr, Ks, Kt, Ku, Kw, Kx, in this order. -/
import Derived.Test.YtbdkalpljhpnmaaGreatG02
import Derived.BigQuiet
import Derived.Deep.AppendLies
import Derived.Deep.CutBlock
import Derived.Deep.DeepCutAuto
import Derived.Deep.DrawnRows
import Derived.Deep.MidRow
import Derived.Deep.QuietTactic
import Derived.Deep.RegionHeld3
import Derived.Deep.RegionLaw
import Derived.Deep.WholeRow
import Derived.Defers
import Derived.Great.BuildSlice
import Derived.Laws.BytesString
import Derived.Laws.CopyOwn
import Derived.Laws.EntriesVeiled
import Derived.Laws.MakeOwn
import Derived.Laws.ResultCell
import Derived.Laws.Rows
import Derived.Laws.Tables
import Derived.Lib.Hide
import Derived.LoopIn
import Derived.LoopNIn
import Derived.Maps.AppendAt
import Derived.Outline
import Derived.OwnWalkIn
import Derived.RangeFuncBound
import Derived.RangeFuncBox
import Derived.RangeFuncCalls
import Derived.RangeFuncLeaves
import Derived.RangeFuncNested
import Derived.Recover
import Derived.Shelf.Abstract
import Derived.Shelf.Bytes.SlSmallAll
import Derived.Shelf.RegionOpen
import Derived.StillTailTactics
import Derived.Stop.BytesEq
import Derived.TacticsInMore
import Derived.WalkKit
import Derived.WalkLawsBesides
import Derived.WalkSpells
import Derived.Test.YtbdkalpljhpnmaaGreatKc
import Derived.Test.YtbdkalpljhpnmaaGreatQb
import Derived.Handy
import Derived.Test.YtbdkalpljhpnmaaGreatPk
import Derived.Test.YtbdkalpljhpnmaaGreatPb
import Derived.Test.YtbdkalpljhpnmaaGreatKh
/- table.read and table.Read of a flat table's bytes. -/
namespace Go.Proofs.YtbdkalpljhpnmaaGreat
open Go Go.RowKit

section
variable {P : Program} {ops : Array Oper} {rest : List Oper} {o : Oper} {a : Act} {w : World}
/-- A load of a whole struct, in a region that draws and only reads. -/
theorem wpStill_row {Q : Act → Prop} (hw : Region.wanted o (yielded ops a.tmps) = true) (ty : TypeId) (x : Operand) (ho : o.op = .load ty x) (g : Nat) (hx : a.eval x = .pointer (some ⟨g, 0, none⟩)) (cs : Array Value) (hr : Row w g cs)
    (d : TypeDesc) (hu : P.underlying ty = some d) (hd : d.isRow = true) (hi : (P.info? ty).map (·.size) = some cs.size)
    (h : wpStill P ops w Q rest (a.put o.dst (.agg cs))) : wpStill P ops w Q (o :: rest) a := by
  refine wpStill_step fun K hK => ?_
  rw [if_pos hw]
  have hc : w.rangeAt g 0 cs.toList := fun j v hv => by rw [Nat.zero_add, hr.2 j]; simpa using hv
  unfold Oper.still execOp
  simp only [ho, hx, Instr.loadAt, Instr.sureAddr, Sem.run_bind, Sem.run_pure, Result.andThen_ok, run_loadVar_mid w g 0 ty cs.toList d hc hu hd (by rw [hi]; simp)]
  exact ⟨rfl, hK _ (by simpa using h)⟩
end
theorem results_row_cell {P : Program} {fn : Func} {p q : Tmp} {t1 t2 : TypeId} (h : fn.results = #[.cell p t1, .cell q t2]) (tmps : Array Value) (w : World) (g g2 : Nat) (t : TypeId) (cs : Array Value) (fr : Nat × Nat) (d : TypeDesc) (v : Value)
    (hp : tmps.getD p undef = .pointer (some ⟨g, 0, none⟩)) (hg : w.heap[g]? = some (.cells cs t fr)) (hu : P.underlying t1 = some d) (hd : (match d with | .struct _ | .array _ _ => true | _ => false) = true) (hi : (P.info? t1).map (·.size) = some cs.size)
    (hq : tmps.getD q undef = .pointer (some ⟨g2, 0, none⟩)) (hv : (loadVar t2 ⟨g2, 0, none⟩).run P w = .ok v w) :
    (results fn tmps).run P w = .ok (.tuple #[.agg cs, v]) w := by
  have hp' : tmps[p]?.getD undef = .pointer (some ⟨g, 0, none⟩) := by simpa using hp
  have hq' : tmps[q]?.getD undef = .pointer (some ⟨g2, 0, none⟩) := by simpa using hq
  simp [results, h, hp', hq', asAddr, run_loadVar_row w g t t1 cs fr d hg hu hd hi, hv]
theorem tcatch_idle (p : Addr) (w : World) :
    CallsD Tryz.prog 43 #[.pointer (some p)] .returning w fun e u' w' => e = .returned (.tuple #[]) ∧ u' = .returning ∧ w' = w := by
  have hnn : ∀ w, (binOp .neq 20 .nilIface .nilIface).run Tryz.prog w = .ok (.bool false) w := fun w => Lib.run_neq_nil_nil w Tryz.underlying20
  refine callsD_of_wpS Tryz.func43 rfl fun c₀ cs hu => ?_
  apply wpS_seq
  apply wpS_region
  simp [wpOpsS, go_sem, recoverD, hu, Tryz.ntmps43, Exit.thenS]
  apply wpS_seq
  apply wpS_region
  simp [wpOpsS, go_sem, hnn, Exit.thenS]
  refine wpS_cond (t := false) (by simp [Act.eval, Array.replicate]) ?_
  simp only [Bool.false_eq_true, if_false]
  refine wpS_of_wp (wp_skip ?_)
  cases c₀
  simp_all [bodyPostS, results, Tryz.results43]
section
variable {P : Program} {ops : Array Oper} {Q : Exit → Act → World → Prop} {md : Region.Mode} {S : World → Prop} {i : Nat} {oi : Oper} {v : Value} {fuel : Nat} {listed : Array Bool} {a : Act} {w : World}
/-- wpAnyH_take, the target of the operation named. -/
theorem wpAnyH_takeD (d : Option Tmp) (hi : ops[i]? = some oi) (hd : oi.dst = d)
    (hs : Region.noSelect ops = true) (hf : Region.free md ops listed i = true) (hr : (Region.ready md ops listed).contains i = true)
    (hQ : ∀ c a w, Q (.panic c) (a.put d v) w → Q (.panic c) a w) (hy : YieldsIf P ops S oi v a) (hS : S w)
    (h : wpAnyH P md ops Q S fuel (listed.setIfInBounds i true) (a.put d v) w) : wpAnyH P md ops Q S (fuel + 1) listed a w := by
  subst hd
  exact wpAnyH_take hi hs hf hr hQ hy hS h
/-- The one operation that may come up stores a whole struct. -/
theorem wpAnyH_storeRow (hr : Region.ready md ops listed = [i]) (ho : ops[i]? = some oi) (hw : Region.wanted oi (yielded ops a.tmps) = true) (ty : TypeId) (x y : Operand) (hop : oi.op = .store ty x y) (hd : oi.dst = none)
    (g : Nat) (cells : Array Value) (hx : a.eval x = .pointer (some ⟨g, 0, none⟩)) (hy : a.eval y = .agg cells) (t : TypeId) (old : Array Value) (hg : w.heap[g]? = some (.cells old t (0, 0))) (hi : (P.info? ty).map (·.size) = some cells.size) (hold : old.size = cells.size) (h1 : cells.all (·.oneCell') = true)
    (hS : S (w.setRow g cells)) (h : S (w.setRow g cells) → wpAnyH P md ops Q S fuel (listed.setIfInBounds i true) a (w.setRow g cells)) : wpAnyH P md ops Q S (fuel + 1) listed a w := by
  refine wpAnyH_ready (rs := [i]) hr (by simp) ?_
  refine AllReadyH.cons ho (fun K hK => ?_) AllReadyH.nil
  rw [if_pos hw]
  refine wp_store_row ty x y hop g cells hx hy t old hg hi hold h1 ?_
  rw [hd]
  exact hK.out a _ hS h
end
theorem TPut.grown {M : Nat} {w0 w w' : World} {rb pb : Nat} {t : TypeId} {cs : Array Value} (h : TPut w rb pb t cs w') (hb : Below M w0 w) (h1 : M ≤ pb) (h2 : M ≤ rb) (hp : pb < w.heap.size) : Below M w0 w' :=
  hb.trans ⟨h.os, h.tape, h.output, h.size, fun k hk => h.block k (by omega) (by omega) (by omega)⟩
/-- What table.read gives. -/
def TrdR (w : World) (t : Tb) (n : Nat) (e : Ending) (w' : World) : Prop :=
  ∃ A c ys, e = .returned (.tuple #[.agg (tbVal { t with mac := zero32 } (.slice A n c)), .bool true]) ∧ ZsOwn w.heap.size w' (.slice A n c) ys ∧ ys.map (·.e) = t.zones ∧ Below w.heap.size w w'
set_option maxRecDepth 10000 in
set_option maxHeartbeats 400000 in
theorem tread_flat (w : World) (t : Tb) (n N b off c : Nat) (h : TbFlat t) (hn : t.zones.length = n) (hN : (tbBytes t).length = N) (hbl : b < w.heap.size) (hc1 : N ≤ c) (hc2 : c ≤ 9223372036854775807)
    (hA : ∀ j, j < N → w.cell? ⟨b, off + j, none⟩ = some (Extern.Stop.cell ((tbBytes t)[j]?.getD 0))) :
    Calls Tryz.prog 28 #[.slice (some ⟨b, off, none⟩) N c] w (TrdR w t n) := by
  have hmf : ∀ (fn : Fn) (first cap : Array Value) (w : World), (Instr.makeFunc fn first cap).run Tryz.prog w = .ok (.func fn first cap) w := fun _ _ _ _ => rfl
  have HF := Lib.hid h
  have HSZ : Hid (∀ v, (Tryz.prog.info? 47).map (·.size) = some (tbVal { t with mac := zero32 } v).size) := Lib.hid fun v => tb_info _ v h.prev rfl
  have HN := Lib.hid hn
  have HNN := Lib.hid hN
  obtain ⟨W, hW⟩ : ∃ W, ((w.alloc (.cells (tbVal zTb (.slice none 0 0)) 47)).alloc (.cells #[.bool false] 4)).alloc (.cells #[.slice (some ⟨b, off, none⟩) N c] 121) = W := ⟨_, rfl⟩
  have hB : Below w.heap.size w W := by rw [← hW]; exact (((Below.refl _ w).alloc (Nat.le_refl _) _).alloc (by simp) _).alloc (by simp; omega) _
  have hs : W.heap.size = w.heap.size + 3 := by rw [← hW]; simp
  have ht : W.heap[w.heap.size]? = some (.cells (tbVal zTb (.slice none 0 0)) 47 (0, 0)) := by rw [← hW]; exact (Below.heap_alloc _ _ _ (by simp; omega)).trans (heap_alloc2_old w _ _)
  have ho : W.heap[w.heap.size + 1]? = some (.cells #[.bool false] 4 (0, 0)) := by rw [← hW]; exact (Below.heap_alloc _ _ _ (by simp)).trans (heap_alloc2_new w _ _)
  have hr : TRd w.heap.size W (w.heap.size + 2) (tbBytes t ++ []) := by
    rw [List.append_nil]
    refine ⟨⟨b, off, c, ?_, by rw [hN]; exact hc1, hc2, hbl, fun j hj => (hB.cell (p := ⟨b, off + j, none⟩) hbl).trans (hA j (by omega))⟩, by omega⟩
    rw [← hW, hN]
    have := heap_alloc_last ((w.alloc (.cells (tbVal zTb (.slice none 0 0)) 47)).alloc (.cells #[.bool false] 4)) (.cells #[.slice (some ⟨b, off, none⟩) N c] 121)
    simpa using this
  have HB := Lib.hid hB
  have HS := Lib.hid hs
  have HO := Lib.hid ho
  have HC := Lib.hid (trwhole w.heap.size W (w.heap.size + 2) w.heap.size n t [] h hn hr ht (Nat.le_refl _) (by omega))
  clear h hn hN hA hB hs ht ho hr
  go_enter_defers Tryz.func28, Tryz.ntmps28
  go_wp2_with fail
  rw [zTb_cells, hW]
  refine HC.out.mono ?_
  rintro e w2 ⟨rfl, A, cz, ys, hr2, hp2, hz2, he2⟩
  have hs0 := HS.out
  have ho2 : w2.heap[w.heap.size + 1]? = some (.cells #[.bool false] 4 (0, 0)) := (hp2.block _ (by omega) (by omega) (by omega)).trans HO.out
  have HB2 := Lib.hid (hp2.grown HB.out (Nat.le_refl _) (by omega) (by omega))
  have HV := Lib.hid hp2.tgt
  have HZ2 := Lib.hid (hz2.lower (lo' := w.heap.size + 3) (by omega))
  have HRW := Lib.hid (Row.of_blk hp2.tgt)
  have HO2 := Lib.hid ho2
  have HE2 := Lib.hid he2
  have hlt2 : w.heap.size + 3 ≤ w2.heap.size := by have := hp2.size; omega
  obtain ⟨bb, o2, c2, hq, _⟩ := hr2.at_
  have hc2 : w2.cell? ⟨w.heap.size + 1 + 1, 0, none⟩ = some (.slice (some ⟨bb, o2, none⟩) 0 c2) := cell_of_row w2 (w.heap.size + 2) 0 _ _ _ hq
  clear hr2 hp2 hz2 he2 ho2 hW HC hq HO HB HS
  go_wp2_with fail
  refine wp_region_noPanic ?_
  refine wp_region_held_drew (S := fun W => Row W w.heap.size (tbVal { t with mac := zero32 } (.slice A n cz)) ∧ W.cell? ⟨w.heap.size + 1 + 1, 0, none⟩ = some (.slice (some ⟨bb, o2, none⟩) 0 c2)) (by kernel_rfl) ⟨⟨HRW.out.1, HRW.out.2⟩, hc2⟩ (fun hH => ?_)
  refine wpAnyH_takeD (i := 0) (some 12) rfl rfl (by kernel_rfl) (by kernel_rfl) (by kernel_rfl) (fun _ _ _ h => h) (yieldsIf_load_mid (by rfl) _ _ rfl w.heap.size 0 rfl (tbVal { t with mac := zero32 } (.slice A n cz)).toList _ (fun W hW j v hv => by rw [Nat.zero_add, hW.1.2 j]; simpa using hv) Tryz.underlying47 rfl (by rw [HSZ.out, Array.length_toList])) hH ?_
  simp only [Act.put, List.setIfInBounds_toArray, List.set_cons_zero, List.set_cons_succ]
  refine wpAnyH_takeD (i := 1) (v := (pt (w.heap.size + 1 + 1))) (some 13) rfl rfl (by kernel_rfl) (by kernel_rfl) (by kernel_rfl) (fun _ _ _ h => h) (Or.inl ⟨by rfl, fun W hW => by obtain ⟨_, hW2⟩ := hW; go_simp⟩) hH ?_
  simp only [Act.put, List.setIfInBounds_toArray, List.set_cons_zero, List.set_cons_succ]
  refine wpAnyH_takeD (i := 2) (v := (pt (w.heap.size + 1 + 1))) (some 14) rfl rfl (by kernel_rfl) (by kernel_rfl) (by kernel_rfl) (fun _ _ _ h => h) (Or.inl ⟨by rfl, fun W hW => by obtain ⟨_, hW2⟩ := hW; go_simp⟩) hH ?_
  simp only [Act.put, List.setIfInBounds_toArray, List.set_cons_zero, List.set_cons_succ]
  refine wpAnyH_takeD (i := 3) (v := (pt (w.heap.size + 1 + 1))) (some 15) rfl rfl (by kernel_rfl) (by kernel_rfl) (by kernel_rfl) (fun _ _ _ h => h) (Or.inl ⟨by rfl, fun W hW => by obtain ⟨_, hW2⟩ := hW; go_simp⟩) hH ?_
  simp only [Act.put, List.setIfInBounds_toArray, List.set_cons_zero, List.set_cons_succ]
  refine wpAnyH_takeD (i := 4) (v := (.slice (some ⟨bb, o2, none⟩) 0 c2)) (some 16) rfl rfl (by kernel_rfl) (by kernel_rfl) (by kernel_rfl) (fun _ _ _ h => h) (Or.inl ⟨by rfl, fun W hW => by obtain ⟨_, hW2⟩ := hW; go_simp⟩) hH ?_
  simp only [Act.put, List.setIfInBounds_toArray, List.set_cons_zero, List.set_cons_succ]
  refine wpAnyH_takeD (i := 5) (v := (I 0)) (some 17) rfl rfl (by kernel_rfl) (by kernel_rfl) (by kernel_rfl) (fun _ _ _ h => h) (Or.inl ⟨by rfl, fun W hW => by obtain ⟨_, hW2⟩ := hW; go_simp⟩) hH ?_
  simp only [Act.put, List.setIfInBounds_toArray, List.set_cons_zero, List.set_cons_succ]
  refine wpAnyH_takeD (i := 6) (v := (.bool true)) (some 18) rfl rfl (by kernel_rfl) (by kernel_rfl) (by kernel_rfl) (fun _ _ _ h => h) (Or.inl ⟨by rfl, fun W hW => by obtain ⟨_, hW2⟩ := hW; go_simp⟩) hH ?_
  simp only [Act.put, List.setIfInBounds_toArray, List.set_cons_zero, List.set_cons_succ]
  have hv2 : w2.drew.heap[w.heap.size]? = some (.cells (tbVal { t with mac := zero32 } (.slice A n cz)) 47 (0, 0)) := HV.out
  have HW3 : Hid ((w2.drew.setRow w.heap.size (tbVal { t with mac := zero32 } (.slice A n cz))).heap[w.heap.size]? = some (.cells (tbVal { t with mac := zero32 } (.slice A n cz)) 47 (0, 0))) := Lib.hid (setRow_heap _ _ _ _ _ _ hv2)
  have HK3 : Hid (∀ k, k ≠ w.heap.size → (w2.drew.setRow w.heap.size (tbVal { t with mac := zero32 } (.slice A n cz))).heap[k]? = w2.heap[k]?) := Lib.hid fun k hk => setRow_other _ _ k _ hk
  have HL3 : Hid ((w2.drew.setRow w.heap.size (tbVal { t with mac := zero32 } (.slice A n cz))).heap.size = w2.heap.size) := Lib.hid (by show (w2.setRow w.heap.size _).heap.size = _; simp [World.setRow])
  have HD3 : Hid ((w2.drew.setRow w.heap.size (tbVal { t with mac := zero32 } (.slice A n cz))).os = w2.os ∧ (w2.drew.setRow w.heap.size (tbVal { t with mac := zero32 } (.slice A n cz))).tape = w2.tape ∧ (w2.drew.setRow w.heap.size (tbVal { t with mac := zero32 } (.slice A n cz))).output = w2.output) := Lib.hid ⟨rfl, rfl, rfl⟩
  have hc3 : (w2.drew.setRow w.heap.size (tbVal { t with mac := zero32 } (.slice A n cz))).cell? ⟨w.heap.size + 1 + 1, 0, none⟩ = some (.slice (some ⟨bb, o2, none⟩) 0 c2) := (World.cell?_of_block (a := ⟨w.heap.size + 1 + 1, 0, none⟩) (HK3.out _ (by show w.heap.size + 1 + 1 ≠ w.heap.size; omega))).trans hc2
  refine wpAnyH_storeRow (i := 7) (by kernel_rfl) rfl (by rfl) _ _ _ rfl rfl w.heap.size (tbVal { t with mac := zero32 } (.slice A n cz)) rfl rfl 47 (tbVal { t with mac := zero32 } (.slice A n cz)) hv2 (HSZ.out _) rfl (tbVal_one _ _ _ _) ⟨Row.of_blk HW3.out, hc3⟩ (fun hH3 => ?_)
  clear hH hH3
  generalize w2.drew.setRow w.heap.size (tbVal { t with mac := zero32 } (.slice A n cz)) = w3 at HW3 HK3 HL3 HD3 hc3 ⊢
  have ho3 : w3.heap[w.heap.size + 1]? = some (.cells #[.bool false] 4 (0, 0)) := (HK3.out _ (by omega)).trans HO2.out
  have hcc := cell_of_row _ (w.heap.size + 1) 0 _ _ _ ho3
  have hfc := frozen_of_row _ (w.heap.size + 1) 0 _ _ ho3
  have HO3 := Lib.hid ho3
  have hS4 : Row (w3.setCell ⟨w.heap.size + 1, 0, none⟩ (.bool true)) w.heap.size (tbVal { t with mac := zero32 } (.slice A n cz)) ∧ (w3.setCell ⟨w.heap.size + 1, 0, none⟩ (.bool true)).cell? ⟨w.heap.size + 1 + 1, 0, none⟩ = some (.slice (some ⟨bb, o2, none⟩) 0 c2) :=
    ⟨Row.of_blk ((heap_setCell_other w3 _ w.heap.size _ (by show w.heap.size ≠ w.heap.size + 1; omega)).trans HW3.out), (World.cell?_of_block (a := ⟨w.heap.size + 1 + 1, 0, none⟩) (heap_setCell_other w3 _ _ _ (by show w.heap.size + 1 + 1 ≠ w.heap.size + 1; omega))).trans hc3⟩
  have HS4 := Lib.hid hS4
  clear hv2 ho3 hS4
  refine wpAnyH_ready (rs := [8]) (by kernel_rfl) (by simp) ?_
  refine AllReadyH.cons rfl (fun K hK => ?_) AllReadyH.nil
  go_simp
  refine hK.out _ _ HS4.out (fun hH4 => ?_)
  refine wpAnyH_done (by kernel_rfl) ?_ _
  refine NoPanic.normal ?_
  clear hK K hH4
  go_wp2_with fail
  refine leaves_cons (f := 43) (args := #[.pointer (some ⟨w.heap.size + 1, 0, none⟩)]) (by simp) (by simp [go_sem]) ?_
  refine (tcatch_idle _ _).mono ?_
  rintro e u' w11 ⟨rfl, rfl, rfl⟩
  have hbl : ∀ k, k ≠ w.heap.size → k ≠ w.heap.size + 1 → (w3.setCell ⟨w.heap.size + 1, 0, none⟩ (.bool true)).heap[k]? = w2.heap[k]? := fun k h1 h2 =>
    (heap_setCell_other _ _ k _ h2).trans (HK3.out k h1)
  have hsz : (w3.setCell ⟨w.heap.size + 1, 0, none⟩ (.bool true)).heap.size = w2.heap.size := by rw [← HL3.out]; simp [World.setCell]
  have hv4 : (w3.setCell ⟨w.heap.size + 1, 0, none⟩ (.bool true)).heap[w.heap.size]? = some (.cells (tbVal { t with mac := zero32 } (.slice A n cz)) 47 (0, 0)) := (heap_setCell_other w3 ⟨w.heap.size + 1, 0, none⟩ w.heap.size _ (by show w.heap.size ≠ w.heap.size + 1; omega)).trans HW3.out
  have hc4 := cell_of_row _ (w.heap.size + 1) 0 _ _ _ (heap_setCell_same _ (w.heap.size + 1) 0 _ _ (.bool true) HO3.out)
  refine ⟨_, results_row_cell rfl _ _ w.heap.size (w.heap.size + 1) _ (tbVal { t with mac := zero32 } (.slice A n cz)) (0, 0) _ (.bool true) rfl hv4 Tryz.underlying47 rfl (HSZ.out _) rfl (load_boolv _ _ _ hc4), A, cz, ys, rfl, ?_, HE2.out, ?_⟩
  · exact (HZ2.out.of_blocks (Nat.le_of_eq hsz.symm) fun k h1 h2 => hbl k (by omega) (by omega)).lower (by omega)
  · exact HB2.out.trans ⟨HD3.out.1, HD3.out.2.1, HD3.out.2.2, Nat.le_of_eq hsz.symm, fun k hk => hbl k (by omega) (by omega)⟩
end Go.Proofs.YtbdkalpljhpnmaaGreat

/- kalendsref14.number, flag. -/
namespace Go.Proofs.YtbdkalpljhpnmaaGreat
open Go Go.RowKit

/-- A list of bytes that the call owns. -/
def BsO (lo : Nat) (w : World) (A : Option Addr) (n c : Nat) (bs : List UInt8) : Prop := w.ownsRow lo 5 1 (.slice A n c) n (bs.map Extern.Stop.cell)
/-- Only the row v and new blocks have changed. -/
structure RwK (v : Value) (w : World) (v' : Value) (w' : World) : Prop where
  os : w'.os = w.os
  tape : w'.tape = w.tape
  output : w'.output = w.output
  size : w.heap.size ≤ w'.heap.size
  block : ∀ k, k < w.heap.size → some k ≠ v.ownBlock → w'.heap[k]? = w.heap[k]?
  own : v'.ownBlock = v.ownBlock ∨ ∃ b, v'.ownBlock = some b ∧ w.heap.size ≤ b
theorem RwK.refl (v : Value) (w : World) : RwK v w v w := ⟨rfl, rfl, rfl, Nat.le_refl _, fun _ _ _ => rfl, .inl rfl⟩
theorem RwK.trans {v v1 v2 : Value} {w w1 w2 : World} (h : RwK v w v1 w1) (k : RwK v1 w1 v2 w2) : RwK v w v2 w2 := by
  refine ⟨k.os.trans h.os, k.tape.trans h.tape, k.output.trans h.output, Nat.le_trans h.size k.size, fun b hb hv => ?_, ?_⟩
  · refine (k.block b (Nat.lt_of_lt_of_le hb h.size) ?_).trans (h.block b hb hv)
    rcases h.own with e | ⟨b1, e, hb1⟩
    · rw [e]; exact hv
    · rw [e]; intro h'; injection h' with h'; omega
  · rcases k.own with e | ⟨b, e, hb⟩
    · rcases h.own with e1 | ⟨b1, e1, hb1⟩
      · exact .inl (e.trans e1)
      · exact .inr ⟨b1, e.trans e1, hb1⟩
    · exact .inr ⟨b, e, Nat.le_trans h.size hb⟩
theorem RwK.below {v v' : Value} {w w' w2 : World} (h : RwK v w v' w') (hb : Below w'.heap.size w' w2) : RwK v w v' w2 :=
  ⟨hb.os.trans h.os, hb.tape.trans h.tape, hb.output.trans h.output, Nat.le_trans h.size hb.size, fun k hk hv => (hb.block k (Nat.lt_of_lt_of_le hk h.size)).trans (h.block k hk hv), h.own⟩
theorem RwK.app {w w3 : World} {v v' : Value} {o : Obj} (hg : (w.alloc o).grownBy w3 v.ownBlock) (hat : v'.ownBlock = v.ownBlock ∨ v'.ownBlock = some (w.alloc o).heap.size) : RwK v w v' w3 :=
  ⟨hg.os, hg.tape, hg.output, Nat.le_trans (by simp) hg.size, fun k hk hv => (hg.block k (by simp; omega) hv).trans (Below.heap_alloc w o k hk), hat.elim .inl fun e => .inr ⟨_, e, by simp⟩⟩
theorem RwK.lowB {lo : Nat} {v v' : Value} {w w' : World} (h : RwK v w v' w') (hv : ∀ g, v.ownBlock = some g → lo ≤ g) (hlo : lo ≤ w.heap.size) : Below lo w w' :=
  ⟨h.os, h.tape, h.output, h.size, fun k hk => h.block k (by omega) (fun e => by have := hv k e.symm; omega)⟩
def BsQ (lo : Nat) (v : Value) (w : World) (bs : List UInt8) (e : Ending) (w' : World) : Prop := ∃ A n c, bs.length = n ∧ e = .returned (.slice A n c) ∧ BsO lo w' A n c bs ∧ RwK v w (.slice A n c) w'
theorem BsO.base {lo n c : Nat} {w : World} {A : Option Addr} {bs : List UInt8} (h : BsO lo w A n c bs) : ∀ g, (Value.slice A n c).ownBlock = some g → lo ≤ g := fun g hg => (World.ownsRow.lt h g hg).1
theorem BsO.below {lo n c : Nat} {w w' : World} {A : Option Addr} {bs : List UInt8} (h : BsO lo w A n c bs) (hb : Below w.heap.size w w') : BsO lo w' A n c bs :=
  World.ownsRow.kept (row := none) h ⟨hb.os, hb.tape, hb.output, hb.size, fun k hk _ => hb.block k hk⟩ (by cases (Value.slice A n c).ownBlock <;> simp)
theorem BsO.lower {lo lo' n c : Nat} {w : World} {A : Option Addr} {bs : List UInt8} (h : BsO lo w A n c bs) (hl : lo' ≤ lo) : BsO lo' w A n c bs := by
  rcases h.2 with h2 | ⟨g, cap, cur, h1, h2, h3⟩
  · exact ⟨h.1, .inl h2⟩
  · exact ⟨h.1, .inr ⟨g, cap, cur, h1, Nat.le_trans hl h2, h3⟩⟩
theorem byte_at14 (z : Int) (j : Nat) (hj : j < 8) : Value.int .u8 (IntKind.u64.wrap z / 2 ^ (8 * j) % 256) = Extern.Stop.cell (byteOf (shiftBy z j)) := by
  rw [byteOf_cell]
  have h : j = 0 ∨ j = 1 ∨ j = 2 ∨ j = 3 ∨ j = 4 ∨ j = 5 ∨ j = 6 ∨ j = 7 := by omega
  congr 1
  rw [show IntKind.u64.wrap z = z % 18446744073709551616 by simp [IntKind.wrap, IntKind.bits, IntKind.signed]]
  rcases h with rfl | rfl | rfl | rfl | rfl | rfl | rfl | rfl <;> simp only [shiftBy]
  · show z % 18446744073709551616 / 1 % 256 = _; omega
  · show z % 18446744073709551616 / 256 % 256 = _; omega
  · show z % 18446744073709551616 / 65536 % 256 = _; omega
  · show z % 18446744073709551616 / 16777216 % 256 = _; omega
  · show z % 18446744073709551616 / 4294967296 % 256 = _; omega
  · show z % 18446744073709551616 / 1099511627776 % 256 = _; omega
  · show z % 18446744073709551616 / 281474976710656 % 256 = _; omega
  · show z % 18446744073709551616 / 72057594037927936 % 256 = _; omega
theorem u8_one (x : Int) : ∀ u ∈ [Value.int .u8 x], u.oneCell' = true := fun u hu => by rw [List.mem_singleton.1 hu]; rfl
def flagF (b : Bool) : Int := if b = true then 1 else 0
def NRel (lo : Nat) (v : Value) (w : World) (bs : List UInt8) (z : Int) (s : Nat) (b i : Value) (wr : World) : Prop :=
  ∃ (k n c : Nat) (A : Option Addr), k ≤ s ∧ b = .slice A n c ∧ i = .int .i64 k ∧ (bs ++ le z k).length = n ∧ BsO lo wr A n c (bs ++ le z k) ∧ RwK v w (.slice A n c) wr
theorem byte_one14 (x : UInt8) : ∀ u ∈ [Extern.Stop.cell x], u.oneCell' = true := fun u hu => by rw [List.mem_singleton.1 hu]; rfl
set_option maxRecDepth 10000 in
set_option maxHeartbeats 2000000 in
theorem number_r (lo n c s : Nat) (A : Option Addr) (bs : List UInt8) (z : Int) (w : World) (hl : bs.length = n) (hn : n ≤ 1000000) (hs : s ≤ 8) (hz : fits z) (hlo : lo ≤ w.heap.size) (hO : BsO lo w A n c bs) :
    Calls Tryz.prog 47 #[.slice A n c, I z, I s] w (BsQ lo (.slice A n c) w (bs ++ le z s)) := by
  obtain ⟨i0, hi, hz0, hz1, hz2⟩ := info_parts info_u8
  have HI := Lib.hid hi
  have HZ0 := Lib.hid hz0
  have HZ1 := Lib.hid hz1
  have HZ2 := Lib.hid hz2
  have HO := Lib.hid hO
  have HL := Lib.hid hl
  have HFZ := Lib.hid hz
  clear hi hz0 hz1 hz2 hO hl hz
  go_enter Tryz.func47, Tryz.ntmps47
  go_wp2_with fail
  go_loopw [0, 8] (fun b i wr => NRel lo (.slice A n c) w bs z s b i wr) (fun _ i _ => s - (intOf i).toNat)
  case atStart => exact ⟨0, n, c, A, Nat.zero_le _, rfl, by go_num, by simpa [le] using HL.out, by simpa [le] using HO.out, RwK.refl _ _⟩
  case round =>
    obtain ⟨k, n2, c2, A2, hk, rfl, rfl, hl2, ho2, hb2⟩ := hrel
    have HB2 := Lib.hid hb2
    have hsz : lo ≤ wr.heap.size := Nat.le_trans hlo hb2.size
    have hn2 : n2 ≤ 1000008 := by rw [← hl2, List.length_append, le_length, HL.out]; omega
    by_cases hlt : (k : Int) < (s : Int)
    · have HBY := Lib.hid (byte_at14 z k (by omega))
      have HOA := Lib.hid (World.ownsRow.alloc ho2 (.cells #[Value.int .u8 (IntKind.u64.wrap z / 2 ^ (8 * k) % 256)] 5))
      have HL2 := Lib.hid hl2
      obtain ⟨b2, hbb2⟩ : ∃ b, bs ++ le z k = b := ⟨_, rfl⟩
      rw [hbb2] at HOA HL2
      have HBE := Lib.hid hbb2
      clear hb2 ho2 hl2 hbb2
      go_wp2_with (at_builtin; go_must (refine wpList_append_own_at _ rfl _ _ 23 rfl lo 5 i0 (.int .u8 0) 1 1 Tryz.underlying23 HI.out HZ0.out HZ1.out HZ2.out rfl (by decide) _ n2 (b2.map Extern.Stop.cell) rfl HOA.out _ 1 1 [Value.int .u8 (IntKind.u64.wrap z / 2 ^ (8 * k) % 256)] rfl rfl (cell_one_new _ _ _) (u8_one _) (by unfold maxLen; omega) (by omega) (by simp; omega) ?_))
      intro v' w3 hown hg _ hat
      have HW3 := Lib.hid (HB2.out.trans (RwK.app hg (hat.imp id fun e => e.trans (by simp))))
      obtain ⟨A', c', rfl⟩ := own_formB hown
      have HOW : Hid (BsO lo w3 A' (n2 + 1) c' (bs ++ le z (k + 1))) := Lib.hid (by
        unfold BsO
        rw [le_snoc, ← List.append_assoc, HBE.out, List.map_append]
        show World.ownsRow _ _ _ _ _ _ (_ ++ [Extern.Stop.cell _])
        rw [← HBY.out]
        exact hown)
      clear hown hg hat
      go_wp2_with fail
      go_roundw
      case rel => exact ⟨k + 1, n2 + 1, c', A', by omega, rfl, by go_num, by have := HL2.out; rw [← HBE.out] at this; rw [le_snoc, ← List.append_assoc, List.length_append, this]; rfl, HOW.out, HW3.out⟩
      case measure => simp [intOf]; omega
    · have HKS : Hid (k = s) := Lib.hid (by omega)
      have HO2 := Lib.hid ho2
      have HL2 := Lib.hid hl2
      clear ho2 hl2 hb2
      go_wp2_with fail
      go_ret
      exact ⟨_, n2, _, by rw [← HKS.out]; exact HL2.out, rfl, by rw [← HKS.out]; exact HO2.out, HB2.out⟩
theorem flag_r (b : Bool) (w : World) : Calls Tryz.prog 86 #[.bool b] w fun e w' => e = .returned (I (flagF b)) ∧ w' = w := by
  cases b
  all_goals
    go_enter Tryz.func86, Tryz.ntmps86
    go_wp2_with fail
    go_ret
    exact ⟨rfl, rfl⟩
end Go.Proofs.YtbdkalpljhpnmaaGreat

/- kalendsref14.calendar. -/
namespace Go.Proofs.YtbdkalpljhpnmaaGreat
open Go Go.RowKit

/-- The encoding of a list of leap rules. -/
def lrB (r : Lr) : List UInt8 := le r.every 2 ++ (le r.rest 2 ++ le (flagF r.yes) 1)
def cal14 (c : Cal) : List UInt8 := le c.epoch 4 ++ (le c.months.length 1 ++ (c.months.flatMap (le · 1) ++ (le (c.leap + 1) 1 ++ (le c.rules.length 1 ++ c.rules.flatMap lrB))))
structure C14 (c : Cal) : Prop where
  ep : fits c.epoch
  mo : c.months.length ≤ 1000
  all : ∀ x ∈ c.months, fits x
  le : -1 ≤ c.leap ∧ c.leap ≤ 1000
  ru : c.rules.length ≤ 1000
  rl : ∀ r ∈ c.rules, fits r.every ∧ fits r.rest
theorem flat_snoc {α β : Type} (f : α → List β) (l : List α) (k : Nat) (x : α) (hx : l[k]? = some x) : (l.take (k + 1)).flatMap f = (l.take k).flatMap f ++ f x := by
  rw [List.take_add_one, hx, List.flatMap_append]
  simp
theorem flat_bound {α β : Type} (f : α → List β) (l : List α) (s k : Nat) (h : ∀ x, (f x).length = s) : ((l.take k).flatMap f).length ≤ l.length * s := by
  have e : ∀ m : List α, (m.flatMap f).length = m.length * s := by
    intro m
    induction m with
    | nil => simp
    | cons x m ih => rw [List.flatMap_cons, List.length_append, h, ih, List.length_cons, Nat.succ_mul, Nat.add_comm]
  rw [e, List.length_take]
  exact Nat.mul_le_mul_right s (by omega)
theorem lrB_len (r : Lr) : (lrB r).length = 5 := by simp [lrB, le_length]
/-- A row of the call's own, and the bytes so far. -/
structure CB (lo : Nat) (v0 : Value) (w : World) (cs : Array Value) (bs : List UInt8) (A : Option Addr) (n c : Nat) (W : World) : Prop where
  row : Row W w.heap.size cs
  own : BsO lo W A n c bs
  len : bs.length = n
  keep : RwK v0 w (.slice A n c) W
  far : some w.heap.size ≠ (Value.slice A n c).ownBlock
theorem CB.start {lo n c : Nat} {A : Option Addr} {w : World} {bs : List UInt8} (cs : Array Value) (t : TypeId) (hO : BsO lo w A n c bs) (hl : bs.length = n) : CB lo (.slice A n c) w cs bs A n c (w.alloc (.cells cs t)) :=
  ⟨Row.new w cs t, BsO.below hO (below_var w _), hl, (RwK.refl _ w).below (below_var w _), fun e => by have := (World.ownsRow.lt hO _ e.symm).2; omega⟩
theorem CB.next {lo n c n' c' : Nat} {v0 : Value} {A A' : Option Addr} {w W W' : World} {cs : Array Value} {bs bs' : List UInt8} (h : CB lo v0 w cs bs A n c W) (hO : BsO lo W' A' n' c' bs') (hl : bs'.length = n') (hk : RwK (.slice A n c) W (.slice A' n' c') W') : CB lo v0 w cs bs' A' n' c' W' := by
  have hlt := h.row.1
  refine ⟨⟨Nat.lt_of_lt_of_le hlt hk.size, fun i => (World.cell?_of_block (a := ⟨w.heap.size, i, none⟩) (hk.block _ hlt h.far)).trans (h.row.2 i)⟩, hO, hl, h.keep.trans hk, ?_⟩
  rcases hk.own with e | ⟨b, e, hb⟩
  · rw [e]; exact h.far
  · rw [e]; intro h'; injection h' with h'; omega
theorem CB.low {lo n c n0 c0 : Nat} {A A0 : Option Addr} {w W : World} {cs : Array Value} {bs bs0 : List UInt8} (h : CB lo (.slice A0 n0 c0) w cs bs A n c W) (hO : BsO lo w A0 n0 c0 bs0) (hlo : lo ≤ w.heap.size) : Below lo w W := h.keep.lowB (BsO.base hO) hlo
def CRel (lo : Nat) (v0 : Value) (w : World) (cs : Array Value) (pre : Nat → List UInt8) (m : Nat) (b i : Value) (wr : World) : Prop :=
  ∃ (k n c : Nat) (A : Option Addr), k ≤ m ∧ b = .slice A n c ∧ i = .int .i64 k ∧ CB lo v0 w cs (pre k) A n c wr
set_option maxRecDepth 10000 in
set_option maxHeartbeats 2000000 in
theorem calendar_r (lo n c0 : Nat) (A0 : Option Addr) (bs : List UInt8) (c : Cal) (A R : Option Addr) (a r : Nat) (w : World) (hl : bs.length = n) (hn : n ≤ 100000) (hc : C14 c) (hm : CalM w lo A R c) (hlo : lo ≤ w.heap.size) (hO : BsO lo w A0 n c0 bs) :
    Calls Tryz.prog 64 #[.slice A0 n c0, .agg (calCells c A a R r)] w (BsQ lo (.slice A0 n c0) w (bs ++ cal14 c)) := by
  obtain ⟨ep, mo, lp, ru⟩ := c
  obtain ⟨x0, x1, x2, x3, x4, x5⟩ := hc
  obtain ⟨y0, y1⟩ := hm
  simp only at x0 x1 x2 x3 x4 x5 y0 y1
  unfold calCells
  simp only
  obtain ⟨nm, hnm⟩ : ∃ n, mo.length = n := ⟨_, rfl⟩
  obtain ⟨nr, hnr⟩ : ∃ n, ru.length = n := ⟨_, rfl⟩
  have FM := Lib.hid (fun k => flat_bound (le · 1) mo 1 k (fun _ => le_length _ _))
  have FR := Lib.hid (fun k => flat_bound lrB ru 5 k lrB_len)
  have HX2 := Lib.hid x2
  have HX5 := Lib.hid x5
  have HY0 := Lib.hid y0
  have HY1 := Lib.hid y1
  have HO0 := Lib.hid hO
  have HNM := Lib.hid hnm
  have HNR := Lib.hid hnr
  rw [hnm] at x1 FM ⊢
  rw [hnr] at x4 FR ⊢
  have HB := Lib.hid (CB.start #[I ep, .slice A nm a, I lp, .slice R nr r] 37 hO hl)
  have wl : IntKind.i64.wrap (lp + 1) = lp + 1 := by rw [IntKind.wrap_i64]; omega
  clear x2 x5 y0 y1 hO hnm hnr
  go_enter Tryz.func64, Tryz.ntmps64
  go_wp2_with fail
  refine (number_r lo _ _ 4 _ _ ep _ HB.out.len (by have h := HB.out.len; (try simp only [List.length_append, le_length] at h); omega) (by omega) x0 (Nat.le_trans hlo HB.out.keep.size) HB.out.own).mono ?_
  rintro e w1 ⟨A1, n1, c1, l1, rfl, o1, k1⟩
  have H1 := Lib.hid (HB.out.next o1 l1 k1)
  clear l1 o1 k1
  have q0 : (w1).cell? ⟨w.heap.size, 0, none⟩ = some (I ep) := H1.out.row.2 0
  have q1 : (w1).cell? ⟨w.heap.size, 1, none⟩ = some (.slice A nm a) := H1.out.row.2 1
  have q2 : (w1).cell? ⟨w.heap.size, 2, none⟩ = some (I lp) := H1.out.row.2 2
  have q3 : (w1).cell? ⟨w.heap.size, 3, none⟩ = some (.slice R nr r) := H1.out.row.2 3
  go_wp2_with fail
  refine (number_r lo _ _ 1 _ _ nm _ H1.out.len (by have h := H1.out.len; (try simp only [List.length_append, le_length] at h); omega) (by omega) ⟨by omega, by omega⟩ (Nat.le_trans hlo H1.out.keep.size) H1.out.own).mono ?_
  rintro e w2 ⟨A2, n2, c2, l1, rfl, o1, k1⟩
  have H2 := Lib.hid (H1.out.next o1 l1 k1)
  clear l1 o1 k1
  clear q0 q1 q2 q3
  have q0 : (w2).cell? ⟨w.heap.size, 0, none⟩ = some (I ep) := H2.out.row.2 0
  have q1 : (w2).cell? ⟨w.heap.size, 1, none⟩ = some (.slice A nm a) := H2.out.row.2 1
  have q2 : (w2).cell? ⟨w.heap.size, 2, none⟩ = some (I lp) := H2.out.row.2 2
  have q3 : (w2).cell? ⟨w.heap.size, 3, none⟩ = some (.slice R nr r) := H2.out.row.2 3
  go_wp2_with fail
  go_loopw [0, 5] (fun b i wr => CRel lo (.slice A0 n c0) w #[I ep, .slice A nm a, I lp, .slice R nr r] (fun k => bs ++ le ep 4 ++ le nm 1 ++ (mo.take k).flatMap (le · 1)) nm b i wr) (fun _ i _ => nm - (intOf i).toNat)
  case atStart => exact ⟨0, n2, c2, A2, Nat.zero_le _, rfl, by go_num, by simpa using H2.out⟩
  case round =>
    obtain ⟨k, n3, c3, A3, hk, rfl, rfl, hb3⟩ := hrel
    have HB3 := Lib.hid hb3
    clear hb3 q0 q1 q2 q3
    have q0 : (wr).cell? ⟨w.heap.size, 0, none⟩ = some (I ep) := HB3.out.row.2 0
    have q1 : (wr).cell? ⟨w.heap.size, 1, none⟩ = some (.slice A nm a) := HB3.out.row.2 1
    have q2 : (wr).cell? ⟨w.heap.size, 2, none⟩ = some (I lp) := HB3.out.row.2 2
    have q3 : (wr).cell? ⟨w.heap.size, 3, none⟩ = some (.slice R nr r) := HB3.out.row.2 3
    by_cases hlt : (k : Int) < (nm : Int)
    · obtain ⟨b, off, rfl, hbo, hcl⟩ := (HY0.out.keep (HB3.out.low HO0.out hlo)).there (by rw [List.length_map, HNM.out]; omega)
      have hx : mo[k]? = some (mo[k]'(by rw [HNM.out]; omega)) := List.getElem?_eq_getElem _
      obtain ⟨x, hxx⟩ : ∃ x, mo[k]'(by rw [HNM.out]; omega) = x := ⟨_, rfl⟩
      rw [hxx] at hx
      have v0 : wr.cell? ⟨b, off + k, none⟩ = some (I x) := hcl k _ (by rw [List.getElem?_map, hx]; rfl)
      have HX := Lib.hid hx
      have hfx := HX2.out x (List.mem_of_getElem? hx)
      clear hcl hx hxx
      go_wp2_with fail
      refine (number_r lo _ _ 1 _ _ x _ HB3.out.len (by have h := HB3.out.len; have g := FM.out k; (try simp only [List.length_append, le_length] at h); omega) (by omega) hfx (Nat.le_trans hlo HB3.out.keep.size) HB3.out.own).mono ?_
      rintro e w4 ⟨A4, n4, c4, l1, rfl, o1, k1⟩
      have H4 := Lib.hid (HB3.out.next o1 l1 k1)
      clear l1 o1 k1
      go_wp2_with fail
      go_roundw
      case rel => exact ⟨k + 1, n4, c4, A4, by omega, rfl, by go_num, by show CB _ _ _ _ (_ ++ (mo.take (k + 1)).flatMap (le · 1)) _ _ _ _; rw [flat_snoc _ _ _ _ HX.out, ← List.append_assoc]; exact H4.out⟩
      case measure => simp [intOf]; omega
    · have hk2 : k = nm := by omega
      subst hk2
      clear hlt
      go_wp2_with fail
      refine (number_r lo _ _ 1 _ _ (lp + 1) _ HB3.out.len (by have h := HB3.out.len; have g := FM.out k; (try simp only [List.length_append, le_length] at h); omega) (by omega) ⟨by omega, by omega⟩ (Nat.le_trans hlo HB3.out.keep.size) HB3.out.own).mono ?_
      rintro e w5 ⟨A5, n5, c5, l1, rfl, o1, k1⟩
      have H5 := Lib.hid (HB3.out.next o1 l1 k1)
      clear l1 o1 k1
      clear q0 q1 q2 q3
      have q0 : (w5).cell? ⟨w.heap.size, 0, none⟩ = some (I ep) := H5.out.row.2 0
      have q1 : (w5).cell? ⟨w.heap.size, 1, none⟩ = some (.slice A k a) := H5.out.row.2 1
      have q2 : (w5).cell? ⟨w.heap.size, 2, none⟩ = some (I lp) := H5.out.row.2 2
      have q3 : (w5).cell? ⟨w.heap.size, 3, none⟩ = some (.slice R nr r) := H5.out.row.2 3
      go_wp2_with fail
      refine (number_r lo _ _ 1 _ _ nr _ H5.out.len (by have h := H5.out.len; have g := FM.out k; (try simp only [List.length_append, le_length] at h); omega) (by omega) ⟨by omega, by omega⟩ (Nat.le_trans hlo H5.out.keep.size) H5.out.own).mono ?_
      rintro e w6 ⟨A6, n6, c6, l1, rfl, o1, k1⟩
      have H6 := Lib.hid (H5.out.next o1 l1 k1)
      clear l1 o1 k1
      clear q0 q1 q2 q3
      have q0 : (w6).cell? ⟨w.heap.size, 0, none⟩ = some (I ep) := H6.out.row.2 0
      have q1 : (w6).cell? ⟨w.heap.size, 1, none⟩ = some (.slice A k a) := H6.out.row.2 1
      have q2 : (w6).cell? ⟨w.heap.size, 2, none⟩ = some (I lp) := H6.out.row.2 2
      have q3 : (w6).cell? ⟨w.heap.size, 3, none⟩ = some (.slice R nr r) := H6.out.row.2 3
      go_wp2_with fail
      go_loopw [0, 6] (fun b i wr => CRel lo (.slice A0 n c0) w #[I ep, .slice A k a, I lp, .slice R nr r] (fun j => (bs ++ le ep 4 ++ le k 1 ++ (mo.take k).flatMap (le · 1)) ++ le (lp + 1) 1 ++ le nr 1 ++ (ru.take j).flatMap lrB) nr b i wr) (fun _ i _ => nr - (intOf i).toNat)
      case atStart => exact ⟨0, n6, c6, A6, Nat.zero_le _, rfl, by go_num, by simpa using H6.out⟩
      case round =>
        obtain ⟨j, n7, c7, A7, hj, rfl, rfl, hb7⟩ := hrel
        have HB7 := Lib.hid hb7
        clear hb7 q0 q1 q2 q3
        have q0 : (wr).cell? ⟨w.heap.size, 0, none⟩ = some (I ep) := HB7.out.row.2 0
        have q1 : (wr).cell? ⟨w.heap.size, 1, none⟩ = some (.slice A k a) := HB7.out.row.2 1
        have q2 : (wr).cell? ⟨w.heap.size, 2, none⟩ = some (I lp) := HB7.out.row.2 2
        have q3 : (wr).cell? ⟨w.heap.size, 3, none⟩ = some (.slice R nr r) := HB7.out.row.2 3
        by_cases hlt : (j : Int) < (nr : Int)
        · obtain ⟨b, off, rfl, hbo, hcl⟩ := HY1.out.there (by rw [flat_len (s := 3) Lr.cells ru (fun _ _ => rfl), HNR.out]; omega)
          have hx : ru[j]? = some (ru[j]'(by rw [HNR.out]; omega)) := List.getElem?_eq_getElem _
          obtain ⟨x, hxx⟩ : ∃ x, ru[j]'(by rw [HNR.out]; omega) = x := ⟨_, rfl⟩
          rw [hxx] at hx
          have HRC : Hid (∀ i u, x.cells[i]? = some u → w.cell? ⟨b, off + j * 3 + i, none⟩ = some u) := Lib.hid (fun i u hu => by rw [Nat.add_assoc]; exact hcl _ _ (by rw [flat_get (s := 3) Lr.cells ru (fun _ _ => rfl) j i x hx (by have := (List.getElem?_eq_some_iff.1 hu).1; simpa [Lr.cells] using this)]; exact hu))
          have HX := Lib.hid hx
          have hfx := HX5.out x (List.mem_of_getElem? hx)
          clear hcl hx hxx
          have z0 : (wr).cell? ⟨b, off + j * 3, none⟩ = some (I x.every) := ((HB7.out.low HO0.out hlo).cell (p := ⟨b, off + j * 3, none⟩) hbo).trans (HRC.out 0 _ rfl)
          have z1 : (wr).cell? ⟨b, off + j * 3 + 1, none⟩ = some (I x.rest) := ((HB7.out.low HO0.out hlo).cell (p := ⟨b, off + j * 3 + 1, none⟩) hbo).trans (HRC.out 1 _ rfl)
          have z2 : (wr).cell? ⟨b, off + j * 3 + 2, none⟩ = some (.bool x.yes) := ((HB7.out.low HO0.out hlo).cell (p := ⟨b, off + j * 3 + 2, none⟩) hbo).trans (HRC.out 2 _ rfl)
          go_wp2_with fail
          refine (number_r lo _ _ 2 _ _ x.every _ HB7.out.len (by have h := HB7.out.len; have g := FM.out k; have g2 := FR.out j; (try simp only [List.length_append, le_length] at h); omega) (by omega) hfx.1 (Nat.le_trans hlo HB7.out.keep.size) HB7.out.own).mono ?_
          rintro e w8 ⟨A8, n8, c8, l1, rfl, o1, k1⟩
          have H8 := Lib.hid (HB7.out.next o1 l1 k1)
          clear l1 o1 k1
          clear q0 q1 q2 q3 z0 z1 z2
          have q0 : (w8).cell? ⟨w.heap.size, 0, none⟩ = some (I ep) := H8.out.row.2 0
          have q1 : (w8).cell? ⟨w.heap.size, 1, none⟩ = some (.slice A k a) := H8.out.row.2 1
          have q2 : (w8).cell? ⟨w.heap.size, 2, none⟩ = some (I lp) := H8.out.row.2 2
          have q3 : (w8).cell? ⟨w.heap.size, 3, none⟩ = some (.slice (some ⟨b, off, none⟩) nr r) := H8.out.row.2 3
          have z0 : (w8).cell? ⟨b, off + j * 3, none⟩ = some (I x.every) := ((H8.out.low HO0.out hlo).cell (p := ⟨b, off + j * 3, none⟩) hbo).trans (HRC.out 0 _ rfl)
          have z1 : (w8).cell? ⟨b, off + j * 3 + 1, none⟩ = some (I x.rest) := ((H8.out.low HO0.out hlo).cell (p := ⟨b, off + j * 3 + 1, none⟩) hbo).trans (HRC.out 1 _ rfl)
          have z2 : (w8).cell? ⟨b, off + j * 3 + 2, none⟩ = some (.bool x.yes) := ((H8.out.low HO0.out hlo).cell (p := ⟨b, off + j * 3 + 2, none⟩) hbo).trans (HRC.out 2 _ rfl)
          go_wp2_with fail
          refine (number_r lo _ _ 2 _ _ x.rest _ H8.out.len (by have h := H8.out.len; have g := FM.out k; have g2 := FR.out j; (try simp only [List.length_append, le_length] at h); omega) (by omega) hfx.2 (Nat.le_trans hlo H8.out.keep.size) H8.out.own).mono ?_
          rintro e w9 ⟨A9, n9, c9, l1, rfl, o1, k1⟩
          have H9 := Lib.hid (H8.out.next o1 l1 k1)
          clear l1 o1 k1
          clear q0 q1 q2 q3 z0 z1 z2
          have q0 : (w9).cell? ⟨w.heap.size, 0, none⟩ = some (I ep) := H9.out.row.2 0
          have q1 : (w9).cell? ⟨w.heap.size, 1, none⟩ = some (.slice A k a) := H9.out.row.2 1
          have q2 : (w9).cell? ⟨w.heap.size, 2, none⟩ = some (I lp) := H9.out.row.2 2
          have q3 : (w9).cell? ⟨w.heap.size, 3, none⟩ = some (.slice (some ⟨b, off, none⟩) nr r) := H9.out.row.2 3
          have z0 : (w9).cell? ⟨b, off + j * 3, none⟩ = some (I x.every) := ((H9.out.low HO0.out hlo).cell (p := ⟨b, off + j * 3, none⟩) hbo).trans (HRC.out 0 _ rfl)
          have z1 : (w9).cell? ⟨b, off + j * 3 + 1, none⟩ = some (I x.rest) := ((H9.out.low HO0.out hlo).cell (p := ⟨b, off + j * 3 + 1, none⟩) hbo).trans (HRC.out 1 _ rfl)
          have z2 : (w9).cell? ⟨b, off + j * 3 + 2, none⟩ = some (.bool x.yes) := ((H9.out.low HO0.out hlo).cell (p := ⟨b, off + j * 3 + 2, none⟩) hbo).trans (HRC.out 2 _ rfl)
          go_wp2_with fail
          refine (flag_r x.yes _).mono ?_
          rintro e wf ⟨rfl, rfl⟩
          go_wp2_with fail
          refine (number_r lo _ _ 1 _ _ (flagF x.yes) _ H9.out.len (by have h := H9.out.len; have g := FM.out k; have g2 := FR.out j; (try simp only [List.length_append, le_length] at h); omega) (by omega) (by unfold flagF; split <;> exact ⟨by omega, by omega⟩) (Nat.le_trans hlo H9.out.keep.size) H9.out.own).mono ?_
          rintro e w10 ⟨A10, n10, c10, l1, rfl, o1, k1⟩
          have H10 := Lib.hid (H9.out.next o1 l1 k1)
          clear l1 o1 k1
          go_wp2_with fail
          go_roundw
          case rel => exact ⟨j + 1, n10, c10, A10, by omega, rfl, by go_num, by show CB _ _ _ _ (_ ++ (ru.take (j + 1)).flatMap lrB) _ _ _ _; rw [flat_snoc _ _ _ _ HX.out, ← List.append_assoc]; simpa [lrB, List.append_assoc] using H10.out⟩
          case measure => simp [intOf]; omega
        · have hj2 : j = nr := by omega
          have HJ := Lib.hid hj2
          clear hj2
          go_wp2_with fail
          go_ret
          have hb := HB7.out
          rw [HJ.out, List.take_of_length_le (Nat.le_of_eq HNR.out), List.take_of_length_le (Nat.le_of_eq HNM.out)] at hb
          refine ⟨A7, n7, c7, ?_, rfl, ?_, hb.keep⟩
          · rw [← hb.len]; simp [cal14, HNM.out, HNR.out, List.append_assoc]
          · have := hb.own; simpa [cal14, HNM.out, HNR.out, List.append_assoc] using this
end Go.Proofs.YtbdkalpljhpnmaaGreat

/- kalendsref03.Bytes, Block. -/
namespace Go.Proofs.YtbdkalpljhpnmaaGreat
open Go Go.RowKit

theorem CB.fresh (w : World) (cs : Array Value) (t : TypeId) : CB w.heap.size (.slice none 0 0) w cs [] (some ⟨w.heap.size + 1, 0, none⟩) 0 0 ((w.alloc (.cells cs t)).alloc (.cells #[] 5)) := by
  have hb : Below w.heap.size w ((w.alloc (.cells cs t)).alloc (.cells #[] 5)) := below_trans (below_var w _) (below_var _ _)
  have ho := own_emptyE (w.alloc (.cells cs t)) 5 1
  refine ⟨(Row.new w cs t).keep (below_var _ _), BsO.lower (lo := w.heap.size + 1) (by simpa [BsO] using ho) (by omega), rfl, ⟨hb.os, hb.tape, hb.output, hb.size, fun k hk _ => hb.block k hk, .inr ⟨w.heap.size + 1, rfl, by omega⟩⟩, fun e => ?_⟩
  have h : w.heap.size = w.heap.size + 1 := Option.some.inj e
  omega
theorem take_snoc {α : Type} (l : List α) (k : Nat) (x : α) (hx : l[k]? = some x) : l.take (k + 1) = l.take k ++ [x] := by
  rw [List.take_add_one, hx]
  rfl
theorem CB.grown {lo n c n' c' : Nat} {v0 : Value} {A A' : Option Addr} {w W W' : World} {o : Obj} {cs : Array Value} {bs bs' : List UInt8} (h : CB lo v0 w cs bs A n c W) (hO : BsO lo W' A' n' c' bs') (hl : bs'.length = n') (hg : (W.alloc o).grownBy W' (Value.slice A n c).ownBlock) (hat : (Value.slice A' n' c').ownBlock = (Value.slice A n c).ownBlock ∨ (Value.slice A' n' c').ownBlock = some (W.heap.size + 1)) : CB lo v0 w cs bs' A' n' c' W' :=
  h.next hO hl (RwK.app hg (hat.imp id fun e => e.trans (by simp)))
set_option maxRecDepth 10000 in
set_option maxHeartbeats 1000000 in
theorem bytes03_r (d : List UInt8) (w : World) (hd : d.length = 32) :
    Calls Tryz.prog 46 #[.agg (refCells d).toArray] w (BsQ w.heap.size (.slice none 0 0) w d) := by
  obtain ⟨i0, hi, hz0, hz1, hz2⟩ := info_parts info_u8
  have HI := Lib.hid hi
  have HZ0 := Lib.hid hz0
  have HZ1 := Lib.hid hz1
  have HZ2 := Lib.hid hz2
  clear hi hz0 hz1 hz2
  have HF := Lib.hid (CB.fresh w (refCells d).toArray 29)
  have HD := Lib.hid hd
  clear hd
  go_enter Tryz.func46, Tryz.ntmps46
  go_wp2_with fail
  go_loopw [3, 4] (fun b i wr => CRel w.heap.size (.slice none 0 0) w (refCells d).toArray (fun k => d.take k) 32 b i wr) (fun _ i _ => 32 - (intOf i).toNat)
  case atStart => exact ⟨0, 0, 0, _, Nat.zero_le _, rfl, by go_num, HF.out⟩
  case round =>
    obtain ⟨k, n, c, A, hk, rfl, rfl, hb⟩ := hrel
    have HB : Hid (CB w.heap.size (.slice none 0 0) w (refCells d).toArray (d.take k) A n c wr) := Lib.hid hb
    have hn : n = k := by rw [← hb.len]; show (d.take k).length = k; rw [List.length_take, HD.out]; omega
    have hsz : w.heap.size ≤ wr.heap.size := hb.keep.size
    clear hb
    subst hn
    by_cases hlt : (n : Int) < 32
    · obtain ⟨x, hx⟩ : ∃ x, d[n]? = some x := ⟨_, List.getElem?_eq_getElem (by rw [HD.out]; omega)⟩
      have v0 : wr.cell? ⟨w.heap.size, n, none⟩ = some (.int .u8 (x.toNat : Int)) := by rw [HB.out.row.2 n, List.getElem?_toArray]; unfold refCells; rw [List.getElem?_map, hx]; rfl
      have HX := Lib.hid hx
      clear hx
      obtain ⟨pre, hpre⟩ : ∃ l, d.take n = l := ⟨_, rfl⟩
      have HPRE := Lib.hid hpre
      rw [hpre] at HB
      clear hpre
      have HOA := Lib.hid (World.ownsRow.alloc HB.out.own (.cells #[Value.int .u8 (x.toNat : Int)] 5))
      go_wp2_with (at_builtin; go_must (refine wpList_append_own_at _ rfl _ _ 23 rfl w.heap.size 5 i0 (.int .u8 0) 1 1 Tryz.underlying23 HI.out HZ0.out HZ1.out HZ2.out rfl (by decide) _ n ((pre).map Extern.Stop.cell) rfl HOA.out _ 1 1 [Value.int .u8 (x.toNat : Int)] rfl rfl (cell_one_new _ _ _) (u8_one _) (by unfold maxLen; omega) (by omega) (by simp; omega) ?_))
      intro v' w3 hown hg _ hat
      obtain ⟨A', c', rfl⟩ := own_formB hown
      have H2 := Lib.hid (HB.out.grown (bs' := d.take (n + 1)) (by unfold BsO; rw [take_snoc d n x HX.out, HPRE.out, List.map_append]; exact hown) (by rw [List.length_take, HD.out]; omega) hg hat)
      clear hown hg hat
      go_wp2_with fail
      go_roundw
      case rel => exact ⟨n + 1, n + 1, c', A', by omega, rfl, by go_num, H2.out⟩
      case measure => simp [intOf]; omega
    · have HN : Hid (n = 32) := Lib.hid (by omega)
      go_wp2_with fail
      go_ret
      have hb := HB.out
      rw [HN.out, List.take_of_length_le (Nat.le_of_eq HD.out)] at hb
      have hn := HN.out
      subst hn
      exact ⟨A, 32, c, HD.out, rfl, hb.own, hb.keep⟩
end Go.Proofs.YtbdkalpljhpnmaaGreat

/- kalendsref03.Block. -/
namespace Go.Proofs.YtbdkalpljhpnmaaGreat
open Go Go.RowKit

/-- One byte under a mask. -/
def xb3 (m : Int) (x : UInt8) : UInt8 := byteOf (bits BinOp.xor IntKind.u8 x.toNat m)
theorem u8_xor3 (x : UInt8) (m : Int) : 0 ≤ bits BinOp.xor IntKind.u8 x.toNat m ∧ bits BinOp.xor IntKind.u8 x.toNat m < 256 := by
  unfold bits
  simp only [IntKind.wrap, IntKind.bits, IntKind.signed]
  constructor
  · exact Int.emod_nonneg _ (by decide)
  · exact Int.emod_lt_of_pos _ (by decide)
theorem xb3_cell (m : Int) (x : UInt8) : Extern.Stop.cell (xb3 m x) = .int .u8 (bits BinOp.xor IntKind.u8 x.toNat m) := by
  obtain ⟨h1, h2⟩ := u8_xor3 x m
  unfold xb3
  rw [byteOf_cell]
  congr 1
  omega
def block03 (m : Int) (d : List UInt8) : List UInt8 := d.map (xb3 m) ++ List.replicate 32 (byteOf m)
theorem block03_len (m : Int) (d : List UInt8) (h : d.length = 32) : (block03 m d).length = 64 := by simp [block03, h]
theorem byteOf_m (m : Int) (h0 : 0 ≤ m) (h1 : m < 256) : Extern.Stop.cell (byteOf m) = .int .u8 m := by
  rw [byteOf_cell]
  congr 1
  omega
set_option maxRecDepth 10000 in
set_option maxHeartbeats 1000000 in
theorem block03_r (m : Int) (d : List UInt8) (w : World) (hd : d.length = 32) (h0 : 0 ≤ m) (h1 : m < 256) :
    Calls Tryz.prog 49 #[.agg (refCells d).toArray, .int .u8 m] w (BsQ w.heap.size (.slice none 0 0) w (block03 m d)) := by
  obtain ⟨i0, hi, hz0, hz1, hz2⟩ := info_parts info_u8
  have HI := Lib.hid hi
  have HZ0 := Lib.hid hz0
  have HZ1 := Lib.hid hz1
  have HZ2 := Lib.hid hz2
  clear hi hz0 hz1 hz2
  have HF := Lib.hid (CB.fresh w (refCells d).toArray 29)
  have HD := Lib.hid hd
  obtain ⟨xs, hxs⟩ : ∃ l, d.map (xb3 m) = l := ⟨_, rfl⟩
  have HXL : Hid (xs.length = 32) := Lib.hid (by rw [← hxs, List.length_map, hd])
  have HXS := Lib.hid hxs
  obtain ⟨ys, hys⟩ : ∃ l, List.replicate 32 (byteOf m) = l := ⟨_, rfl⟩
  have HYL : Hid (ys.length = 32) := Lib.hid (by rw [← hys, List.length_replicate])
  have HYS := Lib.hid hys
  have HM := Lib.hid (byteOf_m m h0 h1)
  clear hd hxs hys
  go_enter Tryz.func49, Tryz.ntmps49
  go_wp2_with fail
  go_loopw [5, 6] (fun b i wr => CRel w.heap.size (.slice none 0 0) w (refCells d).toArray (fun k => xs.take k) 32 b i wr) (fun _ i _ => 32 - (intOf i).toNat)
  case atStart => exact ⟨0, 0, 0, _, Nat.zero_le _, rfl, by go_num, HF.out⟩
  case round =>
    obtain ⟨k, n, c, A, hk, rfl, rfl, hb⟩ := hrel
    have HB : Hid (CB w.heap.size (.slice none 0 0) w (refCells d).toArray (xs.take k) A n c wr) := Lib.hid hb
    have hn : n = k := by rw [← hb.len]; show (xs.take k).length = k; rw [List.length_take, HXL.out]; omega
    have hsz : w.heap.size ≤ wr.heap.size := hb.keep.size
    clear hb
    subst hn
    by_cases hlt : (n : Int) < 32
    · obtain ⟨x, hx⟩ : ∃ x, d[n]? = some x := ⟨_, List.getElem?_eq_getElem (by rw [HD.out]; omega)⟩
      have v0 : wr.cell? ⟨w.heap.size, n, none⟩ = some (.int .u8 (x.toNat : Int)) := by rw [HB.out.row.2 n, List.getElem?_toArray]; unfold refCells; rw [List.getElem?_map, hx]; rfl
      have HX : Hid (xs[n]? = some (xb3 m x)) := Lib.hid (by rw [← HXS.out, List.getElem?_map, hx]; rfl)
      have HXC := Lib.hid (xb3_cell m x)
      clear hx
      obtain ⟨pre, hpre⟩ : ∃ l, xs.take n = l := ⟨_, rfl⟩
      have HPRE := Lib.hid hpre
      rw [hpre] at HB
      clear hpre
      have HOA := Lib.hid (World.ownsRow.alloc HB.out.own (.cells #[Value.int .u8 (bits BinOp.xor IntKind.u8 x.toNat m)] 5))
      go_wp2_with (at_builtin; go_must (refine wpList_append_own_at _ rfl _ _ 23 rfl w.heap.size 5 i0 (.int .u8 0) 1 1 Tryz.underlying23 HI.out HZ0.out HZ1.out HZ2.out rfl (by decide) _ n ((pre).map Extern.Stop.cell) rfl HOA.out _ 1 1 [Value.int .u8 (bits BinOp.xor IntKind.u8 x.toNat m)] rfl rfl (cell_one_new _ _ _) (u8_one _) (by unfold maxLen; omega) (by omega) (by simp; omega) ?_))
      intro v' w3 hown hg _ hat
      obtain ⟨A', c', rfl⟩ := own_formB hown
      have H2 := Lib.hid (HB.out.grown (bs' := xs.take (n + 1)) (by unfold BsO; rw [take_snoc xs n _ HX.out, HPRE.out, List.map_append]; show World.ownsRow _ _ _ _ _ _ (_ ++ [Extern.Stop.cell _]); rw [HXC.out]; exact hown) (by rw [List.length_take, HXL.out]; omega) hg hat)
      clear hown hg hat
      go_wp2_with fail
      go_roundw
      case rel => exact ⟨n + 1, n + 1, c', A', by omega, rfl, by go_num, H2.out⟩
      case measure => simp [intOf]; omega
    · have HN32 : Hid (n = 32) := Lib.hid (by omega)
      have HB3 : Hid (CB w.heap.size (.slice none 0 0) w (refCells d).toArray (xs ++ ys.take 0) A n c wr) := Lib.hid (by have hb := HB.out; rw [HN32.out, List.take_of_length_le (Nat.le_of_eq HXL.out), ← HN32.out] at hb; simpa using hb)
      go_wp2_with fail
      go_loopw [5, 7] (fun b i wr => CRel w.heap.size (.slice none 0 0) w (refCells d).toArray (fun k => xs ++ ys.take k) 32 b i wr) (fun _ i _ => 32 - (intOf i).toNat)
      case atStart => exact ⟨0, n, c, A, Nat.zero_le _, rfl, by go_num, HB3.out⟩
      case round =>
        clear HB HB3 hsz hk hlt
        obtain ⟨k, n2, c, A, hk, rfl, rfl, hb⟩ := hrel
        have HB : Hid (CB w.heap.size (.slice none 0 0) w (refCells d).toArray (xs ++ ys.take k) A n2 c wr) := Lib.hid hb
        have hn : n2 = 32 + k := by rw [← hb.len]; show (xs ++ ys.take k).length = 32 + k; rw [List.length_append, List.length_take, HXL.out, HYL.out]; omega
        have hsz : w.heap.size ≤ wr.heap.size := hb.keep.size
        clear hb
        subst hn
        by_cases hlt : (k : Int) < 32
        · have HX : Hid (ys[k]? = some (byteOf m)) := Lib.hid (by rw [← HYS.out, List.getElem?_replicate, if_pos (by omega)])
          obtain ⟨pre, hpre⟩ : ∃ l, xs ++ ys.take k = l := ⟨_, rfl⟩
          have HPRE := Lib.hid hpre
          rw [hpre] at HB
          clear hpre
          have HOA := Lib.hid (World.ownsRow.alloc HB.out.own (.cells #[Value.int .u8 m] 5))
          go_wp2_with (at_builtin; go_must (refine wpList_append_own_at _ rfl _ _ 23 rfl w.heap.size 5 i0 (.int .u8 0) 1 1 Tryz.underlying23 HI.out HZ0.out HZ1.out HZ2.out rfl (by decide) _ (32 + k) ((pre).map Extern.Stop.cell) rfl HOA.out _ 1 1 [Value.int .u8 m] rfl rfl (cell_one_new _ _ _) (u8_one _) (by unfold maxLen; omega) (by omega) (by simp; omega) ?_))
          intro v' w3 hown hg _ hat
          obtain ⟨A', c', rfl⟩ := own_formB hown
          have H2 := Lib.hid (HB.out.grown (bs' := xs ++ ys.take (k + 1)) (n' := 32 + k + 1) (by unfold BsO; rw [take_snoc ys k _ HX.out, ← List.append_assoc, HPRE.out, List.map_append]; show World.ownsRow _ _ _ _ _ _ (_ ++ [Extern.Stop.cell _]); rw [HM.out]; exact hown) (by rw [List.length_append, List.length_take, HXL.out, HYL.out]; omega) hg hat)
          clear hown hg hat
          go_wp2_with fail
          go_roundw
          case rel => exact ⟨k + 1, 32 + k + 1, c', A', by omega, rfl, by go_num, H2.out⟩
          case measure => simp [intOf]; omega
        · have HN : Hid (k = 32) := Lib.hid (by omega)
          go_wp2_with fail
          go_ret
          have hb := HB.out
          have hk := HN.out
          subst hk
          rw [List.take_of_length_le (Nat.le_of_eq HYL.out), ← HXS.out, ← HYS.out] at hb
          exact ⟨A, 64, c, block03_len m d HD.out, rfl, hb.own, hb.keep⟩
end Go.Proofs.YtbdkalpljhpnmaaGreat

/- kalendsref03.padded. -/
namespace Go.Proofs.YtbdkalpljhpnmaaGreat
open Go Go.RowKit

/-- A list of the call's own, and nothing else changed. -/
structure PB (v0 : Value) (w : World) (bs : List UInt8) (A : Option Addr) (n c : Nat) (W : World) : Prop where
  own : BsO w.heap.size W A n c bs
  len : bs.length = n
  keep : RwK v0 w (.slice A n c) W
theorem PB.grown {n c n' c' : Nat} {v0 : Value} {A A' : Option Addr} {w W W' : World} {o : Obj} {bs bs' : List UInt8} (h : PB v0 w bs A n c W) (hO : BsO w.heap.size W' A' n' c' bs') (hl : bs'.length = n') (hg : (W.alloc o).grownBy W' (Value.slice A n c).ownBlock) (hat : (Value.slice A' n' c').ownBlock = (Value.slice A n c).ownBlock ∨ (Value.slice A' n' c').ownBlock = some (W.heap.size + 1)) : PB v0 w bs' A' n' c' W' :=
  ⟨hO, hl, h.keep.trans (RwK.app hg (hat.imp id fun e => e.trans (by simp)))⟩
def lenV : Value → Nat
  | .slice _ m _ => m
  | _ => 0
/-- How many zeros. -/
def padN (n : Nat) : Nat := (120 - (n + 1) % 64) % 64
theorem padN_mod (n : Nat) : (n + 1 + padN n) % 64 = 56 := by unfold padN; omega
theorem padN_lt (n : Nat) : padN n < 64 := Nat.mod_lt _ (by omega)
def PadP (w : World) (n : Nat) (e : Ending) (w' : World) : Prop := ∃ ps : List UInt8, ps.length = n + 9 + padN n ∧ BsQ w.heap.size (.slice none 0 0) w ps e w'
theorem PB.fresh {w W : World} {A : Option Addr} {n c : Nat} {bs : List UInt8} (h : BsO w.heap.size W A n c bs) (hl : bs.length = n) (hg : (w.alloc (.cells #[] 5)).grownBy W (some w.heap.size)) (hat : (Value.slice A n c).ownBlock = some w.heap.size ∨ (Value.slice A n c).ownBlock = some (w.heap.size + 1)) : PB (.slice none 0 0) w bs A n c W := by
  refine ⟨h, hl, hg.os, hg.tape, hg.output, Nat.le_trans (by simp) hg.size, fun k hk _ => (hg.block k (by simp; omega) (fun e => by injection e; omega)).trans (Below.heap_alloc w _ k hk), .inr ?_⟩
  rcases hat with e | e
  · exact ⟨_, e, by omega⟩
  · exact ⟨_, e, by omega⟩
set_option maxRecDepth 10000 in
set_option maxHeartbeats 1000000 in
theorem padded_r (n c : Nat) (A : Option Addr) (bs : List UInt8) (w : World) (hl : bs.length = n) (h0 : 0 < n) (hn : n ≤ 200000) (hb : CellsAt w w.heap.size A (bs.map Extern.Stop.cell)) :
    Calls Tryz.prog 65 #[.slice A n c] w (PadP w n) := by
  obtain ⟨i0, hi, hz0, hz1, hz2⟩ := info_parts info_u8
  have HI := Lib.hid hi
  have HZ0 := Lib.hid hz0
  have HZ1 := Lib.hid hz1
  have HZ2 := Lib.hid hz2
  clear hi hz0 hz1 hz2
  obtain ⟨b, off, rfl, hbo, hcl⟩ := hb.there (by rw [List.length_map]; omega)
  have hb0 : ∀ j u, (bs.map Extern.Stop.cell)[j]? = some u → (w.alloc (.cells #[] 5)).cell? ((⟨b, off, none⟩ : Addr).add j) = some u := cells_news hb
  have HB0 := Lib.hid hb0
  have HE := Lib.hid (own_emptyE w 5 1)
  have HL := Lib.hid hl
  have HNL : Hid ((bs.map Extern.Stop.cell).length = n * 1) := Lib.hid (by rw [List.length_map, hl, Nat.mul_one])
  have HONE : Hid (∀ u ∈ bs.map Extern.Stop.cell, u.oneCell' = true) := Lib.hid (fun u hu => by obtain ⟨x, _, rfl⟩ := List.mem_map.1 hu; rfl)
  clear hb0 hcl hb hl
  go_enter Tryz.func65, Tryz.ntmps65
  go_wp2_with (at_builtin; go_must (refine wpList_append_own_at _ rfl _ _ 23 rfl w.heap.size 5 i0 (.int .u8 0) 1 1 Tryz.underlying23 HI.out HZ0.out HZ1.out HZ2.out rfl (by decide) _ 0 [] rfl HE.out ⟨b, off, none⟩ n c (bs.map Extern.Stop.cell) rfl HNL.out HB0.out HONE.out (by unfold maxLen; omega) (by omega) (by simp) ?_))
  intro v' w1 hown hg _ hat
  obtain ⟨A1, c1, rfl⟩ := own_formB hown
  have H1 : Hid (PB (.slice none 0 0) w bs A1 n c1 w1) := Lib.hid (PB.fresh (by unfold BsO; simpa using hown) HL.out hg hat)
  have hsz : w.heap.size ≤ w1.heap.size := H1.out.keep.size
  clear hown hg hat
  have HOA := Lib.hid (World.ownsRow.alloc H1.out.own (.cells #[Value.int .u8 128] 5))
  go_wp2_with (at_builtin; go_must (refine wpList_append_own_at _ rfl _ _ 23 rfl w.heap.size 5 i0 (.int .u8 0) 1 1 Tryz.underlying23 HI.out HZ0.out HZ1.out HZ2.out rfl (by decide) _ n ((bs).map Extern.Stop.cell) rfl HOA.out _ 1 1 [Value.int .u8 128] rfl rfl (cell_one_new _ _ _) (u8_one _) (by unfold maxLen; omega) (by omega) (by simp; omega) ?_))
  intro v' w2 hown hg _ hat
  obtain ⟨A2, c2, rfl⟩ := own_formB hown
  have H2 := Lib.hid (H1.out.grown (bs' := bs ++ [128]) (by unfold BsO; rw [List.map_append]; exact hown) (by rw [List.length_append, HL.out]; rfl) hg hat)
  clear hown hg hat
  have hpl := padN_lt n
  have HPM := Lib.hid (padN_mod n)
  obtain ⟨p, hp⟩ : ∃ p, padN n = p := ⟨_, rfl⟩
  have HP := Lib.hid hp
  rw [hp] at hpl HPM
  clear hp hsz
  go_wp2_with fail
  go_loopw [3] (fun b wr => ∃ k n2 c A, k ≤ p ∧ n2 = n + 1 + k ∧ b = .slice A n2 c ∧ PB (.slice none 0 0) w (bs ++ [128] ++ List.replicate k 0) A n2 c wr) (fun b _ => n + 1 + p - lenV b)
  case atStart => exact ⟨0, n + 1, c2, A2, Nat.zero_le _, rfl, rfl, by simpa using H2.out⟩
  case round =>
    obtain ⟨k, n2, c3, A3, hk, hn2, rfl, hb⟩ := hrel
    have HB := Lib.hid hb
    have hsz : w.heap.size ≤ wr.heap.size := hb.keep.size
    clear hb
    have ht : ((n2 : Int)).tmod 64 = ((n2 % 64 : Nat) : Int) := by rw [Int.tmod_eq_emod_of_nonneg (by omega)]; rfl
    obtain ⟨q, hq⟩ : ∃ q, n2 % 64 = q := ⟨_, rfl⟩
    rw [hq] at ht
    have ht2 : ((n2 : Int)) % 64 = (q : Int) := by omega
    have hkp : q ≠ 56 → k < p := by
      intro hqe
      have := HPM.out
      rcases Nat.lt_or_ge k p with h | h
      · exact h
      · have e : k = p := by omega
        subst e
        subst hn2
        omega
    have HN2 := Lib.hid hn2
    have hn2b : n2 ≤ n + 64 := by omega
    clear hn2 hq
    by_cases hqe : q = 56
    · subst hqe
      go_wp2_with fail
      have H4 : Hid (∃ ps : List UInt8, ps.length = n2 ∧ PB (.slice none 0 0) w ps A3 n2 c3 wr) := Lib.hid ⟨_, HB.out.len, HB.out⟩
      have HQE : Hid (n2 % 64 = 56) := Lib.hid (by omega)
      have HN5 : Hid (n2 = n + 1 + p) := Lib.hid (by
        have h1 := HN2.out
        have h2 := HPM.out
        have h3 := HQE.out
        omega)
      clear HB hkp hsz ht ht2 hk
      go_loopw [3, 5] (fun b i wr => ∃ (j n3 c : Nat) (A : Option Addr) (ps : List UInt8), j ≤ 8 ∧ n3 = n2 + j ∧ b = .slice A n3 c ∧ i = .int .i64 (7 - (j : Int)) ∧ ps.length = n3 ∧ PB (.slice none 0 0) w ps A n3 c wr) (fun _ i _ => (intOf i + 1).toNat)
      case atStart => exact H4.out.elim fun ps h => ⟨0, n2, c3, A3, ps, Nat.zero_le _, rfl, rfl, by go_num, h.1, h.2⟩
      case round =>
        obtain ⟨j, n3, c4, A4, ps, hj, hn3, rfl, rfl, hpl2, hb⟩ := hrel
        have HB := Lib.hid hb
        have HN3 := Lib.hid hn3
        have HPL := Lib.hid hpl2
        have hsz : w.heap.size ≤ wr.heap.size := hb.keep.size
        have hn3b : n3 ≤ n + 80 := by omega
        clear hb hn3 hpl2
        by_cases hlt : j < 8
        · obtain ⟨i, hi⟩ : ∃ i : Int, 7 - (j : Int) = i := ⟨_, rfl⟩
          have hi0 : 0 ≤ i := by omega
          have hi1 : i ≤ 7 := by omega
          have HIJ := Lib.hid hi
          rw [hi]
          clear hi
          have HBC := Lib.hid (byteOf_cell (8 * (n : Int) / 2 ^ (8 * i).toNat))
          have HOA := Lib.hid (World.ownsRow.alloc HB.out.own (.cells #[Value.int .u8 (8 * (n : Int) / 2 ^ (8 * i).toNat % 256)] 5))
          go_wp2_with (at_builtin; go_must (refine wpList_append_own_at _ rfl _ _ 23 rfl w.heap.size 5 i0 (.int .u8 0) 1 1 Tryz.underlying23 HI.out HZ0.out HZ1.out HZ2.out rfl (by decide) _ n3 ((ps).map Extern.Stop.cell) rfl HOA.out _ 1 1 [Value.int .u8 (8 * (n : Int) / 2 ^ (8 * i).toNat % 256)] rfl rfl (cell_one_new _ _ _) (u8_one _) (by unfold maxLen; omega) (by omega) (by simp; omega) ?_))
          intro v' w3 hown hg _ hat
          obtain ⟨A', c', rfl⟩ := own_formB hown
          have H5 := Lib.hid (HB.out.grown (bs' := ps ++ [byteOf (8 * (n : Int) / 2 ^ (8 * i).toNat)]) (n' := n3 + 1) (by unfold BsO; rw [List.map_append]; show World.ownsRow _ _ _ _ _ _ (_ ++ [Extern.Stop.cell _]); rw [HBC.out]; exact hown) (by rw [List.length_append, HPL.out]; rfl) hg hat)
          clear hown hg hat
          go_wp2_with fail
          go_roundw
          case rel => exact ⟨j + 1, n3 + 1, c', A', _, by omega, by have := HN3.out; omega, rfl, by have := HIJ.out; congr 1; omega, H5.out.len, H5.out⟩
          case measure => simp [intOf]; omega
        · have HJ : Hid (j = 8) := Lib.hid (by omega)
          have hz : 7 - (j : Int) < 0 := by omega
          have HN8 : Hid (n3 = n + 9 + p) := Lib.hid (by have := HN3.out; have := HN5.out; have := HJ.out; omega)
          go_wp2_with fail
          go_ret
          exact ⟨ps, by rw [HPL.out, HN8.out, HP.out], A4, n3, c4, HPL.out, rfl, HB.out.own, HB.out.keep⟩
    · have hne : ((q : Int) != 56) = true := by rw [bne_iff_ne]; omega
      have hkp2 := hkp hqe
      clear hkp
      obtain ⟨pre, hpre⟩ : ∃ l : List UInt8, bs ++ [128] ++ List.replicate k 0 = l := ⟨_, rfl⟩
      have HPRE := Lib.hid hpre
      rw [hpre] at HB
      clear hpre
      have HOA := Lib.hid (World.ownsRow.alloc HB.out.own (.cells #[Value.int .u8 0] 5))
      go_wp2_with (at_builtin; go_must (refine wpList_append_own_at _ rfl _ _ 23 rfl w.heap.size 5 i0 (.int .u8 0) 1 1 Tryz.underlying23 HI.out HZ0.out HZ1.out HZ2.out rfl (by decide) _ n2 ((pre).map Extern.Stop.cell) rfl HOA.out _ 1 1 [Value.int .u8 0] rfl rfl (cell_one_new _ _ _) (u8_one _) (by unfold maxLen; omega) (by omega) (by simp; omega) ?_))
      intro v' w3 hown hg _ hat
      obtain ⟨A', c', rfl⟩ := own_formB hown
      have H3 := Lib.hid (HB.out.grown (bs' := bs ++ [128] ++ List.replicate (k + 1) 0) (n' := n2 + 1) (by unfold BsO; rw [List.replicate_succ', ← List.append_assoc, HPRE.out, List.map_append]; exact hown) (by have := HN2.out; simp [HL.out]; omega) hg hat)
      clear hown hg hat
      go_wp2_with fail
      go_roundw
      case rel => exact ⟨k + 1, n2 + 1, c', A', by omega, by have := HN2.out; omega, rfl, H3.out⟩
      case measure => have := HN2.out; simp [lenV]; omega
end Go.Proofs.YtbdkalpljhpnmaaGreat

/- kalendsref03.turn, rounds. -/
namespace Go.Proofs.YtbdkalpljhpnmaaGreat
open Go Go.RowKit

/-- What kalendsref03.turn gives. -/
def turn3F (x n : Int) : Int := bits BinOp.or IntKind.u32 (x / 2 ^ n.toNat) (x * 2 ^ (32 - n).toNat % 4294967296)
set_option maxRecDepth 10000 in
set_option maxHeartbeats 1000000 in
theorem turn_r (x n : Int) (w : World) (h0 : 0 < n) (h1 : n < 32) :
    Calls Tryz.prog 89 #[.int .u32 x, I n] w fun e w' => e = .returned (.int .u32 (turn3F x n)) ∧ ∃ k, w' = w.drewN k := by
  have h2 : 0 ≤ 32 - n := by omega
  have h3 : IntKind.i64.wrap (32 - n) = 32 - n := by rw [IntKind.wrap_i64]; omega
  go_enter Tryz.func89, Tryz.ntmps89
  go_wp2_with fail
  go_quiet (fail)
  go_wp2_with fail
  go_ret
  exact ⟨rfl, _, rfl⟩
end Go.Proofs.YtbdkalpljhpnmaaGreat

/- kalendsref03.rounds. -/
namespace Go.Proofs.YtbdkalpljhpnmaaGreat
open Go Go.RowKit

/-- The round constants. -/
def rk3 : List Int := [1116352408, 1899447441, 3049323471, 3921009573, 961987163, 1508970993, 2453635748, 2870763221, 3624381080, 310598401, 607225278, 1426881987, 1925078388, 2162078206, 2614888103, 3248222580, 3835390401, 4022224774, 264347078, 604807628, 770255983, 1249150122, 1555081692, 1996064986, 2554220882, 2821834349, 2952996808, 3210313671, 3336571891, 3584528711, 113926993, 338241895, 666307205, 773529912, 1294757372, 1396182291, 1695183700, 1986661051, 2177026350, 2456956037, 2730485921, 2820302411, 3259730800, 3345764771, 3516065817, 3600352804, 4094571909, 275423344, 430227734, 506948616, 659060556, 883997877, 958139571, 1322822218, 1537002063, 1747873779, 1955562222, 2024104815, 2227730452, 2361852424, 2428436474, 2756734187, 3204031479, 3329325298]
def u32s (l : List Int) : Array Value := (l.map (Value.int .u32)).toArray
theorem u32s_one (l : List Int) : (u32s l).all (·.oneCell') = true := by
  unfold u32s
  rw [Array.all_eq_true']
  intro u hu
  simp only [List.mem_toArray, List.mem_map] at hu
  obtain ⟨x, _, rfl⟩ := hu
  rfl
set_option maxRecDepth 10000 in
set_option maxHeartbeats 2000000 in
theorem rounds_r (w : World) : Calls Tryz.prog 88 #[] w (Gives (.agg (u32s rk3)) w) := by
  go_enter Tryz.func88, Tryz.ntmps88
  go_wp2_with ((with_reducible refine g_sto 187 ?_); go_must (refine wpList_store_row rfl _ _ _ rfl w.heap.size (u32s rk3) rfl rfl 187 (u32s (List.replicate 64 0)) (heap_alloc_last w _) (by kernel_rfl) rfl (u32s_one _) ?_))
  refine bodyPost_ret (v := .agg (u32s rk3)) (results_cell_row rfl _ _ w.heap.size _ (u32s rk3) (0, 0) _ rfl (setRow_heap _ _ _ _ _ _ (heap_alloc_last w _)) Tryz.underlying187 rfl (by kernel_rfl)) rfl ?_
  exact ⟨rfl, below_setRow (below_var w _) (Nat.le_refl _) _⟩
end Go.Proofs.YtbdkalpljhpnmaaGreat

/- arrays of 32-bit numbers. -/
namespace Go.Proofs.YtbdkalpljhpnmaaGreat
open Go Go.RowKit

/-- x rotated to the left by s bits. -/
def rotv (x s : Int) : Int := bits BinOp.or IntKind.u32 (x * 2 ^ s.toNat % 4294967296) (x / 2 ^ (32 - s).toNat)
/-- Numbers of 32 bits, as they lie. -/
def cellsU (zs : List Int) : Array Value := (zs.map fun z => Value.int .u32 z).toArray
theorem cellsU_size (zs : List Int) : (cellsU zs).size = zs.length := by simp [cellsU]
theorem cellsU_get (zs : List Int) (i : Nat) (h : i < zs.length) : (cellsU zs)[i]? = some (.int .u32 (zs[i]?.getD 0)) := by
  simp [cellsU, h]
theorem cellsU_set (zs : List Int) (i : Nat) (z : Int) : (cellsU zs).setIfInBounds i (.int .u32 z) = cellsU (zs.set i z) := by
  simp [cellsU, List.map_set]
theorem cellsU_one (zs : List Int) : (cellsU zs).all (·.oneCell') = true := by
  rw [Array.all_eq_true_iff_forall_mem]
  intro v hv
  simp [cellsU] at hv
  obtain ⟨z, _, rfl⟩ := hv
  rfl
section
variable {P : Program} {ops : Array Oper} {Q : Exit → Act → World → Prop} {a : Act} {w : World} {rest : List Oper} {o : Oper}
/-- 'var x T' of an array or a struct whose zero's cells have a name. -/
theorem wpList_alloc_nm (hg : o.guard = none) (t : TypeId) (ho : o.op = .alloc t) (cells : Array Value) (hz : (P.info? t).map (fun i => (i.zero, i.size)) = some (some (.agg cells), cells.size))
    (h : wpList P ops Q rest (a.put o.dst (.pointer (some ⟨w.heap.size, 0, none⟩))) (w.alloc (.cells cells t))) : wpList P ops Q (o :: rest) a w := by
  refine wpList_plain hg fun K hK => ?_
  unfold Oper.wp execOp
  simp only [ho, Sem.run_bind, run_alloc_var w t (.agg cells) _ hz, Result.andThen_ok]
  exact hK _ _ h
end
/-- The cells of a block, all of them. -/
def RowU (w : World) (b : Nat) (cs : Array Value) : Prop := b < w.heap.size ∧ ∀ i, w.cell? ⟨b, i, none⟩ = cs[i]?
section
variable {P : Program} {ops : Array Oper} {Q : Exit → Act → World → Prop} {a : Act} {w : World} {rest : List Oper} {o : Oper}
theorem wpList_load_nm (hw : Region.wanted o (yielded ops a.tmps) = true) (ty : TypeId) (x : Operand) (ho : o.op = .load ty x) (g : Nat) (hx : a.eval x = .pointer (some ⟨g, 0, none⟩)) (cs : Array Value) (hr : RowU w g cs)
    (d : TypeDesc) (hu : P.underlying ty = some d) (hd : d.isRow = true) (hi : (P.info? ty).map (·.size) = some cs.size)
    (h : wpList P ops Q rest (a.put o.dst (.agg cs)) w) : wpList P ops Q (o :: rest) a w := by
  unfold wpList
  rw [if_pos hw]
  have hc : w.rangeAt g 0 cs.toList := fun j v hv => by rw [Nat.zero_add, hr.2 j]; simpa using hv
  refine .inl (wp_load_mid ty x ho g 0 hx cs.toList d hc hu hd (by rw [hi]; simp) ?_)
  simpa using h
end
theorem below_setRow' {B g : Nat} {w0 w : World} (hb : Below B w0 w) (hBg : B ≤ g) (cs : Array Value) : Below B w0 (w.setRow g cs) :=
  hb.trans ⟨rfl, rfl, rfl, by simp [World.setRow], fun k hk => setRow_other w g k cs (by omega)⟩
/-- An array's variable, whole. -/
structure AV (b : Nat) (t : TypeId) (cs : Array Value) (W : World) : Prop where
  var : W.heap[b]? = some (.cells cs t (0, 0))
section
variable {b g : Nat} {t : TypeId} {cs : Array Value} {W W' : World}
theorem AV.lt (h : AV b t cs W) : b < W.heap.size := (Array.getElem?_eq_some_iff.1 h.var).1
theorem AV.cell (h : AV b t cs W) : ∀ i, W.cell? ⟨b, i, none⟩ = cs[i]? := fun i => cell_of_row W _ i _ _ _ h.var
theorem AV.froz (h : AV b t cs W) : ∀ i, W.frozen? ⟨b, i, none⟩ = false := fun i => frozen_of_row W _ i _ _ h.var
theorem AV.below (h : AV b t cs W) (hb : Below W.heap.size W W') : AV b t cs W' := ⟨(hb.block _ h.lt).trans h.var⟩
theorem AV.put (h : AV b t cs W) (o : Nat) (v : Value) : AV b t (cs.setIfInBounds o v) (W.setCell ⟨b, o, none⟩ v) := ⟨heap_setCell_same W _ o _ _ _ h.var⟩
theorem AV.far (h : AV b t cs W) (hn : b ≠ g) (o : Nat) (v : Value) : AV b t cs (W.setCell ⟨g, o, none⟩ v) := ⟨(heap_setCell_other W _ b v hn).trans h.var⟩
theorem AV.drew (h : AV b t cs W) : AV b t cs W.drew := ⟨h.var⟩
theorem AV.new (W : World) (cs : Array Value) (t : TypeId) : AV W.heap.size t cs (W.alloc (.cells cs t)) := ⟨heap_alloc_last W _⟩
end
theorem zero64_info : (Tryz.prog.info? 187).map (fun i => (i.zero, i.size)) = some (some (.agg (cellsU (List.replicate 64 0))), (cellsU (List.replicate 64 0)).size) := by kernel_rfl
theorem u32s_eq (l : List Int) : u32s l = cellsU l := rfl
theorem turn_quiet (x n : Int) (w : World) (k : Nat) (h0 : 0 < n) (h1 : n < 32) : Calls Tryz.prog 89 #[.int .u32 x, I n] (w.drewN k) fun e w'' => e = .returned (.int .u32 (turn3F x n)) ∧ ∃ m, w'' = w.drewN m :=
  Calls.quiet_of (turn_r x n _ h0 h1)
end Go.Proofs.YtbdkalpljhpnmaaGreat
