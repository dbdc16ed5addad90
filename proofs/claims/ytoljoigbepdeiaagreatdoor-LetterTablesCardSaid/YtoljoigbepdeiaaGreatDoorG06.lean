/- The texts TrR, BytesW, ReadW, TrS, DgR, DgS, in this order. -/
import Derived.Test.YtoljoigbepdeiaaGreatDoorG05
import Derived.BigQuiet
import Derived.Deep.AppendLies
import Derived.Deep.CutBlock
import Derived.Deep.DeepCutAuto
import Derived.Deep.DrawnRows
import Derived.Deep.MidRow
import Derived.Deep.QuietTactic
import Derived.Deep.RegionHeld3
import Derived.Deep.RegionLaw
import Derived.Deep.WholeRow
import Derived.Defers
import Derived.Great.BuildSlice
import Derived.Laws.BytesString
import Derived.Laws.CopyOwn
import Derived.Laws.EntriesVeiled
import Derived.Laws.MakeOwn
import Derived.Laws.ResultCell
import Derived.Laws.Rows
import Derived.Laws.Tables
import Derived.Lib.Hide
import Derived.LoopIn
import Derived.LoopNIn
import Derived.Maps.AppendAt
import Derived.Outline
import Derived.OwnWalkIn
import Derived.RangeFuncBound
import Derived.RangeFuncBox
import Derived.RangeFuncCalls
import Derived.RangeFuncLeaves
import Derived.RangeFuncNested
import Derived.Recover
import Derived.Shelf.Abstract
import Derived.Shelf.Bytes.SlSmallAll
import Derived.Shelf.RegionOpen
import Derived.StillTailTactics
import Derived.Stop.BytesEq
import Derived.TacticsInMore
import Derived.WalkKit
import Derived.WalkLawsBesides
import Derived.WalkSpells
import Derived.Test.YtoljoigbepdeiaaGreatDoorG01
import Derived.Test.YtoljoigbepdeiaaGreatDoorG02
import Derived.Test.YtoljoigbepdeiaaGreatDoorUses
/- table.read and table.Read of a flat table's bytes. -/
namespace Go.Proofs.YtoljoigbepdeiaaGreatDoor
open Go Go.RowKit

section
variable {P : Program} {ops : Array Oper} {rest : List Oper} {o : Oper} {a : Act} {w : World}
/-- A load of a whole struct, in a region that draws and only reads. -/
theorem wpStill_row {Q : Act → Prop} (hw : Region.wanted o (yielded ops a.tmps) = true) (ty : TypeId) (x : Operand) (ho : o.op = .load ty x) (g : Nat) (hx : a.eval x = .pointer (some ⟨g, 0, none⟩)) (cs : Array Value) (hr : Row w g cs)
    (d : TypeDesc) (hu : P.underlying ty = some d) (hd : d.isRow = true) (hi : (P.info? ty).map (·.size) = some cs.size)
    (h : wpStill P ops w Q rest (a.put o.dst (.agg cs))) : wpStill P ops w Q (o :: rest) a := by
  refine wpStill_step fun K hK => ?_
  rw [if_pos hw]
  have hc : w.rangeAt g 0 cs.toList := fun j v hv => by rw [Nat.zero_add, hr.2 j]; simpa using hv
  unfold Oper.still execOp
  simp only [ho, hx, Instr.loadAt, Instr.sureAddr, Sem.run_bind, Sem.run_pure, Result.andThen_ok, run_loadVar_mid w g 0 ty cs.toList d hc hu hd (by rw [hi]; simp)]
  exact ⟨rfl, hK _ (by simpa using h)⟩
end
theorem results_row_cell {P : Program} {fn : Func} {p q : Tmp} {t1 t2 : TypeId} (h : fn.results = #[.cell p t1, .cell q t2]) (tmps : Array Value) (w : World) (g g2 : Nat) (t : TypeId) (cs : Array Value) (fr : Nat × Nat) (d : TypeDesc) (v : Value)
    (hp : tmps.getD p undef = .pointer (some ⟨g, 0, none⟩)) (hg : w.heap[g]? = some (.cells cs t fr)) (hu : P.underlying t1 = some d) (hd : (match d with | .struct _ | .array _ _ => true | _ => false) = true) (hi : (P.info? t1).map (·.size) = some cs.size)
    (hq : tmps.getD q undef = .pointer (some ⟨g2, 0, none⟩)) (hv : (loadVar t2 ⟨g2, 0, none⟩).run P w = .ok v w) :
    (results fn tmps).run P w = .ok (.tuple #[.agg cs, v]) w := by
  have hp' : tmps[p]?.getD undef = .pointer (some ⟨g, 0, none⟩) := by simpa using hp
  have hq' : tmps[q]?.getD undef = .pointer (some ⟨g2, 0, none⟩) := by simpa using hq
  simp [results, h, hp', hq', asAddr, run_loadVar_row w g t t1 cs fr d hg hu hd hi, hv]
theorem tcatch_idle (p : Addr) (w : World) :
    CallsD Tryz.prog 63 #[.pointer (some p)] .returning w fun e u' w' => e = .returned (.tuple #[]) ∧ u' = .returning ∧ w' = w := by
  have hnn : ∀ w, (binOp .neq 20 .nilIface .nilIface).run Tryz.prog w = .ok (.bool false) w := fun w => Lib.run_neq_nil_nil w Tryz.underlying20
  refine callsD_of_wpS Tryz.func63 rfl fun c₀ cs hu => ?_
  apply wpS_seq
  apply wpS_region
  simp [wpOpsS, go_sem, recoverD, hu, Tryz.ntmps63, Exit.thenS]
  apply wpS_seq
  apply wpS_region
  simp [wpOpsS, go_sem, hnn, Exit.thenS]
  refine wpS_cond (t := false) (by simp [Act.eval, Array.replicate]) ?_
  simp only [Bool.false_eq_true, if_false]
  refine wpS_of_wp (wp_skip ?_)
  cases c₀
  simp_all [bodyPostS, results, Tryz.results63]
section
variable {P : Program} {ops : Array Oper} {Q : Exit → Act → World → Prop} {md : Region.Mode} {S : World → Prop} {i : Nat} {oi : Oper} {v : Value} {fuel : Nat} {listed : Array Bool} {a : Act} {w : World}
/-- wpAnyH_take, the target of the operation named. -/
theorem wpAnyH_takeD (d : Option Tmp) (hi : ops[i]? = some oi) (hd : oi.dst = d)
    (hs : Region.noSelect ops = true) (hf : Region.free md ops listed i = true) (hr : (Region.ready md ops listed).contains i = true)
    (hQ : ∀ c a w, Q (.panic c) (a.put d v) w → Q (.panic c) a w) (hy : YieldsIf P ops S oi v a) (hS : S w)
    (h : wpAnyH P md ops Q S fuel (listed.setIfInBounds i true) (a.put d v) w) : wpAnyH P md ops Q S (fuel + 1) listed a w := by
  subst hd
  exact wpAnyH_take hi hs hf hr hQ hy hS h
/-- The one operation that may come up stores a whole struct. -/
theorem wpAnyH_storeRow (hr : Region.ready md ops listed = [i]) (ho : ops[i]? = some oi) (hw : Region.wanted oi (yielded ops a.tmps) = true) (ty : TypeId) (x y : Operand) (hop : oi.op = .store ty x y) (hd : oi.dst = none)
    (g : Nat) (cells : Array Value) (hx : a.eval x = .pointer (some ⟨g, 0, none⟩)) (hy : a.eval y = .agg cells) (t : TypeId) (old : Array Value) (hg : w.heap[g]? = some (.cells old t (0, 0))) (hi : (P.info? ty).map (·.size) = some cells.size) (hold : old.size = cells.size) (h1 : cells.all (·.oneCell') = true)
    (hS : S (w.setRow g cells)) (h : S (w.setRow g cells) → wpAnyH P md ops Q S fuel (listed.setIfInBounds i true) a (w.setRow g cells)) : wpAnyH P md ops Q S (fuel + 1) listed a w := by
  refine wpAnyH_ready (rs := [i]) hr (by simp) ?_
  refine AllReadyH.cons ho (fun K hK => ?_) AllReadyH.nil
  rw [if_pos hw]
  refine wp_store_row ty x y hop g cells hx hy t old hg hi hold h1 ?_
  rw [hd]
  exact hK.out a _ hS h
end
theorem TPut.grown {M : Nat} {w0 w w' : World} {rb pb : Nat} {t : TypeId} {cs : Array Value} (h : TPut w rb pb t cs w') (hb : Below M w0 w) (h1 : M ≤ pb) (h2 : M ≤ rb) (hp : pb < w.heap.size) : Below M w0 w' :=
  hb.trans ⟨h.os, h.tape, h.output, h.size, fun k hk => h.block k (by omega) (by omega) (by omega)⟩
/-- What table.read gives. -/
def TrdR (w : World) (t : Tb) (n : Nat) (e : Ending) (w' : World) : Prop :=
  ∃ A c ys, e = .returned (.tuple #[.agg (tbVal { t with mac := zero32 } (.slice A n c)), .bool true]) ∧ ZsOwn w.heap.size w' (.slice A n c) ys ∧ ys.map (·.e) = t.zones ∧ Below w.heap.size w w'
set_option maxRecDepth 10000 in
set_option maxHeartbeats 400000 in
theorem tread_flat (w : World) (t : Tb) (n N b off c : Nat) (h : TbFlat t) (hn : t.zones.length = n) (hN : (tbBytes t).length = N) (hbl : b < w.heap.size) (hc1 : N ≤ c) (hc2 : c ≤ 9223372036854775807)
    (hA : ∀ j, j < N → w.cell? ⟨b, off + j, none⟩ = some (Extern.Stop.cell ((tbBytes t)[j]?.getD 0))) :
    Calls Tryz.prog 40 #[.slice (some ⟨b, off, none⟩) N c] w (TrdR w t n) := by
  have hmf : ∀ (fn : Fn) (first cap : Array Value) (w : World), (Instr.makeFunc fn first cap).run Tryz.prog w = .ok (.func fn first cap) w := fun _ _ _ _ => rfl
  have HF := Lib.hid h
  have HSZ : Hid (∀ v, (Tryz.prog.info? 30).map (·.size) = some (tbVal { t with mac := zero32 } v).size) := Lib.hid fun v => tb_info _ v h.prev rfl
  have HN := Lib.hid hn
  have HNN := Lib.hid hN
  obtain ⟨W, hW⟩ : ∃ W, ((w.alloc (.cells (tbVal zTb (.slice none 0 0)) 30)).alloc (.cells #[.bool false] 4)).alloc (.cells #[.slice (some ⟨b, off, none⟩) N c] 141) = W := ⟨_, rfl⟩
  have hB : Below w.heap.size w W := by rw [← hW]; exact (((Below.refl _ w).alloc (Nat.le_refl _) _).alloc (by simp) _).alloc (by simp; omega) _
  have hs : W.heap.size = w.heap.size + 3 := by rw [← hW]; simp
  have ht : W.heap[w.heap.size]? = some (.cells (tbVal zTb (.slice none 0 0)) 30 (0, 0)) := by rw [← hW]; exact (Below.heap_alloc _ _ _ (by simp; omega)).trans (heap_alloc2_old w _ _)
  have ho : W.heap[w.heap.size + 1]? = some (.cells #[.bool false] 4 (0, 0)) := by rw [← hW]; exact (Below.heap_alloc _ _ _ (by simp)).trans (heap_alloc2_new w _ _)
  have hr : TRd w.heap.size W (w.heap.size + 2) (tbBytes t ++ []) := by
    rw [List.append_nil]
    refine ⟨⟨b, off, c, ?_, by rw [hN]; exact hc1, hc2, hbl, fun j hj => (hB.cell (p := ⟨b, off + j, none⟩) hbl).trans (hA j (by omega))⟩, by omega⟩
    rw [← hW, hN]
    have := heap_alloc_last ((w.alloc (.cells (tbVal zTb (.slice none 0 0)) 30)).alloc (.cells #[.bool false] 4)) (.cells #[.slice (some ⟨b, off, none⟩) N c] 141)
    simpa using this
  have HB := Lib.hid hB
  have HS := Lib.hid hs
  have HO := Lib.hid ho
  have HC := Lib.hid (trwhole w.heap.size W (w.heap.size + 2) w.heap.size n t [] h hn hr ht (Nat.le_refl _) (by omega))
  clear h hn hN hA hB hs ht ho hr
  go_enter_defers Tryz.func40, Tryz.ntmps40
  go_wp2_with fail
  rw [zTb_cells, hW]
  refine HC.out.mono ?_
  rintro e w2 ⟨rfl, A, cz, ys, hr2, hp2, hz2, he2⟩
  have hs0 := HS.out
  have ho2 : w2.heap[w.heap.size + 1]? = some (.cells #[.bool false] 4 (0, 0)) := (hp2.block _ (by omega) (by omega) (by omega)).trans HO.out
  have HB2 := Lib.hid (hp2.grown HB.out (Nat.le_refl _) (by omega) (by omega))
  have HV := Lib.hid hp2.tgt
  have HZ2 := Lib.hid (hz2.lower (lo' := w.heap.size + 3) (by omega))
  have HRW := Lib.hid (Row.of_blk hp2.tgt)
  have HO2 := Lib.hid ho2
  have HE2 := Lib.hid he2
  have hlt2 : w.heap.size + 3 ≤ w2.heap.size := by have := hp2.size; omega
  obtain ⟨bb, o2, c2, hq, _⟩ := hr2.at_
  have hc2 : w2.cell? ⟨w.heap.size + 1 + 1, 0, none⟩ = some (.slice (some ⟨bb, o2, none⟩) 0 c2) := cell_of_row w2 (w.heap.size + 2) 0 _ _ _ hq
  clear hr2 hp2 hz2 he2 ho2 hW HC hq HO HB HS
  go_wp2_with fail
  refine wp_region_noPanic ?_
  refine wp_region_held_drew (S := fun W => Row W w.heap.size (tbVal { t with mac := zero32 } (.slice A n cz)) ∧ W.cell? ⟨w.heap.size + 1 + 1, 0, none⟩ = some (.slice (some ⟨bb, o2, none⟩) 0 c2)) (by kernel_rfl) ⟨⟨HRW.out.1, HRW.out.2⟩, hc2⟩ (fun hH => ?_)
  refine wpAnyH_takeD (i := 0) (some 12) rfl rfl (by kernel_rfl) (by kernel_rfl) (by kernel_rfl) (fun _ _ _ h => h) (yieldsIf_load_mid (by rfl) _ _ rfl w.heap.size 0 rfl (tbVal { t with mac := zero32 } (.slice A n cz)).toList _ (fun W hW j v hv => by rw [Nat.zero_add, hW.1.2 j]; simpa using hv) Tryz.underlying30 rfl (by rw [HSZ.out, Array.length_toList])) hH ?_
  simp only [Act.put, List.setIfInBounds_toArray, List.set_cons_zero, List.set_cons_succ]
  refine wpAnyH_takeD (i := 1) (v := (pt (w.heap.size + 1 + 1))) (some 13) rfl rfl (by kernel_rfl) (by kernel_rfl) (by kernel_rfl) (fun _ _ _ h => h) (Or.inl ⟨by rfl, fun W hW => by obtain ⟨_, hW2⟩ := hW; go_simp⟩) hH ?_
  simp only [Act.put, List.setIfInBounds_toArray, List.set_cons_zero, List.set_cons_succ]
  refine wpAnyH_takeD (i := 2) (v := (pt (w.heap.size + 1 + 1))) (some 14) rfl rfl (by kernel_rfl) (by kernel_rfl) (by kernel_rfl) (fun _ _ _ h => h) (Or.inl ⟨by rfl, fun W hW => by obtain ⟨_, hW2⟩ := hW; go_simp⟩) hH ?_
  simp only [Act.put, List.setIfInBounds_toArray, List.set_cons_zero, List.set_cons_succ]
  refine wpAnyH_takeD (i := 3) (v := (pt (w.heap.size + 1 + 1))) (some 15) rfl rfl (by kernel_rfl) (by kernel_rfl) (by kernel_rfl) (fun _ _ _ h => h) (Or.inl ⟨by rfl, fun W hW => by obtain ⟨_, hW2⟩ := hW; go_simp⟩) hH ?_
  simp only [Act.put, List.setIfInBounds_toArray, List.set_cons_zero, List.set_cons_succ]
  refine wpAnyH_takeD (i := 4) (v := (.slice (some ⟨bb, o2, none⟩) 0 c2)) (some 16) rfl rfl (by kernel_rfl) (by kernel_rfl) (by kernel_rfl) (fun _ _ _ h => h) (Or.inl ⟨by rfl, fun W hW => by obtain ⟨_, hW2⟩ := hW; go_simp⟩) hH ?_
  simp only [Act.put, List.setIfInBounds_toArray, List.set_cons_zero, List.set_cons_succ]
  refine wpAnyH_takeD (i := 5) (v := (I 0)) (some 17) rfl rfl (by kernel_rfl) (by kernel_rfl) (by kernel_rfl) (fun _ _ _ h => h) (Or.inl ⟨by rfl, fun W hW => by obtain ⟨_, hW2⟩ := hW; go_simp⟩) hH ?_
  simp only [Act.put, List.setIfInBounds_toArray, List.set_cons_zero, List.set_cons_succ]
  refine wpAnyH_takeD (i := 6) (v := (.bool true)) (some 18) rfl rfl (by kernel_rfl) (by kernel_rfl) (by kernel_rfl) (fun _ _ _ h => h) (Or.inl ⟨by rfl, fun W hW => by obtain ⟨_, hW2⟩ := hW; go_simp⟩) hH ?_
  simp only [Act.put, List.setIfInBounds_toArray, List.set_cons_zero, List.set_cons_succ]
  have hv2 : w2.drew.heap[w.heap.size]? = some (.cells (tbVal { t with mac := zero32 } (.slice A n cz)) 30 (0, 0)) := HV.out
  have HW3 : Hid ((w2.drew.setRow w.heap.size (tbVal { t with mac := zero32 } (.slice A n cz))).heap[w.heap.size]? = some (.cells (tbVal { t with mac := zero32 } (.slice A n cz)) 30 (0, 0))) := Lib.hid (setRow_heap _ _ _ _ _ _ hv2)
  have HK3 : Hid (∀ k, k ≠ w.heap.size → (w2.drew.setRow w.heap.size (tbVal { t with mac := zero32 } (.slice A n cz))).heap[k]? = w2.heap[k]?) := Lib.hid fun k hk => setRow_other _ _ k _ hk
  have HL3 : Hid ((w2.drew.setRow w.heap.size (tbVal { t with mac := zero32 } (.slice A n cz))).heap.size = w2.heap.size) := Lib.hid (by show (w2.setRow w.heap.size _).heap.size = _; simp [World.setRow])
  have HD3 : Hid ((w2.drew.setRow w.heap.size (tbVal { t with mac := zero32 } (.slice A n cz))).os = w2.os ∧ (w2.drew.setRow w.heap.size (tbVal { t with mac := zero32 } (.slice A n cz))).tape = w2.tape ∧ (w2.drew.setRow w.heap.size (tbVal { t with mac := zero32 } (.slice A n cz))).output = w2.output) := Lib.hid ⟨rfl, rfl, rfl⟩
  have hc3 : (w2.drew.setRow w.heap.size (tbVal { t with mac := zero32 } (.slice A n cz))).cell? ⟨w.heap.size + 1 + 1, 0, none⟩ = some (.slice (some ⟨bb, o2, none⟩) 0 c2) := (World.cell?_of_block (a := ⟨w.heap.size + 1 + 1, 0, none⟩) (HK3.out _ (by show w.heap.size + 1 + 1 ≠ w.heap.size; omega))).trans hc2
  refine wpAnyH_storeRow (i := 7) (by kernel_rfl) rfl (by rfl) _ _ _ rfl rfl w.heap.size (tbVal { t with mac := zero32 } (.slice A n cz)) rfl rfl 30 (tbVal { t with mac := zero32 } (.slice A n cz)) hv2 (HSZ.out _) rfl (tbVal_one _ _ _ _) ⟨Row.of_blk HW3.out, hc3⟩ (fun hH3 => ?_)
  clear hH hH3
  generalize w2.drew.setRow w.heap.size (tbVal { t with mac := zero32 } (.slice A n cz)) = w3 at HW3 HK3 HL3 HD3 hc3 ⊢
  have ho3 : w3.heap[w.heap.size + 1]? = some (.cells #[.bool false] 4 (0, 0)) := (HK3.out _ (by omega)).trans HO2.out
  have hcc := cell_of_row _ (w.heap.size + 1) 0 _ _ _ ho3
  have hfc := frozen_of_row _ (w.heap.size + 1) 0 _ _ ho3
  have HO3 := Lib.hid ho3
  have hS4 : Row (w3.setCell ⟨w.heap.size + 1, 0, none⟩ (.bool true)) w.heap.size (tbVal { t with mac := zero32 } (.slice A n cz)) ∧ (w3.setCell ⟨w.heap.size + 1, 0, none⟩ (.bool true)).cell? ⟨w.heap.size + 1 + 1, 0, none⟩ = some (.slice (some ⟨bb, o2, none⟩) 0 c2) :=
    ⟨Row.of_blk ((heap_setCell_other w3 _ w.heap.size _ (by show w.heap.size ≠ w.heap.size + 1; omega)).trans HW3.out), (World.cell?_of_block (a := ⟨w.heap.size + 1 + 1, 0, none⟩) (heap_setCell_other w3 _ _ _ (by show w.heap.size + 1 + 1 ≠ w.heap.size + 1; omega))).trans hc3⟩
  have HS4 := Lib.hid hS4
  clear hv2 ho3 hS4
  refine wpAnyH_ready (rs := [8]) (by kernel_rfl) (by simp) ?_
  refine AllReadyH.cons rfl (fun K hK => ?_) AllReadyH.nil
  go_simp
  refine hK.out _ _ HS4.out (fun hH4 => ?_)
  refine wpAnyH_done (by kernel_rfl) ?_ _
  refine NoPanic.normal ?_
  clear hK K hH4
  go_wp2_with fail
  refine leaves_cons (f := 63) (args := #[.pointer (some ⟨w.heap.size + 1, 0, none⟩)]) (by simp) (by simp [go_sem]) ?_
  refine (tcatch_idle _ _).mono ?_
  rintro e u' w11 ⟨rfl, rfl, rfl⟩
  have hbl : ∀ k, k ≠ w.heap.size → k ≠ w.heap.size + 1 → (w3.setCell ⟨w.heap.size + 1, 0, none⟩ (.bool true)).heap[k]? = w2.heap[k]? := fun k h1 h2 =>
    (heap_setCell_other _ _ k _ h2).trans (HK3.out k h1)
  have hsz : (w3.setCell ⟨w.heap.size + 1, 0, none⟩ (.bool true)).heap.size = w2.heap.size := by rw [← HL3.out]; simp [World.setCell]
  have hv4 : (w3.setCell ⟨w.heap.size + 1, 0, none⟩ (.bool true)).heap[w.heap.size]? = some (.cells (tbVal { t with mac := zero32 } (.slice A n cz)) 30 (0, 0)) := (heap_setCell_other w3 ⟨w.heap.size + 1, 0, none⟩ w.heap.size _ (by show w.heap.size ≠ w.heap.size + 1; omega)).trans HW3.out
  have hc4 := cell_of_row _ (w.heap.size + 1) 0 _ _ _ (heap_setCell_same _ (w.heap.size + 1) 0 _ _ (.bool true) HO3.out)
  refine ⟨_, results_row_cell rfl _ _ w.heap.size (w.heap.size + 1) _ (tbVal { t with mac := zero32 } (.slice A n cz)) (0, 0) _ (.bool true) rfl hv4 Tryz.underlying30 rfl (HSZ.out _) rfl (load_boolv _ _ _ hc4), A, cz, ys, rfl, ?_, HE2.out, ?_⟩
  · exact (HZ2.out.of_blocks (Nat.le_of_eq hsz.symm) fun k h1 h2 => hbl k (by omega) (by omega)).lower (by omega)
  · exact HB2.out.trans ⟨HD3.out.1, HD3.out.2.1, HD3.out.2.2, Nat.le_of_eq hsz.symm, fun k hk => hbl k (by omega) (by omega)⟩
end Go.Proofs.YtoljoigbepdeiaaGreatDoor

/- letter.Bytes, walked. -/
namespace Go.Proofs.YtoljoigbepdeiaaGreatDoor
open Go Go.RowKit

/-- What Bytes gives: nothing and the code, or the bytes in a row of their own. -/
def BytesPost (w : World) (code : Int) (bs : List UInt8) (e : Ending) (w' : World) : Prop :=
  (if code = 0 then ∃ v, e = .returned (.tuple #[v, I 0]) ∧ w'.ownsRow w.heap.size 5 1 v bs.length (bs.map Extern.Stop.cell) else e = .returned (.tuple #[.slice none 0 0, I code])) ∧ Below w.heap.size w w'
attribute [local go_sem] ltVal_get lt_get0 lt_get1 lt_get2
set_option maxRecDepth 10000 in
set_option maxHeartbeats 2000000 in
theorem bytes_no (l : Lt) (s : Sl) (sb : List UInt8) (w : World) (code : Int) (hr : l.ref.length = 32) (hc : (code == 0) = false)
    (hv : ∀ w', Below w.heap.size w w' → Calls Tryz.prog 19 #[.agg (ltVal l s)] w' (Gives (I code) w')) :
    Calls Tryz.prog 8 #[.agg (ltVal l s)] w (BytesPost w code (ltBytes l sb)) := by
  have HR0 := Lib.hid (Row.new w (ltVal l s) 57)
  have HB0 := Lib.hid (below_var w (.cells (ltVal l s) 57))
  have HSZ : Hid ((Tryz.prog.info? 57).map (·.size) = some (ltVal l s).size) := Lib.hid (by unfold ltVal; rw [lt_size _ _ _ _ hr]; kernel_rfl)
  have HV := Lib.hid hv
  have HC := Lib.hid hc
  clear hv
  go_enter Tryz.func8, Tryz.ntmps8
  go_wp2_with (first
    | (refine wpList_load_Row rfl _ _ rfl w.heap.size rfl (ltVal l s) HR0.out _ Tryz.underlying57 rfl HSZ.out ?_)
    | (go_at_call 19; refine (HV.out _ HB0.out).mono ?_; rintro e w1 ⟨rfl, hb1⟩; have HB1 := Lib.hid (below_trans HB0.out hb1); clear hb1))
  go_ret2
  unfold BytesPost
  rw [if_neg (by have := HC.out; rw [beq_dec] at this; exact of_decide_eq_false this)]
  exact ⟨rfl, HB1.out⟩

/-- The table of the writer's methods, as it lies. -/
def wFns (g : Nat) : Array Value := #[.nilFunc, .nilFunc, .nilFunc, .nilFunc, .nilFunc, .nilFunc, .nilFunc, .nilFunc, .nilFunc, .func (.func 25) #[pt g] #[], .func (.func 26) #[pt g] #[], .nilFunc, .nilFunc, .nilFunc, .func (.func 27) #[pt g] #[], .func (.func 28) #[pt g] #[], .func (.func 29) #[pt g] #[]]
theorem wFns_one (g : Nat) : (wFns g).all (·.oneCell') = true := by kernel_rfl
theorem wFns_info (g : Nat) : (Tryz.prog.info? 86).map (fun i => (i.zero, i.size)) = some (some (.agg (Array.replicate 17 .nilFunc)), (wFns g).size) := by kernel_rfl
def FlRel (l : Lt) (s : Sl) (sb : List UInt8) (w : World) (g fa : Nat) (i : Value) (wr : World) : Prop :=
  ∃ k : Nat, k ≤ 17 ∧ i = .int .i64 k ∧ ∃ v, WIn wr g w.heap.size (ltVal l s) v (hdBytes l ++ fldsTo l sb k) ∧ Far wr g v fa (wFns g) ∧ Below w.heap.size w wr
structure BHyp (l : Lt) (s : Sl) (sb : List UInt8) (w : World) : Prop where
  ref : l.ref.length = 32
  cells : l.cells.length ≤ 65536
  sbl : sb.length ≤ 1000000000
  kind : fits l.kind
  src : fits l.src
  dst : fits l.dst
  num : ∀ k, k < 17 → fits (numF l k)
  mday : fits l.move.day
  mto : fits l.move.toDay
  mmin : fits l.move.minute
  mlen : fits l.move.length
  wfrom : fits l.wfrom
  wto : fits l.wto
  fit : ∀ j, j < l.cells.length → fits (l.cells[j]?.getD 0)
  ints : IntsAt w w.heap.size s.C l.cells
  valid : ∀ w', Below w.heap.size w w' → Calls Tryz.prog 19 #[.agg (ltVal l s)] w' (Gives (I 0) w')
  ser : usesB l.kind 10 = true → ∀ w' g b v bs, Below w.heap.size w w' → w.heap.size ≤ b → WIn w' g b (ltVal l s) v bs → bs.length ≤ 100000000000 → Calls Tryz.prog 26 #[pt g] w' (NumPost w' g (pt b) v (bs ++ sb))

theorem WIn.start {w1 : World} {b : Nat} {cs : Array Value} (h : Row w1 b cs) (o : Obj) : WIn ((w1.alloc (.cells #[pt b, .slice none 0 0] 84)).alloc o) w1.heap.size b cs (.slice none 0 0) [] :=
  WIn.grow (w := w1.alloc (.cells #[pt b, .slice none 0 0] 84)) ⟨⟨heap_alloc_last w1 _, by simp [World.ownsRow]⟩, h.keep (below_var _ _), h.1, by simp⟩ (below_var _ _)
theorem hd_at (l : Lt) (k : Nat) (hk : k < 3) (h0 : fits l.kind) (h1 : fits l.src) (h2 : fits l.dst) : (#[I l.kind, I l.src, I l.dst] : Array Value)[k]? = some (I ([l.kind, l.src, l.dst][k]?.getD 0)) ∧ fits ([l.kind, l.src, l.dst][k]?.getD 0) := by
  match k, hk with
  | 0, _ => exact ⟨rfl, h0⟩
  | 1, _ => exact ⟨rfl, h1⟩
  | 2, _ => exact ⟨rfl, h2⟩
  | n + 3, h => exact absurd h (by omega)
theorem none_at (k : Nat) (hk : k < 17) (h : numOff k = none) : k = 9 ∨ k = 10 ∨ k = 14 ∨ k = 15 ∨ k = 16 :=
  all17 (p := fun k => numOff k = none → k = 9 ∨ k = 10 ∨ k = 14 ∨ k = 15 ∨ k = 16) (by refine ⟨?_, ?_, ?_, ?_, ?_, ?_, ?_, ?_, ?_, ?_, ?_, ?_, ?_, ?_, ?_, ?_, ?_⟩ <;> (intro e; first | (cases e; done) | omega)) k hk h
theorem ownsRow_base {w : World} {base base' e size n : Nat} {v : Value} {xs : List Value} (h : w.ownsRow base e size v n xs) (hb : base' ≤ base) : w.ownsRow base' e size v n xs := by
  refine ⟨h.1, ?_⟩
  rcases h.2 with h | ⟨g, cap, cur, rfl, hg, hh⟩
  · exact .inl h
  · exact .inr ⟨g, cap, cur, rfl, Nat.le_trans hb hg, hh⟩
def HdRel (l : Lt) (s : Sl) (w : World) (g : Nat) (i : Value) (wr : World) : Prop :=
  ∃ k : Nat, k ≤ 3 ∧ i = .int .i64 k ∧ ∃ v, WIn wr g w.heap.size (ltVal l s) v (cellBytes ([l.kind, l.src, l.dst].take k)) ∧ Far wr g v (g + 1) #[I l.kind, I l.src, I l.dst] ∧ Below w.heap.size w wr
set_option maxRecDepth 10000 in
set_option maxHeartbeats 8000000 in
theorem bytes_yes (l : Lt) (s : Sl) (sb : List UInt8) (w : World) (h : BHyp l s sb w) :
    Calls Tryz.prog 8 #[.agg (ltVal l s)] w (BytesPost w 0 (ltBytes l sb)) := by
  have HR0 := Lib.hid (Row.new w (ltVal l s) 57)
  have HB0 := Lib.hid (below_var w (.cells (ltVal l s) 57))
  have HSZ : Hid ((Tryz.prog.info? 57).map (·.size) = some (ltVal l s).size) := Lib.hid (by unfold ltVal; rw [lt_size _ _ _ _ h.ref]; kernel_rfl)
  have HH := Lib.hid h
  clear h
  go_enter Tryz.func8, Tryz.ntmps8
  go_wp2_with (first
    | (refine wpList_load_Row rfl _ _ rfl w.heap.size rfl (ltVal l s) HR0.out _ Tryz.underlying57 rfl HSZ.out ?_)
    | (go_at_call 19; refine (HH.out.valid _ HB0.out).mono ?_; rintro e w1 ⟨rfl, hb1⟩; have HB1 := Lib.hid (below_trans HB0.out hb1); have HR1 := Lib.hid (HR0.out.keep hb1); have hr1 := HR1.out.2; have hlt1 : w.heap.size < w1.heap.size := HR1.out.1; clear hb1))
  have HW1 : Hid (WIn ((w1.alloc (.cells #[pt w.heap.size, .slice none 0 0] 84)).alloc (.cells #[I l.kind, I l.src, I l.dst] 3)) w1.heap.size w.heap.size (ltVal l s) (.slice none 0 0) []) := Lib.hid (WIn.start HR1.out _)
  have HF1 : Hid (Far ((w1.alloc (.cells #[pt w.heap.size, .slice none 0 0] 84)).alloc (.cells #[I l.kind, I l.src, I l.dst] 3)) w1.heap.size (.slice none 0 0) (w1.heap.size + 1) #[I l.kind, I l.src, I l.dst]) := Lib.hid ⟨by have := Row.new (w1.alloc (.cells #[pt w.heap.size, .slice none 0 0] 84)) #[I l.kind, I l.src, I l.dst] 3; rwa [World.size_alloc] at this, by omega, by simp [Value.ownBlock]⟩
  have HB2 := Lib.hid (below_trans HB1.out (((Below.refl _ w1).alloc (Nat.le_refl _) (.cells #[pt w.heap.size, .slice none 0 0] 84)).alloc (by simp) (.cells #[I l.kind, I l.src, I l.dst] 3)))
  clear HB1 HR1 hr1 HB0 HR0
  go_loopw [26] (fun i wr => HdRel l s w w1.heap.size i wr) (fun i _ => 3 - (intOf i).toNat)
  case atStart => exact ⟨0, by omega, rfl, _, HW1.out, HF1.out, HB2.out⟩
  case round =>
    obtain ⟨k, hk, rfl, v, hw2, hf2, hb2⟩ := hrel
    have HW2 := Lib.hid hw2
    have HF2 := Lib.hid hf2
    have HB2 := Lib.hid hb2
    clear hw2 hb2 HW1 HF1
    by_cases hlt : k < 3
    · obtain ⟨z, hz0⟩ : ∃ z, [l.kind, l.src, l.dst][k]?.getD 0 = z := ⟨_, rfl⟩
      have hzz := hd_at l k hlt HH.out.kind HH.out.src HH.out.dst
      rw [hz0] at hzz
      have hcell : wr.cell? ⟨w1.heap.size + 1, k, none⟩ = some (I z) := (hf2.row.2 k).trans hzz.1
      have hfz : fits z := hzz.2
      have HZ0 := Lib.hid hz0
      clear hz0 hzz hf2
      go_wp2_with fail
      refine (number1 _ _ _ _ _ _ hfz (by rw [cellBytes_length, List.length_take]; omega) HW2.out.gl HW2.out.st).mono ?_
      intro e w3 hp
      obtain ⟨rfl, v3, hi3, hk3⟩ := hp.out HW2.out
      have HI3 := Lib.hid hi3
      have HF3 := Lib.hid (HF2.out.next hk3)
      have HB3 := Lib.hid (HB2.out.trans (hk3.below HW2.out (Nat.le_refl _)))
      clear hp hi3 hk3
      go_wp2
      go_roundw
      case rel => exact ⟨k + 1, by omega, by go_num, v3, by rw [take_snoc' _ _ hlt, HZ0.out, cellBytes_snoc]; exact HI3.out, HF3.out, HB3.out⟩
      case measure => simp [intOf]; omega
    · have hke : cellBytes ([l.kind, l.src, l.dst].take k) = hdBytes l := by rw [List.take_of_length_le (by simp; omega)]; rfl
      rw [hke] at HW2
      clear hke HF2 hf2
      have HW4 := Lib.hid (HW2.out.grow (below_var wr (.cells (wFns w1.heap.size) 86)))
      have HF4 : Hid (Far (wr.alloc (.cells (wFns w1.heap.size) 86)) w1.heap.size v wr.heap.size (wFns w1.heap.size)) := Lib.hid ⟨Row.new _ _ _, by have := HW2.out.gl; omega, fun e => by have := own_lt HW2.out.st.2 _ e.symm; omega⟩
      have HB4 := Lib.hid (below_trans HB2.out (below_var wr (.cells (wFns w1.heap.size) 86)))
      clear HW2 HB2
      go_wp2_with (first
        | (refine wpList_build_as rfl _ rfl (wFns w1.heap.size) (by kernel_rfl) ?_)
        | (refine wpList_var_row rfl rfl _ _ _ rfl rfl rfl rfl _ (wFns w1.heap.size) (wFns_info _) rfl rfl rfl (wFns_one _) ?_)
        | (go_at_call 30; refine (numbers_any _ _).mono ?_; rintro e w5 ⟨rfl, hb5⟩))
      have HW5 := Lib.hid (HW4.out.grow hb5)
      have HF5 := Lib.hid (HF4.out.grow hb5)
      have HB5 := Lib.hid (below_trans HB4.out hb5)
      clear HW4 HF4 HB4 hb5
      obtain ⟨fa, hfa⟩ : ∃ x, wr.heap.size = x := ⟨_, rfl⟩
      rw [hfa] at HF5 ⊢
      clear hfa hlt
      go_loopw [46] (fun i wx => FlRel l s sb w w1.heap.size fa i wx) (fun i _ => 17 - (intOf i).toNat)
      case atStart => exact ⟨0, by omega, rfl, v, by rw [fldsTo, List.append_nil]; exact HW5.out, HF5.out, HB5.out⟩
      case round =>
        clear HW5 HF5 HB5
        obtain ⟨k, hk, rfl, v, hw2, hf2, hb2⟩ := hrel
        have HW := Lib.hid hw2
        have HF := Lib.hid hf2
        have HB := Lib.hid hb2
        have hr2 := hw2.row.2
        have HL := Lib.hid (pre_le l sb k HH.out.cells HH.out.ref HH.out.sbl hk)
        clear hw2 hf2 hb2
        by_cases hlt : k < 17
        · have hix := fun W => index_nums w.heap.size k hlt W
          cases hu : usesB l.kind k
          · have HU := Lib.hid hu
            clear hu
            obtain ⟨q, hq⟩ : ∃ q, ptrAt w.heap.size k = q := ⟨_, rfl⟩
            rw [hq] at hix
            clear hq
            go_wp2_with (go_at_call 31; refine (uses_any _ _ _ (by omega) (by omega)).mono ?_; rintro e w6 ⟨rfl, hb6⟩; have HW6 := Lib.hid (HW.out.grow hb6); have HF6 := Lib.hid (HF.out.grow hb6); have HB6 := Lib.hid (below_trans HB.out hb6); rw [HU.out]; clear hb6)
            go_roundw
            case rel => exact ⟨k + 1, by omega, by go_num, v, by rw [fldsTo, HU.out, if_neg (by decide), List.append_nil]; exact HW6.out, HF6.out, HB6.out⟩
            case measure => simp [intOf]; omega
          have HU := Lib.hid hu
          clear hu
          cases ho : numOff k with
          | some o =>
            have hp : ptrAt w.heap.size k = .pointer (some ⟨w.heap.size, o, none⟩) := by unfold ptrAt; rw [ho]; rfl
            rw [hp] at hix
            have hcell := lt_num l (.slice s.A l.series.rule.length s.c) (.slice s.B l.series.moves.length s.d) (.slice s.C l.cells.length s.e) k o hlt ho
            have HFB : Hid (fldBytes l sb k = le (numF l k) 8) := Lib.hid (by unfold fldBytes; rw [ho]; rfl)
            have hfx := HH.out.num k hlt
            clear ho hp
            obtain ⟨x, hx⟩ : ∃ x, numF l k = x := ⟨_, rfl⟩
            rw [hx] at hcell HFB hfx
            have HFX := Lib.hid hfx
            clear hx hfx
            go_wp2_with (first
              | (go_at_call 31; refine (uses_any _ _ _ (by omega) (by omega)).mono ?_; rintro e w6 ⟨rfl, hb6⟩; have HW6 := Lib.hid (HW.out.grow hb6); have HF6 := Lib.hid (HF.out.grow hb6); have HB6 := Lib.hid (below_trans HB.out hb6); have hr6 := HW6.out.row.2; rw [HU.out]; clear hb6)
              | (go_at_call 24; refine (number8 _ _ _ _ _ _ HFX.out (Nat.le_trans HL.out (by omega)) HW6.out.gl HW6.out.st).mono ?_; intro e w7 hp; obtain ⟨rfl, v7, hi7, hk7⟩ := hp.out HW6.out; have HW7 := Lib.hid hi7; have HF7 := Lib.hid (HF6.out.next hk7); have HB7 := Lib.hid (HB6.out.trans (hk7.below HW6.out (Nat.le_refl _))); clear hp hi7 hk7))
            go_roundw
            case rel => exact ⟨k + 1, by omega, by go_num, v7, by rw [fldsTo, if_pos HU.out, HFB.out, ← List.append_assoc]; exact HW7.out, HF7.out, HB7.out⟩
            case measure => simp [intOf]; omega
          | none =>
            have hp : ptrAt w.heap.size k = .pointer none := by unfold ptrAt; rw [ho]
            rw [hp] at hix
            have hks : k = 9 ∨ k = 10 ∨ k = 14 ∨ k = 15 ∨ k = 16 := none_at k hlt ho
            clear ho hp
            rcases hks with rfl | rfl | rfl | rfl | rfl
            · -- field 9: move
              have hix' : ∀ W, (Instr.index 88 (.agg (numPtrs w.heap.size)) (.int .i64 9)).run Tryz.prog W = .ok (.pointer none) W := hix
              clear hix
              go_wp2_with (first
                | (go_at_call 31; refine (uses_any _ _ _ (by omega) (by omega)).mono ?_; rintro e w6 ⟨rfl, hb6⟩; have HW6 := Lib.hid (HW.out.grow hb6); have HF6 := Lib.hid (HF.out.grow hb6); have HB6 := Lib.hid (below_trans HB.out hb6); have hr6 := HW6.out.row.2; have hf6 : w6.cell? ⟨fa, 9, none⟩ = some (.func (.func 25) #[pt w1.heap.size] #[]) := HF6.out.row.2 9; first | rw [HU.out] | rw [show usesB l.kind 9 = true from HU.out]; clear hb6)
                | (go_at_call 25; refine (moveW_any _ _ _ l _ _ _ _ _ HW6.out (Nat.le_trans HL.out (by omega)) HH.out.mday HH.out.mto HH.out.mmin HH.out.mlen).mono ?_; intro e w7 hp; obtain ⟨rfl, v7, hi7, hk7⟩ := hp.out HW6.out; have HW7 := Lib.hid hi7; have HF7 := Lib.hid (HF6.out.next hk7); have HB7 := Lib.hid (HB6.out.trans (hk7.below HW6.out (Nat.le_refl _))); clear hp hi7 hk7))
              go_roundw
              case rel => exact ⟨10, by omega, by go_num, v7, by rw [fldsTo, if_pos HU.out, ← List.append_assoc]; exact HW7.out, HF7.out, HB7.out⟩
              case measure => simp [intOf]
            · -- field 10: series
              have hix' : ∀ W, (Instr.index 88 (.agg (numPtrs w.heap.size)) (.int .i64 10)).run Tryz.prog W = .ok (.pointer none) W := hix
              clear hix
              go_wp2_with (first
                | (go_at_call 31; refine (uses_any _ _ _ (by omega) (by omega)).mono ?_; rintro e w6 ⟨rfl, hb6⟩; have HW6 := Lib.hid (HW.out.grow hb6); have HF6 := Lib.hid (HF.out.grow hb6); have HB6 := Lib.hid (below_trans HB.out hb6); have hr6 := HW6.out.row.2; have hf6 : w6.cell? ⟨fa, 10, none⟩ = some (.func (.func 26) #[pt w1.heap.size] #[]) := HF6.out.row.2 10; first | rw [HU.out] | rw [show usesB l.kind 10 = true from HU.out]; clear hb6)
                | (go_at_call 26; refine (HH.out.ser HU.out _ _ _ _ _ HB6.out (Nat.le_refl _) HW6.out HL.out).mono ?_; intro e w7 hp; obtain ⟨rfl, v7, hi7, hk7⟩ := hp.out HW6.out; have HW7 := Lib.hid hi7; have HF7 := Lib.hid (HF6.out.next hk7); have HB7 := Lib.hid (HB6.out.trans (hk7.below HW6.out (Nat.le_refl _))); clear hp hi7 hk7))
              go_roundw
              case rel => exact ⟨11, by omega, by go_num, v7, by rw [fldsTo, if_pos HU.out, ← List.append_assoc]; exact HW7.out, HF7.out, HB7.out⟩
              case measure => simp [intOf]
            · -- field 14: window
              have hix' : ∀ W, (Instr.index 88 (.agg (numPtrs w.heap.size)) (.int .i64 14)).run Tryz.prog W = .ok (.pointer none) W := hix
              clear hix
              go_wp2_with (first
                | (go_at_call 31; refine (uses_any _ _ _ (by omega) (by omega)).mono ?_; rintro e w6 ⟨rfl, hb6⟩; have HW6 := Lib.hid (HW.out.grow hb6); have HF6 := Lib.hid (HF.out.grow hb6); have HB6 := Lib.hid (below_trans HB.out hb6); have hr6 := HW6.out.row.2; have hf6 : w6.cell? ⟨fa, 14, none⟩ = some (.func (.func 27) #[pt w1.heap.size] #[]) := HF6.out.row.2 14; first | rw [HU.out] | rw [show usesB l.kind 14 = true from HU.out]; clear hb6)
                | (go_at_call 27; refine (window_any _ _ _ l _ _ _ _ _ HW6.out (Nat.le_trans HL.out (by omega)) HH.out.wfrom HH.out.wto).mono ?_; intro e w7 hp; obtain ⟨rfl, v7, hi7, hk7⟩ := hp.out HW6.out; have HW7 := Lib.hid hi7; have HF7 := Lib.hid (HF6.out.next hk7); have HB7 := Lib.hid (HB6.out.trans (hk7.below HW6.out (Nat.le_refl _))); clear hp hi7 hk7))
              go_roundw
              case rel => exact ⟨15, by omega, by go_num, v7, by rw [fldsTo, if_pos HU.out, ← List.append_assoc]; exact HW7.out, HF7.out, HB7.out⟩
              case measure => simp [intOf]
            · -- field 15: cells
              have hix' : ∀ W, (Instr.index 88 (.agg (numPtrs w.heap.size)) (.int .i64 15)).run Tryz.prog W = .ok (.pointer none) W := hix
              clear hix
              go_wp2_with (first
                | (go_at_call 31; refine (uses_any _ _ _ (by omega) (by omega)).mono ?_; rintro e w6 ⟨rfl, hb6⟩; have HW6 := Lib.hid (HW.out.grow hb6); have HF6 := Lib.hid (HF.out.grow hb6); have HB6 := Lib.hid (below_trans HB.out hb6); have hr6 := HW6.out.row.2; have hf6 : w6.cell? ⟨fa, 15, none⟩ = some (.func (.func 28) #[pt w1.heap.size] #[]) := HF6.out.row.2 15; first | rw [HU.out] | rw [show usesB l.kind 15 = true from HU.out]; clear hb6)
                | (go_at_call 28; refine (cellsW_any _ _ _ l _ _ _ _ _ _ HW6.out (Nat.le_trans HL.out (by omega)) HH.out.cells (HH.out.ints.keep HB6.out) HH.out.fit).mono ?_; intro e w7 hp; obtain ⟨rfl, v7, hi7, hk7⟩ := hp.out HW6.out; have HW7 := Lib.hid hi7; have HF7 := Lib.hid (HF6.out.next hk7); have HB7 := Lib.hid (HB6.out.trans (hk7.below HW6.out (Nat.le_refl _))); clear hp hi7 hk7))
              go_roundw
              case rel => exact ⟨16, by omega, by go_num, v7, by rw [fldsTo, if_pos HU.out, ← List.append_assoc]; exact HW7.out, HF7.out, HB7.out⟩
              case measure => simp [intOf]
            · -- field 16: ref
              have hix' : ∀ W, (Instr.index 88 (.agg (numPtrs w.heap.size)) (.int .i64 16)).run Tryz.prog W = .ok (.pointer none) W := hix
              clear hix
              go_wp2_with (first
                | (go_at_call 31; refine (uses_any _ _ _ (by omega) (by omega)).mono ?_; rintro e w6 ⟨rfl, hb6⟩; have HW6 := Lib.hid (HW.out.grow hb6); have HF6 := Lib.hid (HF.out.grow hb6); have HB6 := Lib.hid (below_trans HB.out hb6); have hr6 := HW6.out.row.2; have hf6 : w6.cell? ⟨fa, 16, none⟩ = some (.func (.func 29) #[pt w1.heap.size] #[]) := HF6.out.row.2 16; first | rw [HU.out] | rw [show usesB l.kind 16 = true from HU.out]; clear hb6)
                | (go_at_call 29; refine (refW_any _ _ _ l _ _ _ _ _ HW6.out (Nat.le_trans HL.out (by omega)) HH.out.ref).mono ?_; intro e w7 hp; obtain ⟨rfl, v7, hi7, hk7⟩ := hp.out HW6.out; have HW7 := Lib.hid hi7; have HF7 := Lib.hid (HF6.out.next hk7); have HB7 := Lib.hid (HB6.out.trans (hk7.below HW6.out (Nat.le_refl _))); clear hp hi7 hk7))
              go_roundw
              case rel => exact ⟨17, by omega, by go_num, v7, by rw [fldsTo, if_pos HU.out, ← List.append_assoc]; exact HW7.out, HF7.out, HB7.out⟩
              case measure => simp [intOf]
        · have hke : k = 17 := by omega
          subst hke
          have hcv : wr.cell? ⟨w1.heap.size, 1, none⟩ = some v := cell_of_row wr w1.heap.size 1 _ _ _ HW.out.st.1
          clear hr2
          go_wp2
          go_ret2
          unfold BytesPost
          rw [if_pos rfl]
          exact ⟨⟨v, rfl, ownsRow_base HW.out.st.2 (by omega)⟩, HB.out⟩
end Go.Proofs.YtoljoigbepdeiaaGreatDoor

/- letter.Read, walked, for letters that have numbers alone. -/
namespace Go.Proofs.YtoljoigbepdeiaaGreatDoor
open Go Go.RowKit

theorem setNum_series (l : Lt) (k : Nat) (x : Int) : (setNum l k x).series = l.series := by unfold setNum; split <;> rfl
theorem setNum_cellsL (l : Lt) (k : Nat) (x : Int) : (setNum l k x).cells = l.cells := by unfold setNum; split <;> rfl
theorem setNum_ref (l : Lt) (k : Nat) (x : Int) : (setNum l k x).ref = l.ref := by unfold setNum; split <;> rfl
theorem ltVal_setNum (l : Lt) (s : Sl) (x : Int) (k o : Nat) (hk : k < 17) (h : numOff k = some o) : ltVal (setNum l k x) s = (ltVal l s).setIfInBounds o (I x) := by
  unfold ltVal
  rw [setNum_series, setNum_cellsL]
  exact setNum_cells l _ _ _ x k o hk h
theorem rdTo_ref (r : RS) (k : Nat) : (rdTo r k).l.ref = r.l.ref := by
  induction k with
  | zero => rfl
  | succ k ih =>
    unfold rdTo
    split
    · exact (setNum_ref _ _ _).trans ih
    · exact ih
theorem ltVal_one (l : Lt) (s : Sl) : (ltVal l s).all (·.oneCell') = true := by
  unfold ltVal ltCells refCells
  simp [Value.oneCell', Extern.Stop.cell]
theorem results_row_tmp {P : Program} {fn : Func} {p u : Tmp} {ty : TypeId} (h : fn.results = #[.cell p ty, .tmp u]) (tmps : Array Value) (w : World) (g : Nat) (t : TypeId) (cs : Array Value) (fr : Nat × Nat) (d : TypeDesc)
    (hp : tmps.getD p undef = .pointer (some ⟨g, 0, none⟩)) (hg : w.heap[g]? = some (.cells cs t fr))
    (hu : P.underlying ty = some d) (hd : (match d with | .struct _ | .array _ _ => true | _ => false) = true) (hi : (P.info? ty).map (·.size) = some cs.size) (v : Value) (hv : tmps.getD u undef = v) :
    (results fn tmps).run P w = .ok (.tuple #[.agg cs, v]) w := by
  rw [results_cell_tmp h, hp, hv]
  simp [asAddr, Result.andThen, run_loadVar_row w g t ty cs fr d hg hu hd hi]

theorem RIn.start {w w1 : World} {o : Obj} {A : Option Addr} {bs : List UInt8} {c : Nat} (ho : o = .cells (ltVal zLt zSl) 57 (0, 0)) (hrb : RBlk w1 (w.heap.size + 2) (w.heap.size + 1) A bs.length c false) (hsz : w.heap.size + 2 + 3 ≤ w1.heap.size)
    (hb : Below (w.heap.size + 2) ((w.alloc o).alloc o) w1) (hl : bs.length ≤ c) (hc : c ≤ 140737488355328) (hby : BytesAt w w.heap.size A bs) (hn : A = none → c = 0) : RIn w w1 ⟨zLt, bs, false⟩ := by
  subst ho
  have h2 : Below w.heap.size w w1 := (((Below.refl _ w).alloc (Nat.le_refl _) _).alloc (by simp) _).trans (hb.mono (by omega))
  exact ⟨(hb.block _ (by omega)).trans (heap_alloc2_new w _ _), ⟨A, c, hrb, hl, hc, hby.keep h2, hn⟩, (hb.block _ (by omega)).trans (heap_alloc2_old w _ _), h2, by omega⟩
theorem newReader_rd (w : World) (A : Option Addr) (bs : List UInt8) (c : Nat) (hl : bs.length ≤ c) (hc : c ≤ 140737488355328) (hby : BytesAt w w.heap.size A bs) (hn : A = none → c = 0) :
    Calls Tryz.prog 32 #[pt (w.heap.size + 1), .slice A bs.length c] ((w.alloc (.cells (ltVal zLt zSl) 57)).alloc (.cells (ltVal zLt zSl) 57)) fun e w1 =>
      e = .returned (.tuple #[pt (w.heap.size + 3), .func (.func 60) #[] #[pt (w.heap.size + 4), pt (w.heap.size + 2)]]) ∧ RIn w w1 ⟨zLt, bs, false⟩ := by
  refine (newReader_any (w.heap.size + 1) A bs.length c _).mono fun e w1 ⟨h1, h2, h3, h4⟩ => ?_
  have hs : ((w.alloc (.cells (ltVal zLt zSl) 57)).alloc (.cells (ltVal zLt zSl) 57)).heap.size = w.heap.size + 2 := by rw [World.size_alloc, World.size_alloc]
  rw [hs] at h1 h2 h3 h4
  exact ⟨h1, RIn.start rfl h2 h3 h4 hl hc hby hn⟩
theorem set_kind (l : Lt) (s : Sl) (x : Int) : ltVal { l with kind := x } s = (ltVal l s).setIfInBounds 0 (I x) := rfl
theorem set_src (l : Lt) (s : Sl) (x : Int) : ltVal { l with src := x } s = (ltVal l s).setIfInBounds 1 (I x) := rfl
theorem set_dst (l : Lt) (s : Sl) (x : Int) : ltVal { l with dst := x } s = (ltVal l s).setIfInBounds 2 (I x) := rfl
/-- Whether the reader has come to its end without a failure. -/
def rdOK (r : RS) : Bool := !r.bad && ((r.rest.length : Int) == 0)
theorem RIn.done {w w1 : World} {r : RS} (h : RIn w w1 r) : Calls Tryz.prog 60 #[pt (w.heap.size + 4), pt (w.heap.size + 2)] w1 fun e w' => e = .returned (.bool (rdOK r)) ∧ w1 = w' := by
  obtain ⟨A, c, hr, _⟩ := h.st
  exact done_any w1 (w.heap.size + 2) (w.heap.size + 1) A _ c r.bad hr
def RdRel (r0 : RS) (w : World) (i : Value) (wr : World) : Prop :=
  ∃ k : Nat, k ≤ 17 ∧ i = .int .i64 k ∧ RIn w wr (rdTo r0 k)
def ReadGot (w : World) (code : Int) (l : Lt) (e : Ending) (w' : World) : Prop := e = .returned (.tuple #[.agg (ltVal l zSl), I code]) ∧ Below w.heap.size w w'
def ReadPost (w : World) (ok : Bool) (l : Lt) (e : Ending) (w' : World) : Prop := match ok with | true => ReadGot w 0 l e w' | false => ReadGot w 3 zLt e w'
theorem size62 (l : Lt) (s : Sl) (h : l.ref.length = 32) : (Tryz.prog.info? 57).map (·.size) = some (ltVal l s).size := by unfold ltVal; rw [lt_size _ _ _ _ h]; kernel_rfl
theorem bytesAt_own {w : World} {B : Nat} {v : Value} {bs : List UInt8} (h : w.ownsRow B 5 1 v bs.length (bs.map Extern.Stop.cell)) :
    ∃ A c, v = .slice A bs.length c ∧ bs.length ≤ c ∧ c ≤ maxLen ∧ (A = none → c = 0) ∧ BytesAt w w.heap.size A bs := by
  obtain ⟨h0, ⟨rfl, h⟩ | ⟨g, cap, cur, rfl, hg, hb, h1, h2, h3, h4⟩⟩ := h
  · exact ⟨none, 0, by rw [h], by omega, Nat.zero_le _, fun _ => rfl, .inl h⟩
  · refine ⟨some ⟨g, 0, none⟩, cap, rfl, h1, h2, (fun e => nomatch e), .inr ⟨g, 0, rfl, lt_of_blk hb, fun j hj => ?_⟩⟩
    have h5 : (cur.toList.take (bs.length * 1))[j]? = (bs.map Extern.Stop.cell)[j]? := by rw [h4]
    rw [Nat.mul_one, List.getElem?_take_of_lt hj, List.getElem?_map] at h5
    rw [Nat.zero_add, cell_of_row w g j _ _ _ hb]
    simp only [Array.getElem?_toList] at h5
    rw [h5]
    simp [hj]
attribute [local go_sem] ltVal_get lt_get0 lt_get1 lt_get2
set_option maxRecDepth 10000 in
set_option maxHeartbeats 8000000 in
theorem read_nums (w : World) (A : Option Addr) (bs : List UInt8) (c : Nat) (hl : bs.length ≤ c) (hc : c ≤ 140737488355328) (hby : BytesAt w w.heap.size A bs) (hn : A = none → c = 0)
    (hnum : ∀ k : Nat, k < 17 → usesB (rdHead bs).l.kind k = true → ∃ o, numOff k = some o) (code : Int) (out : List UInt8)
    (hB : rdOK (rdTo (rdHead bs) 17) = true → ∀ w', Below w.heap.size w w' → Calls Tryz.prog 8 #[.agg (ltVal (rdTo (rdHead bs) 17).l zSl)] w' (BytesPost w' code out))
    (ok : Bool) (hok : (rdOK (rdTo (rdHead bs) 17) && (code == 0) && (out == bs)) = ok) :
    Calls Tryz.prog 9 #[.slice A bs.length c] w (ReadPost w ok (rdTo (rdHead bs) 17).l) := by
  have HREF : Hid ((rdTo (rdHead bs) 17).l.ref.length = 32) := Lib.hid (by rw [rdTo_ref]; rfl)
  have HN := Lib.hid (newReader_rd w A bs c hl hc hby hn)
  have HY := Lib.hid hby
  have HNUM := Lib.hid hnum
  have HBC := Lib.hid hB
  have HOK := Lib.hid hok
  clear hby hn hnum hB hok
  go_enter Tryz.func9, Tryz.ntmps9
  go_wp2_with (first
    | (refine wpList_alloc_as rfl _ rfl (ltVal zLt zSl) lt_zero ?_)
    | (go_at_call 32; refine HN.out.mono ?_; rintro e w1 ⟨rfl, hi1⟩; have HI1 := Lib.hid hi1; clear hi1))
  obtain ⟨r, hr⟩ : ∃ r, (⟨zLt, bs, false⟩ : RS) = r := ⟨_, rfl⟩
  have HH : Hid (rdHead bs = rdDst (rdSrc (rdKind r))) := Lib.hid (by rw [← hr]; rfl)
  rw [hr] at HI1
  clear hr
  refine (HI1.out.number 1 (by omega)).mono ?_
  rintro e w2 ⟨rfl, hi2⟩
  have hr2 := hi2.row.2
  have hf2 := hi2.froz
  have HI2 : Hid (RIn w (w2.setCell ⟨w.heap.size + 1, 0, none⟩ (I (r.num 1))) (rdKind r)) := Lib.hid (hi2.store (set_kind _ _ _))
  clear hi2 HI1
  obtain ⟨x, hx⟩ : ∃ x, r.num 1 = x := ⟨_, rfl⟩
  rw [hx] at HI2 ⊢
  clear hx
  go_wp2_with fail
  clear hr2 hf2
  obtain ⟨r1, hr1⟩ : ∃ r1, rdKind r = r1 := ⟨_, rfl⟩
  rw [hr1] at HI2 HH
  clear hr1
  refine (HI2.out.number 1 (by omega)).mono ?_
  rintro e w3 ⟨rfl, hi3⟩
  have hr3 := hi3.row.2
  have hf3 := hi3.froz
  have HI3 : Hid (RIn w (w3.setCell ⟨w.heap.size + 1, 1, none⟩ (I (r1.num 1))) (rdSrc r1)) := Lib.hid (hi3.store (set_src _ _ _))
  clear hi3 HI2
  obtain ⟨y, hy⟩ : ∃ y, r1.num 1 = y := ⟨_, rfl⟩
  rw [hy] at HI3 ⊢
  clear hy
  go_wp2_with fail
  clear hr3 hf3
  obtain ⟨r2, hr2⟩ : ∃ r2, rdSrc r1 = r2 := ⟨_, rfl⟩
  rw [hr2] at HI3 HH
  clear hr2
  refine (HI3.out.number 1 (by omega)).mono ?_
  rintro e w4 ⟨rfl, hi4⟩
  have hr4 := hi4.row.2
  have hf4 := hi4.froz
  have HI4 : Hid (RIn w (w4.setCell ⟨w.heap.size + 1, 2, none⟩ (I (r2.num 1))) (rdDst r2)) := Lib.hid (hi4.store (set_dst _ _ _))
  clear hi4 HI3
  rw [← HH.out] at HI4
  obtain ⟨z, hz⟩ : ∃ z, r2.num 1 = z := ⟨_, rfl⟩
  rw [hz] at HI4 ⊢
  clear hz HH
  obtain ⟨r0, hr0⟩ : ∃ r0, rdHead bs = r0 := ⟨_, rfl⟩
  rw [hr0] at HNUM HBC HOK HI4 HREF
  have HR00 := Lib.hid hr0
  clear hr0
  have HG4 := Lib.hid (HI4.out.grow (below_var _ (.cells (rFns (w.heap.size + 3)) 86)))
  clear HI4
  go_wp2_with (first
    | (refine wpList_build_as rfl _ rfl (rFns (w.heap.size + 3)) (by kernel_rfl) ?_)
    | (refine wpList_var_row rfl rfl _ _ _ rfl rfl rfl rfl _ (rFns (w.heap.size + 3)) (rFns_info _) rfl rfl rfl (rFns_one _) ?_)
    | (go_at_call 30; refine (numbers_any _ _).mono ?_; rintro e w5 ⟨rfl, hb5⟩; have HI5 := Lib.hid (HG4.out.grow hb5); clear hb5))
  clear hr4 hf4 HG4
  go_loopw [38] (fun i wr => RdRel r0 w i wr) (fun i _ => 17 - (intOf i).toNat)
  case atStart => exact ⟨0, by omega, rfl, HI5.out⟩
  case round =>
    obtain ⟨k, hk, rfl, hi⟩ := hrel
    have HI := Lib.hid hi
    clear hi HI5
    by_cases hlt : k < 17
    · have hrow := HI.out.row.2
      have HKD := Lib.hid (rdTo_kind r0 k)
      have HU0 := Lib.hid (rdTo_kind r0 k)
      have HRT : Hid (rdTo r0 (k + 1) = if usesB r0.l.kind k = true then rdNum (rdTo r0 k) k else rdTo r0 k) := Lib.hid rfl
      obtain ⟨rk, hrk⟩ : ∃ rk, rdTo r0 k = rk := ⟨_, rfl⟩
      rw [hrk] at HI hrow HKD HRT
      clear hrk
      have hix := fun W => index_nums (w.heap.size + 1) k hlt W
      cases hu : usesB r0.l.kind k
      · have HU := Lib.hid hu
        rw [hu] at HRT
        clear hu
        obtain ⟨q, hq⟩ : ∃ q, ptrAt (w.heap.size + 1) k = q := ⟨_, rfl⟩
        rw [hq] at hix
        clear hq
        go_wp2_with (go_at_call 31; refine (uses_any _ _ _ (by omega) (by omega)).mono ?_; rintro e w6 ⟨rfl, hb6⟩; have HI6 := Lib.hid (HI.out.grow hb6); rw [HKD.out, HU.out]; clear hb6)
        go_roundw
        case rel => exact ⟨k + 1, by omega, by go_num, by rw [HRT.out]; exact HI6.out⟩
        case measure => simp [intOf]; omega
      · have HU := Lib.hid hu
        rw [hu] at HRT
        obtain ⟨o, ho⟩ := HNUM.out k hlt hu
        clear hu
        have hp : ptrAt (w.heap.size + 1) k = .pointer (some ⟨w.heap.size + 1, o, none⟩) := by unfold ptrAt; rw [ho]; rfl
        rw [hp] at hix
        have hcl := fun l : Lt => lt_num l (.slice zSl.A l.series.rule.length zSl.c) (.slice zSl.B l.series.moves.length zSl.d) (.slice zSl.C l.cells.length zSl.e) k o hlt ho
        have HO := Lib.hid ho
        clear ho hp
        go_wp2_with (go_at_call 31; refine (uses_any _ _ _ (by omega) (by omega)).mono ?_; rintro e w6 ⟨rfl, hb6⟩; have HI6 := Lib.hid (HI.out.grow hb6); rw [HKD.out, HU.out]; clear hb6)
        refine (HI6.out.number 8 (by omega)).mono ?_
        rintro e w7 ⟨rfl, hi7⟩
        have hc7 : w7.cell? ⟨w.heap.size + 1, o, none⟩ = some (I (numF rk.l k)) := (hi7.row.2 o).trans (hcl rk.l)
        have hf7 := hi7.froz o
        have HI7 : Hid (RIn w (w7.setCell ⟨w.heap.size + 1, o, none⟩ (I (rk.num 8))) (rdNum rk k)) := Lib.hid (hi7.store (ltVal_setNum _ _ _ k o hlt HO.out))
        clear hi7 hrow hcl
        obtain ⟨v, hv⟩ : ∃ v, rk.num 8 = v := ⟨_, rfl⟩
        rw [hv] at HI7 ⊢
        clear hv
        obtain ⟨v0, hv0⟩ : ∃ v, numF rk.l k = v := ⟨_, rfl⟩
        rw [hv0] at hc7
        clear hv0
        go_wp2
        go_roundw
        case rel => exact ⟨k + 1, by omega, by go_num, by rw [HRT.out]; exact HI7.out⟩
        case measure => simp [intOf]; omega
    · have hke : k = 17 := by omega
      subst hke
      clear hlt hk HNUM HN
      obtain ⟨r, hr⟩ : ∃ r, rdTo r0 17 = r := ⟨_, rfl⟩
      rw [hr] at HBC HOK HI HREF
      have HRR := Lib.hid hr
      clear hr
      have HW := Lib.hid HI.out.row
      have HSZ := Lib.hid (size62 r.l zSl HREF.out)
      obtain ⟨q, hq⟩ : ∃ q, rdOK r = q := ⟨_, rfl⟩
      rw [hq] at HBC HOK
      have HQ := Lib.hid hq
      clear hq
      cases q
      · have hok := HOK.out
        rw [Bool.false_and, Bool.false_and] at hok
        subst hok
        go_wp2_with (first
          | (go_at_call 60; refine HI.out.done.mono ?_; rintro e w8 ⟨rfl, rfl⟩; rw [HQ.out])
          | (refine wpList_build_as rfl _ rfl (ltVal zLt zSl) (by kernel_rfl) ?_)
          | (refine wpList_store_row rfl _ _ _ rfl w.heap.size (ltVal zLt zSl) rfl rfl 57 (ltVal zLt zSl) HI.out.res (size62 zLt zSl rfl) rfl (ltVal_one _ _) ?_))
        refine bodyPost_ret (v := .tuple #[.agg (ltVal zLt zSl), I 3]) (results_row_tmp rfl _ _ w.heap.size _ (ltVal zLt zSl) (0, 0) _ rfl (setRow_heap _ _ _ _ _ _ HI.out.res) Tryz.underlying57 rfl (size62 _ _ rfl) _ rfl) rfl ?_
        exact ⟨rfl, below_setRow HI.out.lo (Nat.le_refl _) _⟩
      · have HBC2 := Lib.hid (HBC.out rfl)
        clear HBC
        obtain ⟨qc, hqc⟩ : ∃ q, (code == 0) = q := ⟨_, rfl⟩
        have HQC := Lib.hid hqc
        cases qc
        · have hok := HOK.out
          rw [hqc] at hok
          rw [Bool.and_false, Bool.false_and] at hok
          subst hok
          have hne : ¬ code = 0 := by rw [beq_dec] at hqc; exact of_decide_eq_false hqc
          clear hqc
          go_wp2_with (first
            | (go_at_call 60; refine HI.out.done.mono ?_; rintro e w8 ⟨rfl, rfl⟩; rw [HQ.out])
            | (refine wpList_load_Row rfl _ _ rfl (w.heap.size + 1) rfl (ltVal r.l zSl) HW.out _ Tryz.underlying57 rfl HSZ.out ?_)
            | (go_at_call 8; refine (HBC2.out _ HI.out.lo).mono ?_; rintro e w9 ⟨h9, hb9⟩; rw [if_neg (by have := HQC.out; rw [beq_dec] at this; exact of_decide_eq_false this)] at h9; subst h9; have HI9 := Lib.hid (HI.out.grow hb9); clear hb9)
            | (refine wpList_build_as rfl _ rfl (ltVal zLt zSl) (by kernel_rfl) ?_)
            | (refine wpList_store_row rfl _ _ _ rfl w.heap.size (ltVal zLt zSl) rfl rfl 57 (ltVal zLt zSl) HI9.out.res (size62 zLt zSl rfl) rfl (ltVal_one _ _) ?_))
          refine bodyPost_ret (v := .tuple #[.agg (ltVal zLt zSl), I 3]) (results_row_tmp rfl _ _ w.heap.size _ (ltVal zLt zSl) (0, 0) _ rfl (setRow_heap _ _ _ _ _ _ HI9.out.res) Tryz.underlying57 rfl (size62 _ _ rfl) _ rfl) rfl ?_
          exact ⟨rfl, below_setRow HI9.out.lo (Nat.le_refl _) _⟩
        · have hc0 : code = 0 := by rw [beq_dec] at hqc; exact of_decide_eq_true hqc
          subst hc0
          obtain ⟨qe, hqe⟩ : ∃ q, (out == bs) = q := ⟨_, rfl⟩
          have HQE := Lib.hid hqe
          have hok := HOK.out
          rw [hqe] at hok
          clear hqe hqc HQC
          cases qe
          · have hok : false = ok := hok
            subst hok
            go_wp2_with (first
              | (go_at_call 60; refine HI.out.done.mono ?_; rintro e w8 ⟨rfl, rfl⟩; rw [HQ.out])
              | (refine wpList_load_Row rfl _ _ rfl (w.heap.size + 1) rfl (ltVal r.l zSl) HW.out _ Tryz.underlying57 rfl HSZ.out ?_)
              | (go_at_call 8; refine (HBC2.out _ HI.out.lo).mono ?_; rintro e w9 ⟨h9, hb9⟩; rw [if_pos rfl] at h9; obtain ⟨v, rfl, hv⟩ := h9; obtain ⟨A9, c9, rfl, _, _, _, hby9⟩ := bytesAt_own hv; have HY9 := Lib.hid hby9; have HI9 := Lib.hid (HI.out.grow hb9); clear hb9 hv hby9)
              | (go_at_call 39; refine (bytesEqual_any _ A9 A out bs c9 c _ _ HY9.out (HY.out.keep HI9.out.lo)).mono ?_; rintro e w10 ⟨rfl, rfl⟩; rw [HQE.out])
              | (refine wpList_build_as rfl _ rfl (ltVal zLt zSl) (by kernel_rfl) ?_)
              | (refine wpList_store_row rfl _ _ _ rfl w.heap.size (ltVal zLt zSl) rfl rfl 57 (ltVal zLt zSl) HI9.out.res (size62 zLt zSl rfl) rfl (ltVal_one _ _) ?_))
            refine bodyPost_ret (v := .tuple #[.agg (ltVal zLt zSl), I 3]) (results_row_tmp rfl _ _ w.heap.size _ (ltVal zLt zSl) (0, 0) _ rfl (setRow_heap _ _ _ _ _ _ HI9.out.res) Tryz.underlying57 rfl (size62 _ _ rfl) _ rfl) rfl ?_
            exact ⟨rfl, below_setRow HI9.out.lo (Nat.le_refl _) _⟩
          · have hok : true = ok := hok
            subst hok
            go_wp2_with (first
              | (go_at_call 60; refine HI.out.done.mono ?_; rintro e w8 ⟨rfl, rfl⟩; rw [HQ.out])
              | (refine wpList_load_Row rfl _ _ rfl (w.heap.size + 1) rfl (ltVal r.l zSl) HW.out _ Tryz.underlying57 rfl HSZ.out ?_)
              | (refine wpList_load_Row rfl _ _ rfl (w.heap.size + 1) rfl (ltVal r.l zSl) HI9.out.row _ Tryz.underlying57 rfl HSZ.out ?_)
              | (go_at_call 8; refine (HBC2.out _ HI.out.lo).mono ?_; rintro e w9 ⟨h9, hb9⟩; rw [if_pos rfl] at h9; obtain ⟨v, rfl, hv⟩ := h9; obtain ⟨A9, c9, rfl, _, _, _, hby9⟩ := bytesAt_own hv; have HY9 := Lib.hid hby9; have HI9 := Lib.hid (HI.out.grow hb9); clear hb9 hv hby9)
              | (go_at_call 39; refine (bytesEqual_any _ A9 A out bs c9 c _ _ HY9.out (HY.out.keep HI9.out.lo)).mono ?_; rintro e w10 ⟨rfl, rfl⟩; rw [HQE.out])
              | (refine wpList_store_row rfl _ _ _ rfl w.heap.size (ltVal r.l zSl) rfl rfl 57 (ltVal zLt zSl) HI9.out.res HSZ.out (by unfold ltVal; rw [lt_size _ _ _ _ HREF.out]; rfl) (ltVal_one _ _) ?_))
            refine bodyPost_ret (v := .tuple #[.agg (ltVal r.l zSl), I 0]) (results_row_tmp rfl _ _ w.heap.size _ (ltVal r.l zSl) (0, 0) _ rfl (setRow_heap _ _ _ _ _ _ HI9.out.res) Tryz.underlying57 rfl (size62 _ _ HREF.out) _ rfl) rfl ?_
            rw [HR00.out, HRR.out]
            exact ⟨rfl, below_setRow HI9.out.lo (Nat.le_refl _) _⟩
end Go.Proofs.YtoljoigbepdeiaaGreatDoor

/- table.Read of a flat table's bytes. -/
namespace Go.Proofs.YtoljoigbepdeiaaGreatDoor
open Go Go.RowKit

section
variable {P : Program} {ops : Array Oper} {rest : List Oper} {o : Oper} {a : Act} {w : World} {Q : Exit → Act → World → Prop}
/-- A store of a whole struct into the newest variable. -/
theorem wpList_store_new {ob : Obj} (hgd : o.guard = none) (ty : TypeId) (x y : Operand) (ho : o.op = .store ty x y) (cells : Array Value) (hx : a.eval x = .pointer (some ⟨w.heap.size, 0, none⟩)) (hy : a.eval y = .agg cells) (t : TypeId) (old : Array Value) (hob : ob = .cells old t (0, 0)) (hi : (P.info? ty).map (·.size) = some cells.size) (hold : old.size = cells.size) (h1 : cells.all (·.oneCell') = true)
    (h : ∀ W, Below w.heap.size w W → w.heap.size < W.heap.size → Row W w.heap.size cells → wpList P ops Q rest (a.put o.dst undef) W) : wpList P ops Q (o :: rest) a (w.alloc ob) := by
  subst hob
  refine wpList_store_row hgd ty x y ho w.heap.size cells hx hy t old (heap_alloc_last w _) hi hold h1 (h _ (below_setRow (below_var w _) (Nat.le_refl _) _) (by simp [World.setRow]) (Row.of_blk (setRow_heap _ _ _ _ _ _ (heap_alloc_last w _))))
end
/-- What table.Read gives. -/
def TReadR (w : World) (t : Tb) (n : Nat) (e : Ending) (w' : World) : Prop :=
  ∃ A c ys, e = .returned (.tuple #[.agg (tbVal { t with mac := zero32 } (.slice A n c)), I 0]) ∧ ZsOwn w.heap.size w' (.slice A n c) ys ∧ ys.map (·.e) = t.zones ∧ Below w.heap.size w w'
theorem TbFlat.mac0 {t : Tb} (h : TbFlat t) : TbFlat { t with mac := zero32 } := ⟨h.issuer, h.version, h.withdraws, h.prev, rfl, h.first, h.num, h.flat, h.short⟩
set_option maxRecDepth 10000 in
set_option maxHeartbeats 2000000 in
theorem tableRead_flat (w : World) (t : Tb) (n N b off c : Nat) (h : TbFlat t) (hn : t.zones.length = n) (hN : (tbBytes t).length = N) (hup : ∀ ys : List ZeV, ys.map (·.e) = t.zones → NamesUp ys) (hbl : b < w.heap.size) (hc1 : N ≤ c) (hc2 : c ≤ 9223372036854775807)
    (hA : ∀ j, j < N → w.cell? ⟨b, off + j, none⟩ = some (Extern.Stop.cell ((tbBytes t)[j]?.getD 0))) :
    Calls Tryz.prog 10 #[.slice (some ⟨b, off, none⟩) N c] w (TReadR w t n) := by
  have HF := Lib.hid h.mac0
  have HSZ : Hid (∀ v, (Tryz.prog.info? 30).map (·.size) = some (tbVal { t with mac := zero32 } v).size) := Lib.hid fun v => tb_info _ v h.prev rfl
  have HS0 : Hid (∀ v, (tbVal zTb (.slice none 0 0)).size = (tbVal { t with mac := zero32 } v).size) := Lib.hid fun v => by exact (tb_size zTb _ rfl rfl).trans (tb_size { t with mac := zero32 } v h.prev rfl).symm
  have HN := Lib.hid hn
  have HNN := Lib.hid hN
  have HUP := Lib.hid hup
  obtain ⟨W, hW⟩ : ∃ W, w.alloc (.cells (tbVal zTb (.slice none 0 0)) 30) = W := ⟨_, rfl⟩
  have hB : Below w.heap.size w W := by rw [← hW]; exact (Below.refl _ w).alloc (Nat.le_refl _) _
  have hs : W.heap.size = w.heap.size + 1 := by rw [← hW]; simp
  have ht : W.heap[w.heap.size]? = some (.cells (tbVal zTb (.slice none 0 0)) 30 (0, 0)) := by rw [← hW]; exact heap_alloc_last w _
  have HA := Lib.hid hA
  have HB := Lib.hid hB
  have HS := Lib.hid hs
  have HT := Lib.hid ht
  have HC := Lib.hid (tread_flat W t n N b off c h hn hN (by omega) hc1 hc2 fun j hj => (hB.cell (p := ⟨b, off + j, none⟩) hbl).trans (hA j hj))
  have HBY : Hid (tbBytes { t with mac := zero32 } = tbBytes t) := Lib.hid rfl
  clear h hn hN hA hB hs ht hup
  go_enter Tryz.func10, Tryz.ntmps10
  go_wp2_with fail
  rw [zTb_cells, hW]
  refine HC.out.mono ?_
  rintro e w2 ⟨A, c2, ys, rfl, hz2, he2, hb2⟩
  have hs0 := HS.out
  have HZ2 := Lib.hid hz2
  have HE2 := Lib.hid he2
  have HBW := Lib.hid (below_trans HB.out hb2)
  have HT2 : Hid (w2.heap[w.heap.size]? = some (.cells (tbVal zTb (.slice none 0 0)) 30 (0, 0))) := Lib.hid ((hb2.block _ (by omega)).trans HT.out)
  have hl2 : w.heap.size + 1 ≤ w2.heap.size := by have := hb2.size; omega
  clear hz2 he2 hb2 hW HC HB HS HT
  go_wp2_with (first
    | (with_reducible refine g_alloc 30 ?_; refine wpList_alloc_as rfl _ rfl (tbVal zTb (.slice none 0 0)) zTb_cells ?_)
    | (with_reducible refine g_store 30 ?_; refine wpList_store_new rfl _ _ _ rfl (tbVal { t with mac := zero32 } (.slice A n c2)) rfl rfl 30 (tbVal zTb (.slice none 0 0)) rfl (HSZ.out _) (HS0.out _) (tbVal_one _ _ _ _) ?_; intro W3 hb3 hl3 hr3; have HB3 := Lib.hid hb3; have HR3 := Lib.hid hr3; have HZ3 := Lib.hid (HZ2.out.below hb3); clear hb3 hr3)
    | (with_reducible refine g_load 30 ?_; refine wpList_load_Row rfl _ _ rfl w2.heap.size rfl (tbVal { t with mac := zero32 } (.slice A n c2)) HR3.out _ Tryz.underlying30 rfl (HSZ.out _) ?_))
  refine (tableBytes_flat { t with mac := zero32 } A n c2 W.heap.size ys W3 HF.out HE2.out.symm (by rw [← HN.out, ← HE2.out, List.length_map]) HZ3.out (HUP.out ys HE2.out)).mono ?_
  rintro e w4 ⟨⟨g4, c4, rfl, ho4⟩, hb4⟩
  rw [HBY.out, HNN.out] at ho4 ⊢
  have hb3w := HBW.out.trans (HB3.out.mono (by omega))
  have hb4w := hb3w.trans (hb4.mono (by omega))
  have HB4 := Lib.hid hb4w
  have HR4 : Hid (Row w4 w2.heap.size (tbVal { t with mac := zero32 } (.slice A n c2))) := Lib.hid (HR3.out.keep hb4)
  have HZ4 : Hid (ZsOwn W.heap.size w4 (.slice A n c2) ys) := Lib.hid (HZ3.out.below hb4)
  have HT4 : Hid (w4.heap[w.heap.size]? = some (.cells (tbVal zTb (.slice none 0 0)) 30 (0, 0))) := Lib.hid ((hb4.block _ (by omega)).trans ((HB3.out.block _ (by omega)).trans HT2.out))
  have h1 : BytesAt w4 w4.heap.size (some ⟨g4, 0, none⟩) (tbBytes t) := by
    obtain ⟨A', c', hv, _, _, _, hy⟩ := bytesAt_own (bs := tbBytes t) (by rw [HNN.out]; exact ho4)
    injection hv with e1 e2 e3
    subst e1
    exact hy
  have h2 : BytesAt w4 w.heap.size (some ⟨b, off, none⟩) (tbBytes t) := .inr ⟨b, off, rfl, hbl, fun j hj => (hb4w.cell (p := ⟨b, off + j, none⟩) hbl).trans (HA.out j (by have := HNN.out; omega))⟩
  have HEQ : Hid (Calls Tryz.prog 39 #[.slice (some ⟨g4, 0, none⟩) N c4, .slice (some ⟨b, off, none⟩) N c] w4 fun e w' => e = .returned (.bool true) ∧ w' = w4) := Lib.hid (by
    have h := bytesEqual_any w4 (some ⟨g4, 0, none⟩) (some ⟨b, off, none⟩) (tbBytes t) (tbBytes t) c4 c _ _ h1 h2
    rw [HNN.out] at h
    simpa using h)
  clear ho4 hb4 hb3w hb4w h1 h2 HB3 HR3 HZ3 HT2 HZ2 HBW
  go_wp2_with fail
  refine HEQ.out.mono ?_
  rintro e w5 ⟨rfl, rfl⟩
  go_wp2_with (first
    | (with_reducible refine g_load 30 ?_; refine wpList_load_Row rfl _ _ rfl w2.heap.size rfl (tbVal { t with mac := zero32 } (.slice A n c2)) HR4.out _ Tryz.underlying30 rfl (HSZ.out _) ?_)
    | (with_reducible refine g_store 30 ?_; refine wpList_store_row rfl _ _ _ rfl w.heap.size (tbVal { t with mac := zero32 } (.slice A n c2)) rfl rfl 30 (tbVal zTb (.slice none 0 0)) HT4.out (HSZ.out _) (HS0.out _) (tbVal_one _ _ _ _) ?_))
  refine bodyPost_ret (v := .tuple #[.agg (tbVal { t with mac := zero32 } (.slice A n c2)), I 0]) (results_row_tmp rfl _ _ w.heap.size _ (tbVal { t with mac := zero32 } (.slice A n c2)) (0, 0) _ rfl (setRow_heap _ _ _ _ _ _ HT4.out) Tryz.underlying30 rfl (HSZ.out _) _ rfl) rfl ?_
  refine ⟨A, c2, ys, rfl, (HZ4.out.of_blocks ?_ fun k h1 h2 => setRow_other _ _ k _ (by omega)).lower (by omega), HE2.out, below_setRow HB4.out (Nat.le_refl _) _⟩
  simp [World.setRow]
end Go.Proofs.YtoljoigbepdeiaaGreatDoor

/- math/bits.RotateLeft32 at the numbers that package digest calls it with. -/
namespace Go.Proofs.YtoljoigbepdeiaaGreatDoor
open Go Go.RowKit

/-- x rotated to the left by s bits. -/
def rotv (x s : Int) : Int := bits BinOp.or IntKind.u32 (x * 2 ^ s.toNat % 4294967296) (x / 2 ^ (32 - s).toNat)
set_option maxRecDepth 10000 in
set_option maxHeartbeats 1000000 in
theorem rot_any (x k s : Int) (w : World) (hk : bits BinOp.and IntKind.u64 (IntKind.u64.wrap k) 31 = s) (h0 : 0 ≤ s) (h1 : s ≤ 31) :
    Calls Tryz.prog 98 #[.int .u32 x, I k] w fun e w' => e = .returned (.int .u32 (rotv x s)) ∧ w' = w := by
  have hd : IntKind.u64.wrap (32 - s) = 32 - s := by rw [IntKind.wrap_u64]; omega
  go_enter Tryz.func98, Tryz.ntmps98
  go_wp2_with fail
  go_ret
  exact ⟨rfl, rfl⟩
/-- The amounts of package digest. -/
def amt (k : Int) : Int := bits BinOp.and IntKind.u64 (IntKind.u64.wrap k) 31
theorem rot_at (x k : Int) (w : World) (h : (decide (0 ≤ amt k) && decide (amt k ≤ 31)) = true) :
    Calls Tryz.prog 98 #[.int .u32 x, I k] w fun e w' => e = .returned (.int .u32 (rotv x (amt k))) ∧ w' = w := by
  rw [Bool.and_eq_true, decide_eq_true_eq, decide_eq_true_eq] at h
  exact rot_any x k (amt k) w rfl h.1 h.2
/-- Numbers of 32 bits, as they lie. -/
def cellsU (zs : List Int) : Array Value := (zs.map fun z => Value.int .u32 z).toArray
theorem cellsU_size (zs : List Int) : (cellsU zs).size = zs.length := by simp [cellsU]
theorem cellsU_get (zs : List Int) (i : Nat) (h : i < zs.length) : (cellsU zs)[i]? = some (.int .u32 (zs[i]?.getD 0)) := by
  simp [cellsU, h]
theorem cellsU_set (zs : List Int) (i : Nat) (z : Int) : (cellsU zs).setIfInBounds i (.int .u32 z) = cellsU (zs.set i z) := by
  simp [cellsU, List.map_set]
theorem cellsU_one (zs : List Int) : (cellsU zs).all (·.oneCell') = true := by
  rw [Array.all_eq_true_iff_forall_mem]
  intro v hv
  simp [cellsU] at hv
  obtain ⟨z, _, rfl⟩ := hv
  rfl
section
variable {P : Program} {ops : Array Oper} {Q : Exit → Act → World → Prop} {a : Act} {w : World} {rest : List Oper} {o : Oper}
/-- 'var x T' of an array or a struct whose zero's cells have a name. -/
theorem wpList_alloc_nm (hg : o.guard = none) (t : TypeId) (ho : o.op = .alloc t) (cells : Array Value) (hz : (P.info? t).map (fun i => (i.zero, i.size)) = some (some (.agg cells), cells.size))
    (h : wpList P ops Q rest (a.put o.dst (.pointer (some ⟨w.heap.size, 0, none⟩))) (w.alloc (.cells cells t))) : wpList P ops Q (o :: rest) a w := by
  refine wpList_plain hg fun K hK => ?_
  unfold Oper.wp execOp
  simp only [ho, Sem.run_bind, run_alloc_var w t (.agg cells) _ hz, Result.andThen_ok]
  exact hK _ _ h
end
/-- The cells of a block, all of them. -/
def RowU (w : World) (b : Nat) (cs : Array Value) : Prop := b < w.heap.size ∧ ∀ i, w.cell? ⟨b, i, none⟩ = cs[i]?
section
variable {P : Program} {ops : Array Oper} {Q : Exit → Act → World → Prop} {a : Act} {w : World} {rest : List Oper} {o : Oper}
theorem wpList_load_nm (hw : Region.wanted o (yielded ops a.tmps) = true) (ty : TypeId) (x : Operand) (ho : o.op = .load ty x) (g : Nat) (hx : a.eval x = .pointer (some ⟨g, 0, none⟩)) (cs : Array Value) (hr : RowU w g cs)
    (d : TypeDesc) (hu : P.underlying ty = some d) (hd : d.isRow = true) (hi : (P.info? ty).map (·.size) = some cs.size)
    (h : wpList P ops Q rest (a.put o.dst (.agg cs)) w) : wpList P ops Q (o :: rest) a w := by
  unfold wpList
  rw [if_pos hw]
  have hc : w.rangeAt g 0 cs.toList := fun j v hv => by rw [Nat.zero_add, hr.2 j]; simpa using hv
  refine .inl (wp_load_mid ty x ho g 0 hx cs.toList d hc hu hd (by rw [hi]; simp) ?_)
  simpa using h
end
theorem below_setRow' {B g : Nat} {w0 w : World} (hb : Below B w0 w) (hBg : B ≤ g) (cs : Array Value) : Below B w0 (w.setRow g cs) :=
  hb.trans ⟨rfl, rfl, rfl, by simp [World.setRow], fun k hk => setRow_other w g k cs (by omega)⟩
/-- An array's variable, whole. -/
structure AV (b : Nat) (t : TypeId) (cs : Array Value) (W : World) : Prop where
  var : W.heap[b]? = some (.cells cs t (0, 0))
section
variable {b g : Nat} {t : TypeId} {cs : Array Value} {W W' : World}
theorem AV.lt (h : AV b t cs W) : b < W.heap.size := (Array.getElem?_eq_some_iff.1 h.var).1
theorem AV.cell (h : AV b t cs W) : ∀ i, W.cell? ⟨b, i, none⟩ = cs[i]? := fun i => cell_of_row W _ i _ _ _ h.var
theorem AV.froz (h : AV b t cs W) : ∀ i, W.frozen? ⟨b, i, none⟩ = false := fun i => frozen_of_row W _ i _ _ h.var
theorem AV.below (h : AV b t cs W) (hb : Below W.heap.size W W') : AV b t cs W' := ⟨(hb.block _ h.lt).trans h.var⟩
theorem AV.put (h : AV b t cs W) (o : Nat) (v : Value) : AV b t (cs.setIfInBounds o v) (W.setCell ⟨b, o, none⟩ v) := ⟨heap_setCell_same W _ o _ _ _ h.var⟩
theorem AV.far (h : AV b t cs W) (hn : b ≠ g) (o : Nat) (v : Value) : AV b t cs (W.setCell ⟨g, o, none⟩ v) := ⟨(heap_setCell_other W _ b v hn).trans h.var⟩
theorem AV.drew (h : AV b t cs W) : AV b t cs W.drew := ⟨h.var⟩
theorem AV.new (W : World) (cs : Array Value) (t : TypeId) : AV W.heap.size t cs (W.alloc (.cells cs t)) := ⟨heap_alloc_last W _⟩
end
theorem zero64_info : (Tryz.prog.info? 209).map (fun i => (i.zero, i.size)) = some (some (.agg (cellsU (List.replicate 64 0))), (cellsU (List.replicate 64 0)).size) := by kernel_rfl
end Go.Proofs.YtoljoigbepdeiaaGreatDoor

/- kalends/digest.schedule. -/
namespace Go.Proofs.YtoljoigbepdeiaaGreatDoor
open Go Go.RowKit

def wIn4 (x0 x1 x2 x3 : Int) : Int :=
  bits BinOp.or IntKind.u32 (bits BinOp.or IntKind.u32 (bits BinOp.or IntKind.u32 (IntKind.u32.wrap (IntKind.u32.wrap x0 * 16777216)) (IntKind.u32.wrap (IntKind.u32.wrap x1 * 65536))) (IntKind.u32.wrap (IntKind.u32.wrap x2 * 256))) (IntKind.u32.wrap x3)
/-- The message schedule's first 16 words. -/
def wIn (xs : List UInt8) (i : Nat) : Int := wIn4 (xs[4 * i]?.getD 0).toNat (xs[4 * i + 1]?.getD 0).toNat (xs[4 * i + 2]?.getD 0).toNat (xs[4 * i + 3]?.getD 0).toNat
def wNext4 (a x b y : Int) : Int :=
  (a + bits BinOp.xor IntKind.u32 (bits BinOp.xor IntKind.u32 (rotv x (amt (-7))) (rotv x (amt (-18)))) (x / 8) + b + bits BinOp.xor IntKind.u32 (bits BinOp.xor IntKind.u32 (rotv y (amt (-17))) (rotv y (amt (-19)))) (y / 1024)) % 4294967296
/-- Its further words. -/
def wNext (zs : List Int) (i : Nat) : Int := wNext4 (zs[i - 16]?.getD 0) (zs[i - 15]?.getD 0) (zs[i - 7]?.getD 0) (zs[i - 2]?.getD 0)
def schT (xs : List UInt8) : Nat → List Int
  | 0 => List.replicate 64 0
  | i + 1 => (schT xs i).set i (if i < 16 then wIn xs i else wNext (schT xs i) i)
theorem schT_length (xs : List UInt8) (i : Nat) : (schT xs i).length = 64 := by
  induction i with
  | zero => simp [schT]
  | succ i ih => simp [schT, ih]
structure ScS (w : World) (zs : List Int) (wr : World) : Prop where
  var : AV (w.heap.size + 1) 209 (cellsU zs) wr
  res : AV w.heap.size 209 (cellsU (List.replicate 64 0)) wr
  lo : Below w.heap.size w wr
theorem ScS.start (w : World) (xs : List UInt8) : ScS w (schT xs 0) ((w.alloc (.cells (cellsU (List.replicate 64 0)) 209)).alloc (.cells (cellsU (List.replicate 64 0)) 209)) :=
  ⟨⟨heap_alloc2_new w _ _⟩, ⟨heap_alloc2_old w _ _⟩, ((Below.refl _ w).alloc (Nat.le_refl _) _).alloc (by simp) _⟩
theorem ScS.drew {w wr : World} {zs : List Int} (h : ScS w zs wr) : ScS w zs wr.drew := ⟨h.var.drew, h.res.drew, h.lo.drew⟩
theorem ScS.put {w wr : World} {zs : List Int} (h : ScS w zs wr) (i : Nat) (z : Int) : ScS w (zs.set i z) (wr.setCell ⟨w.heap.size + 1, i, none⟩ (.int .u32 z)) :=
  ⟨by rw [← cellsU_set]; exact h.var.put i _, h.res.far (by omega) _ _, h.lo.setCell (p := ⟨w.heap.size + 1, i, none⟩) (Nat.le_succ _) _⟩
theorem ScS.drewN {w wr : World} {zs : List Int} (h : ScS w zs wr) (n : Nat) : ScS w zs (wr.drewN n) := ⟨⟨h.var.var⟩, ⟨h.res.var⟩, ⟨h.lo.os, h.lo.tape, h.lo.output, h.lo.size, h.lo.block⟩⟩
set_option maxRecDepth 10000 in
set_option maxHeartbeats 2000000 in
theorem schedule_any (w : World) (bb off c : Nat) (xs : List UInt8) (hx : xs.length = 64) (hb : bb < w.heap.size) (hA : ∀ j, j < 64 → w.cell? ⟨bb, off + j, none⟩ = some (Extern.Stop.cell (xs[j]?.getD 0))) :
    Calls Tryz.prog 97 #[.slice (some ⟨bb, off, none⟩) 64 c] w fun e w' => e = .returned (.agg (cellsU (schT xs 64))) ∧ Below w.heap.size w w' := by
  have HX := Lib.hid hx
  have HA := Lib.hid hA
  have H0 := Lib.hid (ScS.start w xs)
  clear hx hA
  go_enter Tryz.func97, Tryz.ntmps97
  go_wp2_with (refine wpList_alloc_nm rfl _ rfl (cellsU (List.replicate 64 0)) zero64_info ?_)
  go_loopw [9] (fun i wr => ∃ k : Nat, k ≤ 64 ∧ i = I k ∧ ScS w (schT xs k) wr) (fun i _ => 64 - (intOf i).toNat)
  case atStart => exact ⟨0, Nat.zero_le _, rfl, H0.out⟩
  case round =>
    obtain ⟨k, hk, rfl, hs⟩ := hrel
    have HS := Lib.hid hs
    have hlen := schT_length xs k
    have HL := Lib.hid hlen
    clear H0 hs hlen
    by_cases hlt : k < 64
    · have i1 : (k : Int) < 64 := by omega
      by_cases h16 : k < 16
      · have i2 : (k : Int) < 16 := by omega
        obtain ⟨p, hp⟩ : ∃ p : Nat, 4 * k = p := ⟨_, rfl⟩
        obtain ⟨p1, hp1⟩ : ∃ q : Nat, p + 1 = q := ⟨_, rfl⟩
        obtain ⟨p2, hp2⟩ : ∃ q : Nat, p + 2 = q := ⟨_, rfl⟩
        obtain ⟨p3, hp3⟩ : ∃ q : Nat, p + 3 = q := ⟨_, rfl⟩
        have c0 : wr.cell? ⟨bb, off + p, none⟩ = some (Extern.Stop.cell (xs[p]?.getD 0)) := (HS.out.lo.cell (p := ⟨bb, off + p, none⟩) hb).trans (HA.out p (by omega))
        have c1 : wr.cell? ⟨bb, off + p1, none⟩ = some (Extern.Stop.cell (xs[p1]?.getD 0)) := (HS.out.lo.cell (p := ⟨bb, off + p1, none⟩) hb).trans (HA.out p1 (by omega))
        have c2 : wr.cell? ⟨bb, off + p2, none⟩ = some (Extern.Stop.cell (xs[p2]?.getD 0)) := (HS.out.lo.cell (p := ⟨bb, off + p2, none⟩) hb).trans (HA.out p2 (by omega))
        have c3 : wr.cell? ⟨bb, off + p3, none⟩ = some (Extern.Stop.cell (xs[p3]?.getD 0)) := (HS.out.lo.cell (p := ⟨bb, off + p3, none⟩) hb).trans (HA.out p3 (by omega))
        obtain ⟨x0, e0⟩ : ∃ x : Int, ((xs[p]?.getD 0).toNat : Int) = x := ⟨_, rfl⟩
        obtain ⟨x1, e1⟩ : ∃ x : Int, ((xs[p1]?.getD 0).toNat : Int) = x := ⟨_, rfl⟩
        obtain ⟨x2, e2⟩ : ∃ x : Int, ((xs[p2]?.getD 0).toNat : Int) = x := ⟨_, rfl⟩
        obtain ⟨x3, e3⟩ : ∃ x : Int, ((xs[p3]?.getD 0).toNat : Int) = x := ⟨_, rfl⟩
        replace c0 : wr.cell? ⟨bb, off + p, none⟩ = some (.int .u8 x0) := c0.trans (by rw [← e0]; rfl)
        replace c1 : wr.cell? ⟨bb, off + p1, none⟩ = some (.int .u8 x1) := c1.trans (by rw [← e1]; rfl)
        replace c2 : wr.cell? ⟨bb, off + p2, none⟩ = some (.int .u8 x2) := c2.trans (by rw [← e2]; rfl)
        replace c3 : wr.cell? ⟨bb, off + p3, none⟩ = some (.int .u8 x3) := c3.trans (by rw [← e3]; rfl)
        have g0 : 4 * (k : Int) = (p : Int) := by omega
        have g1 : (p : Int) + 1 = (p1 : Int) := by omega
        have g2 : (p : Int) + 2 = (p2 : Int) := by omega
        have g3 : (p : Int) + 3 = (p3 : Int) := by omega
        have w0 : IntKind.i64.wrap (p : Int) = (p : Int) := by rw [IntKind.wrap_i64]; omega
        have w1 : IntKind.i64.wrap (p1 : Int) = (p1 : Int) := by rw [IntKind.wrap_i64]; omega
        have w2 : IntKind.i64.wrap (p2 : Int) = (p2 : Int) := by rw [IntKind.wrap_i64]; omega
        have w3 : IntKind.i64.wrap (p3 : Int) = (p3 : Int) := by rw [IntKind.wrap_i64]; omega
        have b0 : (p : Int) < 64 := by omega
        have b1 : (p1 : Int) < 64 := by omega
        have b2 : (p2 : Int) < 64 := by omega
        have b3 : (p3 : Int) < 64 := by omega
        have HE := Lib.hid (And.intro (And.intro e0 e1) (And.intro e2 e3))
        have HP := Lib.hid (And.intro hp (And.intro hp1 (And.intro hp2 hp3)))
        clear e0 e1 e2 e3 hp hp1 hp2 hp3
        obtain ⟨z0, hz0⟩ : ∃ z, (schT xs k)[k]?.getD 0 = z := ⟨_, rfl⟩
        have hv : wr.cell? ⟨w.heap.size + 1, k, none⟩ = some (.int .u32 z0) := (HS.out.var.cell k).trans (by rw [cellsU_get _ _ (by rw [HL.out]; exact hlt), hz0])
        have hf := HS.out.var.froz k
        clear hz0
        have HN : Hid (ScS w (schT xs (k + 1)) (wr.drew.setCell ⟨w.heap.size + 1, k, none⟩ (.int .u32 (wIn4 x0 x1 x2 x3)))) := Lib.hid (by
          have h := HS.out.drew.put k (wIn4 x0 x1 x2 x3)
          have e : wIn4 x0 x1 x2 x3 = wIn xs k := by
            obtain ⟨⟨e0, e1⟩, e2, e3⟩ := HE.out
            obtain ⟨q0, q1, q2, q3⟩ := HP.out
            unfold wIn
            rw [q0, q1, q2, q3, e0, e1, e2, e3]
          unfold schT
          rw [if_pos h16]
          rw [e] at h ⊢
          exact h)
        go_wp2_with fail
        go_still_tail 35, (by kernel_rfl)
        change wpList _ _ _ _ _ wr.drew
        go_wp2_with fail
        go_roundw
        case rel => exact ⟨k + 1, by omega, by go_num, HN.out⟩
        case measure => simp [intOf]; omega
      · have i2 : ¬ (k : Int) < 16 := by omega
        obtain ⟨q16, hq16⟩ : ∃ q : Nat, k - 16 = q := ⟨_, rfl⟩
        obtain ⟨q15, hq15⟩ : ∃ q : Nat, k - 15 = q := ⟨_, rfl⟩
        obtain ⟨q7, hq7⟩ : ∃ q : Nat, k - 7 = q := ⟨_, rfl⟩
        obtain ⟨q2, hq2⟩ : ∃ q : Nat, k - 2 = q := ⟨_, rfl⟩
        obtain ⟨za, hza⟩ : ∃ z, (schT xs k)[q16]?.getD 0 = z := ⟨_, rfl⟩
        obtain ⟨zx, hzx⟩ : ∃ z, (schT xs k)[q15]?.getD 0 = z := ⟨_, rfl⟩
        obtain ⟨zb, hzb⟩ : ∃ z, (schT xs k)[q7]?.getD 0 = z := ⟨_, rfl⟩
        obtain ⟨zy, hzy⟩ : ∃ z, (schT xs k)[q2]?.getD 0 = z := ⟨_, rfl⟩
        obtain ⟨z0, hz0⟩ : ∃ z, (schT xs k)[k]?.getD 0 = z := ⟨_, rfl⟩
        have hv : wr.cell? ⟨w.heap.size + 1, k, none⟩ = some (.int .u32 z0) := (HS.out.var.cell k).trans (by rw [cellsU_get _ _ (by rw [HL.out]; exact hlt), hz0])
        have va : wr.cell? ⟨w.heap.size + 1, q16, none⟩ = some (.int .u32 za) := (HS.out.var.cell q16).trans (by rw [cellsU_get _ _ (by rw [HL.out]; omega), hza])
        have vx : wr.cell? ⟨w.heap.size + 1, q15, none⟩ = some (.int .u32 zx) := (HS.out.var.cell q15).trans (by rw [cellsU_get _ _ (by rw [HL.out]; omega), hzx])
        have vb : wr.cell? ⟨w.heap.size + 1, q7, none⟩ = some (.int .u32 zb) := (HS.out.var.cell q7).trans (by rw [cellsU_get _ _ (by rw [HL.out]; omega), hzb])
        have vy : wr.cell? ⟨w.heap.size + 1, q2, none⟩ = some (.int .u32 zy) := (HS.out.var.cell q2).trans (by rw [cellsU_get _ _ (by rw [HL.out]; omega), hzy])
        have hf := HS.out.var.froz k
        have g16 : (k : Int) - 16 = (q16 : Int) := by omega
        have g15 : (k : Int) - 15 = (q15 : Int) := by omega
        have g7 : (k : Int) - 7 = (q7 : Int) := by omega
        have g2 : (k : Int) - 2 = (q2 : Int) := by omega
        have b16 : (q16 : Int) < 64 := by omega
        have b15 : (q15 : Int) < 64 := by omega
        have b7 : (q7 : Int) < 64 := by omega
        have b2 : (q2 : Int) < 64 := by omega
        have w16 : IntKind.i64.wrap (q16 : Int) = (q16 : Int) := by rw [IntKind.wrap_i64]; omega
        have w15 : IntKind.i64.wrap (q15 : Int) = (q15 : Int) := by rw [IntKind.wrap_i64]; omega
        have w7 : IntKind.i64.wrap (q7 : Int) = (q7 : Int) := by rw [IntKind.wrap_i64]; omega
        have w2 : IntKind.i64.wrap (q2 : Int) = (q2 : Int) := by rw [IntKind.wrap_i64]; omega
        have HZ := Lib.hid (And.intro (And.intro hza hzx) (And.intro hzb hzy))
        have HP := Lib.hid (And.intro hq16 (And.intro hq15 (And.intro hq7 hq2)))
        clear hz0 hza hzx hzb hzy hq16 hq15 hq7 hq2
        go_wp2_with fail
        go_quiet (fail)
        obtain ⟨W2, hW2⟩ : ∃ W, wr.drewN nq = W := ⟨_, rfl⟩
        have HS2 : Hid (ScS w (schT xs k) W2) := Lib.hid (by rw [← hW2]; exact HS.out.drewN nq)
        replace hv : W2.cell? ⟨w.heap.size + 1, k, none⟩ = some (.int .u32 z0) := by rw [← hW2]; exact hv
        replace va : W2.cell? ⟨w.heap.size + 1, q16, none⟩ = some (.int .u32 za) := by rw [← hW2]; exact va
        replace vb : W2.cell? ⟨w.heap.size + 1, q7, none⟩ = some (.int .u32 zb) := by rw [← hW2]; exact vb
        replace hf := HS2.out.var.froz k
        rw [hW2]
        have HN : Hid (ScS w (schT xs (k + 1)) (W2.drew.setCell ⟨w.heap.size + 1, k, none⟩ (.int .u32 (wNext4 za zx zb zy)))) := Lib.hid (by
          have h := HS2.out.drew.put k (wNext4 za zx zb zy)
          have e : wNext4 za zx zb zy = wNext (schT xs k) k := by
            obtain ⟨⟨e0, e1⟩, e2, e3⟩ := HZ.out
            obtain ⟨q0, q1, q2, q3⟩ := HP.out
            unfold wNext
            rw [q0, q1, q2, q3, e0, e1, e2, e3]
          unfold schT
          rw [if_neg h16]
          rw [e] at h ⊢
          exact h)
        clear hW2 vx vy
        go_wp2_with (go_at_call 98; refine (rot_at _ _ _ (by kernel_rfl)).mono ?_; rintro e wq ⟨rfl, hwq⟩; have hwq := hwq.symm; subst hwq)
        go_still_tail 15, (by kernel_rfl)
        change wpList _ _ _ _ _ W2.drew
        go_wp2_with fail
        go_roundw
        case rel => exact ⟨k + 1, by omega, by go_num, HN.out⟩
        case measure => simp [intOf]; omega
    · have hke : k = 64 := by omega
      subst hke
      have HRW : Hid (RowU wr (w.heap.size + 1) (cellsU (schT xs 64))) := Lib.hid ⟨HS.out.var.lt, HS.out.var.cell⟩
      have HSZ : Hid ((Tryz.prog.info? 209).map (·.size) = some (cellsU (schT xs 64)).size) := Lib.hid (by rw [cellsU_size, HL.out]; kernel_rfl)
      have HS1 : Hid ((cellsU (List.replicate 64 0)).size = (cellsU (schT xs 64)).size) := Lib.hid (by rw [cellsU_size, cellsU_size, HL.out]; simp)
      go_wp2_with (first
        | (refine wpList_load_nm rfl _ _ rfl (w.heap.size + 1) rfl (cellsU (schT xs 64)) HRW.out _ Tryz.underlying209 rfl HSZ.out ?_)
        | (refine wpList_store_row rfl _ _ _ rfl w.heap.size (cellsU (schT xs 64)) rfl rfl 209 (cellsU (List.replicate 64 0)) HS.out.res.var HSZ.out HS1.out (cellsU_one _) ?_))
      refine bodyPost_ret (v := .agg (cellsU (schT xs 64))) (results_cell_row rfl _ _ w.heap.size _ (cellsU (schT xs 64)) (0, 0) _ rfl (setRow_heap _ _ _ _ _ _ HS.out.res.var) Tryz.underlying209 rfl HSZ.out) rfl ?_
      exact ⟨rfl, below_setRow' HS.out.lo (Nat.le_refl _) _⟩
end Go.Proofs.YtoljoigbepdeiaaGreatDoor
