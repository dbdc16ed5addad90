/- The texts TrU, TrV, Pn, RdC, TrX, TrY, RdY7, RdZ7, ValidB, in this order. -/
import Derived.Test.YtoljoigbepdeiaaGreatDoorG08
import Derived.BigQuiet
import Derived.Deep.AppendLies
import Derived.Deep.CutBlock
import Derived.Deep.DeepCutAuto
import Derived.Deep.DrawnRows
import Derived.Deep.MidRow
import Derived.Deep.QuietTactic
import Derived.Deep.RegionHeld3
import Derived.Deep.RegionLaw
import Derived.Deep.WholeRow
import Derived.Great.BuildSlice
import Derived.Laws.BytesString
import Derived.Laws.CopyOwn
import Derived.Laws.EntriesVeiled
import Derived.Laws.MakeOwn
import Derived.Laws.ResultCell
import Derived.Laws.Rows
import Derived.Laws.Tables
import Derived.Lib.Hide
import Derived.LoopIn
import Derived.LoopNIn
import Derived.Maps.AppendAt
import Derived.Outline
import Derived.OwnWalkIn
import Derived.RangeFuncBound
import Derived.RangeFuncBox
import Derived.RangeFuncCalls
import Derived.RangeFuncLeaves
import Derived.RangeFuncNested
import Derived.Shelf.Abstract
import Derived.Shelf.Bytes.SlSmallAll
import Derived.Shelf.RegionOpen
import Derived.StillTailTactics
import Derived.Stop.BytesEq
import Derived.TacticsInMore
import Derived.WalkKit
import Derived.WalkLawsBesides
import Derived.WalkSpells
import Derived.Test.YtoljoigbepdeiaaGreatDoorPm
import Derived.Test.YtoljoigbepdeiaaGreatDoorG02
import Derived.Test.YtoljoigbepdeiaaGreatDoorG03
import Derived.Defers
import Derived.Laws.BitsAllLaws
import Derived.Laws.BytesArg
import Derived.Laws.Cover3
import Derived.Lib.AppendStr
import Derived.Lib.ByteType
import Derived.MapKept
import Derived.Recover
import Derived.Test.YtoljoigbepdeiaaGreatDoorG06
import Derived.Laws.AppendOwnNone
/- table.admit with no chain behind it. -/
namespace Go.Proofs.YtoljoigbepdeiaaGreatDoor
open Go Go.RowKit

theorem neq_dig (w : World) (r r' : List UInt8) (h : r.length = 32) (h' : r'.length = 32) :
    (binOp .neq 23 (.agg (refCells r).toArray) (.agg (refCells r').toArray)).run Tryz.prog w = .ok (.bool (!(r == r'))) w := by
  unfold refCells
  rw [run_neq_struct, run_equalIn_bytes w 9998 23 5 32 Tryz.underlying23 Tryz.underlying5 (fun w => size_u8 w) r r' h h']
  rfl
set_option maxRecDepth 10000 in
set_option maxHeartbeats 800000 in
theorem admit_flat (KR : List Int) (hK : KR.length = 64) (w : World) (hG : RowU w 0 (cellsU KR)) (hw0 : 0 < w.heap.size) (key : List UInt8) (hk : key.length = 32) (t : Tb) (A : Option Addr) (n c lo : Nat) (zs : List ZeV) (h : TbFlat t) (hzz : t.zones = zs.map (·.e)) (hn : zs.length = n) (hO : ZsOwn lo w (.slice A n c) zs) (hup : NamesUp zs) (hv : t.version = 1) (b : Bool) (hb : (!(t.mac == macF KR key (tbBytes t))) = b) (r : Int) (hr : r = bif b then 8 else 0) :
    Calls Tryz.prog 41 #[.slice none 0 0, .agg (cellsB key), .agg (tbVal t (.slice A n c))] w (Gives (I r) w) := by
  have HF := Lib.hid h
  have HSZ : Hid (∀ v, (Tryz.prog.info? 30).map (·.size) = some (tbVal t v).size) := Lib.hid fun v => tb_info t v h.prev h.mac
  have HZZ := Lib.hid hzz
  have HN := Lib.hid hn
  have HUP := Lib.hid hup
  have HK := Lib.hid hK
  have HKY := Lib.hid hk
  have HV := Lib.hid hv
  obtain ⟨W, hW⟩ : ∃ W, (w.alloc (.cells (cellsB key) 23)).alloc (.cells (tbVal t (.slice A n c)) 30) = W := ⟨_, rfl⟩
  have hB : Below w.heap.size w W := by rw [← hW]; exact ((Below.refl _ w).alloc (Nat.le_refl _) _).alloc (by simp) _
  have hs : W.heap.size = w.heap.size + 2 := by rw [← hW]; simp
  have hb0 : W.heap[w.heap.size]? = some (.cells (cellsB key) 23 (0, 0)) := by rw [← hW]; exact heap_alloc2_old w _ _
  have hb1 : W.heap[w.heap.size + 1]? = some (.cells (tbVal t (.slice A n c)) 30 (0, 0)) := by rw [← hW]; exact heap_alloc2_new w _ _
  have HB := Lib.hid hB
  have HS := Lib.hid hs
  have HR0 := Lib.hid (Row.of_blk hb0)
  have HR1 := Lib.hid (Row.of_blk hb1)
  have HO := Lib.hid (hO.below hB)
  have HG := Lib.hid hG
  obtain ⟨m, hm⟩ : ∃ m, macF KR key (tbBytes t) = m := ⟨_, rfl⟩
  have hm32 : m.length = 32 := by rw [← hm]; exact macF_length _ _ _
  have HQ : Hid (∀ W, (binOp .neq 23 (.agg (refCells t.mac).toArray) (.agg (refCells m).toArray)).run Tryz.prog W = .ok (.bool b) W) := Lib.hid fun W => by rw [neq_dig W _ _ h.mac hm32, ← hm, hb]
  have HMM := Lib.hid hm
  have HRR := Lib.hid hr
  clear h hzz hn hO hup hK hk hb0 hb1 hB hs hG hm hv hb hr
  go_enter Tryz.func41, Tryz.ntmps41
  go_wp2_with (with_reducible refine g_load 30 ?_; refine wpList_load_Row rfl _ _ rfl (w.heap.size + 1) rfl (tbVal t (.slice A n c)) HR1.out _ Tryz.underlying30 rfl (HSZ.out _) ?_)
  clear hW
  refine (tableBytes_flat t A n c lo zs W HF.out HZZ.out HN.out HO.out HUP.out).mono ?_
  rintro e w2 ⟨⟨g2, c2, rfl, ho2⟩, hb2⟩
  have hs0 := HS.out
  have hl2 := hb2.size
  have HB2 := Lib.hid (below_trans HB.out hb2)
  have HR02 := Lib.hid (HR0.out.keep hb2)
  have HR12 := Lib.hid (HR1.out.keep hb2)
  have hg2 : g2 < w2.heap.size ∧ W.heap.size ≤ g2 := ownB_lt ho2
  have HBY2 : Hid (∀ j, j < (tbBytes t).length → w2.cell? ⟨g2, 0 + j, none⟩ = some (Extern.Stop.cell ((tbBytes t)[j]?.getD 0))) := Lib.hid fun j hj => by
    have h := ho2.cells (g := g2) rfl j (Extern.Stop.cell ((tbBytes t)[j]?.getD 0)) (by rw [List.getElem?_map, List.getElem?_eq_getElem hj]; rfl)
    rw [addr_add] at h
    rw [Nat.zero_add]
    exact h
  clear ho2 hb2 HO HR1 HR0 HB HS
  have hS2 : w2.rangeAt (w.heap.size + 1) 36 (refCells t.mac) ∧ w2.rangeAt w.heap.size 0 (refCells key) := ⟨tb_mac t _ HR12.out HF.out.prev, fun j v hv => by rw [Nat.zero_add, HR02.out.2 j]; simpa [cellsB] using hv⟩
  have HS2 : Hid (w2.drew.rangeAt (w.heap.size + 1) 36 (refCells t.mac) ∧ w2.drew.rangeAt w.heap.size 0 (refCells key)) := Lib.hid hS2
  have HKC : Hid (Calls Tryz.prog 14 #[.agg (refCells key).toArray, .slice (some ⟨g2, 0, none⟩) (tbBytes t).length c2] w2.drew (Gives (.agg (refCells m).toArray) w2.drew)) := Lib.hid (by
    have h := keyed_some KR HK.out w2.drew ((HG.out.via (HB2.out.drew) hw0)) key (tbBytes t) HKY.out (by have := (tbBytes_len t HF.out).1; omega) (by have := (tbBytes_len t HF.out).2; omega) g2 0 c2 hg2.1 HBY2.out
    rw [HMM.out] at h
    exact h)
  have HUD : Hid (Tryz.prog.underlying 23 = some (.array 32 5)) := Lib.hid Tryz.underlying23
  have HI1 : Hid ((Tryz.prog.info? 23).map (·.size) = some (refCells t.mac).length) := Lib.hid (by have := dig_info t.mac HF.out.mac; rw [this]; simp [cellsB])
  have HI2 : Hid ((Tryz.prog.info? 23).map (·.size) = some (refCells key).length) := Lib.hid (by have := dig_info key HKY.out; rw [this]; simp [cellsB])
  clear hS2 HG HBY2
  go_wp2_with fail
  have hud := HUD.out
  have hi1 := HI1.out
  have hi2 := HI2.out
  have hq := HQ.out
  have hl1 : (refCells t.mac).length = 32 := by simp [refCells, HF.out.mac]
  have hl2' : (refCells key).length = 32 := by simp [refCells, HKY.out]
  refine wp_region_held_drew (S := fun w' => w'.rangeAt (w.heap.size + 1) 36 (refCells t.mac) ∧ w'.rangeAt w.heap.size 0 (refCells key)) (by kernel_rfl) HS2.out (fun hH => ?_)
  refine wpAnyH_takeD (i := 0) (v := (.pointer (some ⟨w.heap.size + 1, 36, none⟩))) (some 25) rfl rfl (by kernel_rfl) (by kernel_rfl) (by kernel_rfl) (fun _ _ _ h => h) (Or.inl ⟨by rfl, fun W hW => by go_simp⟩) hH ?_
  simp only [Act.put, List.setIfInBounds_toArray, List.set_cons_zero, List.set_cons_succ]
  refine wpAnyH_takeD (i := 1) (some 26) rfl rfl (by kernel_rfl) (by kernel_rfl) (by kernel_rfl) (fun _ _ _ h => h) (yieldsIf_load_mid (by rfl) _ _ rfl (w.heap.size + 1) 36 rfl (refCells t.mac) _ (fun _ hW => hW.1) hud rfl hi1) hH ?_
  simp only [Act.put, List.setIfInBounds_toArray, List.set_cons_zero, List.set_cons_succ]
  refine wpAnyH_takeD (i := 2) (some 27) rfl rfl (by kernel_rfl) (by kernel_rfl) (by kernel_rfl) (fun _ _ _ h => h) (yieldsIf_load_mid (by rfl) _ _ rfl w.heap.size 0 rfl (refCells key) _ (fun _ hW => hW.2) hud rfl hi2) hH ?_
  simp only [Act.put, List.setIfInBounds_toArray, List.set_cons_zero, List.set_cons_succ]
  refine wpAnyH_takeD (i := 3) (v := (.slice (some ⟨g2, 0, none⟩) (tbBytes t).length c2)) (some 28) rfl rfl (by kernel_rfl) (by kernel_rfl) (by kernel_rfl) (fun _ _ _ h => h) (Or.inl ⟨by rfl, fun W hW => by go_simp⟩) hH ?_
  simp only [Act.put, List.setIfInBounds_toArray, List.set_cons_zero, List.set_cons_succ]
  clear hH
  refine wpAnyH_ready (rs := [4]) (by kernel_rfl) (by simp) ?_
  refine AllReadyH.cons rfl (fun K hK => ?_) AllReadyH.nil
  go_simp
  go_at_call 14
  refine HKC.out.mono ?_
  rintro e w3 ⟨rfl, hb3⟩
  have HB3 : Hid (Below w2.heap.size w2 w3) := Lib.hid (Below.trans ((Below.refl _ w2).drew) hb3)
  have HS3 : Hid (w3.rangeAt (w.heap.size + 1) 36 (refCells t.mac) ∧ w3.rangeAt w.heap.size 0 (refCells key)) := Lib.hid ⟨rangeAt_keep HS2.out.1 hb3 HR12.out.1, rangeAt_keep HS2.out.2 hb3 HR02.out.1⟩
  clear hb3
  refine hK.out _ _ HS3.out (fun hH => ?_)
  clear hK K
  refine wpAnyH_takeD (i := 5) (v := (.bool b)) (some 30) rfl rfl (by kernel_rfl) (by kernel_rfl) (by kernel_rfl) (fun _ _ _ h => h) (Or.inl ⟨by rfl, fun W hW => by go_simp⟩) hH ?_
  simp only [Act.put, List.setIfInBounds_toArray, List.set_cons_zero, List.set_cons_succ]
  refine wpAnyH_takeD (i := 6) (v := (.bool b)) (some 24) rfl rfl (by kernel_rfl) (by kernel_rfl) (by kernel_rfl) (fun _ _ _ h => h) (Or.inl ⟨by rfl, fun W hW => by go_simp⟩) hH ?_
  simp only [Act.put, List.setIfInBounds_toArray, List.set_cons_zero, List.set_cons_succ]
  clear hH
  refine wpAnyH_done (by kernel_rfl) ?_ _
  have hc1 : w3.cell? ⟨w.heap.size + 1, 1, none⟩ = some (I 1) := (HB3.out.cell (p := ⟨w.heap.size + 1, 1, none⟩) HR12.out.1).trans ((HR12.out.2 1).trans (by rw [tb_get1, HV.out]))
  have HBW := Lib.hid (HB2.out.trans (HB3.out.mono (by omega)))
  have hrr := HRR.out
  clear HRR HS3 hud hi1 hi2 hq hl1 hl2'
  cases b
  all_goals
    have hr2 := hrr
    dsimp only [cond] at hr2
    subst hr2
    clear hrr
    go_wp2_with fail
    go_ret
    first | exact HBW.out | exact ⟨rfl, HBW.out⟩
end Go.Proofs.YtoljoigbepdeiaaGreatDoor

/- table.Append to no chain. -/
namespace Go.Proofs.YtoljoigbepdeiaaGreatDoor
open Go Go.RowKit

set_option maxRecDepth 10000 in
set_option maxHeartbeats 800000 in
theorem append_bad (KR : List Int) (hK : KR.length = 64) (w : World) (hG : RowU w 0 (cellsU KR)) (hw0 : 0 < w.heap.size) (key : List UInt8) (hk : key.length = 32) (t : Tb) (A : Option Addr) (n c lo : Nat) (zs : List ZeV) (h : TbFlat t) (hzz : t.zones = zs.map (·.e)) (hn : zs.length = n) (hO : ZsOwn lo w (.slice A n c) zs) (hup : NamesUp zs) (hv : t.version = 1) (hb : (!(t.mac == macF KR key (tbBytes t))) = true) :
    Calls Tryz.prog 12 #[.slice none 0 0, .agg (cellsB key), .agg (tbVal t (.slice A n c))] w (Gives (.tuple #[.slice none 0 0, I 8]) w) := by
  have HSZ : Hid (∀ v, (Tryz.prog.info? 30).map (·.size) = some (tbVal t v).size) := Lib.hid fun v => tb_info t v h.prev h.mac
  have HDI := Lib.hid (dig_info key hk)
  have HS68 : Hid (∀ v, (tbVal t v).size = 68) := Lib.hid fun v => tb_size t v h.prev h.mac
  obtain ⟨W, hW⟩ : ∃ W, (w.alloc (.cells (cellsB key) 23)).alloc (.cells (tbVal t (.slice A n c)) 30) = W := ⟨_, rfl⟩
  have hB : Below w.heap.size w W := by rw [← hW]; exact ((Below.refl _ w).alloc (Nat.le_refl _) _).alloc (by simp) _
  have hs : W.heap.size = w.heap.size + 2 := by rw [← hW]; simp
  have hb0 : W.heap[w.heap.size]? = some (.cells (cellsB key) 23 (0, 0)) := by rw [← hW]; exact heap_alloc2_old w _ _
  have hb1 : W.heap[w.heap.size + 1]? = some (.cells (tbVal t (.slice A n c)) 30 (0, 0)) := by rw [← hW]; exact heap_alloc2_new w _ _
  have HB := Lib.hid hB
  have HS := Lib.hid hs
  have HR0 := Lib.hid (Row.of_blk hb0)
  have HR1 := Lib.hid (Row.of_blk hb1)
  have HO := Lib.hid (hO.below hB)
  have HG : Hid (RowU W 0 (cellsU KR)) := Lib.hid (hG.via hB hw0)
  have HAD := Lib.hid (admit_flat KR hK W HG.out (by omega) key hk t A n c lo zs h hzz hn HO.out hup hv _ rfl _ rfl)
  rw [hb] at HAD
  clear h hzz hn hO hup hK hk hb0 hb1 hB hs hG hv hb
  go_enter Tryz.func12, Tryz.ntmps12
  go_wp2_with (first
    | (with_reducible refine g_load 23 ?_; refine wpList_load_Row rfl _ _ rfl w.heap.size rfl (cellsB key) HR0.out _ Tryz.underlying23 rfl HDI.out ?_)
    | (with_reducible refine g_load 30 ?_; refine wpList_load_Row rfl _ _ rfl (w.heap.size + 1) rfl (tbVal t (.slice A n c)) HR1.out _ Tryz.underlying30 rfl (HSZ.out _) ?_))
  clear hW
  refine HAD.out.mono ?_
  rintro e w2 ⟨rfl, hb2⟩
  have HBW := Lib.hid (below_trans HB.out hb2)
  clear hb2
  go_wp2_with fail
  go_ret2
  exact ⟨rfl, HBW.out⟩
theorem make_tabs (W : World) : (Instr.makeSlice 63 (.int .i64 0) (.int .i64 1)).run Tryz.prog W = .ok (.slice (some ⟨W.heap.size, 0, none⟩) 0 1) (W.alloc (.cells (tbVal zTb (.slice none 0 0)) 30)) := by
  have h0 : (Tryz.prog.info? 30).map (fun i => (i.zero, i.size, i.bytes)) = some (some (.agg (tbVal zTb (.slice none 0 0))), 68, 112) := by kernel_rfl
  obtain ⟨i, hi, he⟩ := Option.map_eq_some_iff.1 h0
  simp only [Prod.mk.injEq] at he
  obtain ⟨hz, hs, hb⟩ := he
  have h := run_make (P := Tryz.prog) W 63 30 i (.agg (tbVal zTb (.slice none 0 0))) Tryz.underlying63 hi hz .i64 .i64 0 1 (by omega) (by omega) (by rw [hb]; omega) (by omega)
  have e : madeCells (Value.agg (tbVal zTb (.slice none 0 0))).cells (Int.toNat 1 * 68) = tbVal zTb (.slice none 0 0) := by kernel_rfl
  rw [h, hs, e]
  rfl
theorem info_tab : (Tryz.prog.info? 30).map (fun i => (i.zero, i.size, i.bytes)) = some (some (.agg (tbVal zTb (.slice none 0 0))), 68, 112) := by kernel_rfl
section
variable {ops : Array Oper} {rest : List Oper} {o : Oper} {a : Act} {Q : Exit → Act → World → Prop} {w : World}
theorem wpList_tab_slice (hgd : o.guard = none) (x : Operand) (ho : o.op = .buildSlice 63 1 #[(0, x)]) (cs : Array Value) (hcs : cs.size = 68)
    (hx : a.eval x = .agg cs) (h : wpList Tryz.prog ops Q rest (a.put o.dst (.slice (some ⟨w.heap.size, 0, none⟩) 1 1)) (w.alloc (.cells cs 30))) : wpList Tryz.prog ops Q (o :: rest) a w := by
  obtain ⟨i0, hi, hz0, hz1, hz2⟩ := info_parts info_tab
  refine wpList_buildSlice hgd 63 30 1 _ ho cs i0 (.agg (tbVal zTb (.slice none 0 0))) Tryz.underlying63 hi hz0 (by rw [hz1]; decide) (by rw [hz1]; decide) ?_ h
  rw [hz1]
  simp only [List.map_toArray, List.map_cons, List.map_nil, hx]
  have h := Go.Great.fill_whole (s := 68) (by omega) [.agg cs] ((Array.range (1 * 68)).map ((Value.agg (tbVal zTb (.slice none 0 0))).cells[· % (Value.agg (tbVal zTb (.slice none 0 0))).cells.size]!)) (fun v hv => by simp at hv; subst hv; exact hcs) (by simp)
  have e : ([Value.agg cs].flatMap fun v => v.cells.toList).toArray = cs := by simp [Value.cells]
  rw [e] at h
  exact h
theorem g_bslice2 {P : Program} (ty : TypeId) {n : Nat} {x : Array (Nat × Operand)} {d : Option Tmp} {t : TypeId} {pos : String} {af : Array Edge} {g : Option (Nat × Bool)} (h : wpList P ops Q (⟨d, .buildSlice ty n x, t, pos, af, g⟩ :: rest) a w) : wpList P ops Q (⟨d, .buildSlice ty n x, t, pos, af, g⟩ :: rest) a w := h
end
theorem cells_newTab (w : World) (cs : Array Value) (t : TypeId) : ∀ j u, cs.toList[j]? = some u → (w.alloc (.cells cs t)).cell? ((⟨w.heap.size, 0, none⟩ : Addr).add j) = some u := by
  intro j u hu
  rw [addr_add, (Row.new w cs t).2 j]
  simpa using hu
def AppR (w : World) (e : Ending) (w' : World) : Prop := (∃ g c, e = .returned (.tuple #[.slice (some ⟨g, 0, none⟩) 1 c, I 0])) ∧ Below w.heap.size w w'
set_option maxRecDepth 10000 in
set_option maxHeartbeats 800000 in
theorem append_yes (KR : List Int) (hK : KR.length = 64) (w : World) (hG : RowU w 0 (cellsU KR)) (hw0 : 0 < w.heap.size) (key : List UInt8) (hk : key.length = 32) (t : Tb) (A : Option Addr) (n c lo : Nat) (zs : List ZeV) (h : TbFlat t) (hzz : t.zones = zs.map (·.e)) (hn : zs.length = n) (hO : ZsOwn lo w (.slice A n c) zs) (hup : NamesUp zs) (hv : t.version = 1) (hb : (!(t.mac == macF KR key (tbBytes t))) = false) :
    Calls Tryz.prog 12 #[.slice none 0 0, .agg (cellsB key), .agg (tbVal t (.slice A n c))] w (AppR w) := by
  have HSZ : Hid (∀ v, (Tryz.prog.info? 30).map (·.size) = some (tbVal t v).size) := Lib.hid fun v => tb_info t v h.prev h.mac
  have HDI := Lib.hid (dig_info key hk)
  have HS68 : Hid (∀ v, (tbVal t v).size = 68) := Lib.hid fun v => tb_size t v h.prev h.mac
  obtain ⟨W, hW⟩ : ∃ W, (w.alloc (.cells (cellsB key) 23)).alloc (.cells (tbVal t (.slice A n c)) 30) = W := ⟨_, rfl⟩
  have hB : Below w.heap.size w W := by rw [← hW]; exact ((Below.refl _ w).alloc (Nat.le_refl _) _).alloc (by simp) _
  have hs : W.heap.size = w.heap.size + 2 := by rw [← hW]; simp
  have hb0 : W.heap[w.heap.size]? = some (.cells (cellsB key) 23 (0, 0)) := by rw [← hW]; exact heap_alloc2_old w _ _
  have hb1 : W.heap[w.heap.size + 1]? = some (.cells (tbVal t (.slice A n c)) 30 (0, 0)) := by rw [← hW]; exact heap_alloc2_new w _ _
  have HB := Lib.hid hB
  have HS := Lib.hid hs
  have HR0 := Lib.hid (Row.of_blk hb0)
  have HR1 := Lib.hid (Row.of_blk hb1)
  have HO := Lib.hid (hO.below hB)
  have HG : Hid (RowU W 0 (cellsU KR)) := Lib.hid (hG.via hB hw0)
  have HAD := Lib.hid (admit_flat KR hK W HG.out (by omega) key hk t A n c lo zs h hzz hn HO.out hup hv _ rfl _ rfl)
  rw [hb] at HAD
  have HCL : Hid (∀ W', Below W.heap.size W W' → Calls Tryz.prog 21 #[.agg (tbVal t (.slice A n c))] W' (ClT W' t zs)) := Lib.hid fun W' hb' => by
    have h2 : zs.length ≤ 128 := by have := h.num; rw [hzz, List.length_map] at this; exact this
    have h3 := HO.out.below hb'
    rw [← hn] at h3 ⊢
    exact cloned_own t A c lo zs W' (fun x hx => h.flat _ (by rw [hzz]; exact List.mem_map_of_mem hx)) h2 h.prev h.mac h3
  clear h hzz hn hO hup hK hk hb0 hb1 hB hs hG hv hb
  go_enter Tryz.func12, Tryz.ntmps12
  go_wp2_with (first
    | (with_reducible refine g_load 23 ?_; refine wpList_load_Row rfl _ _ rfl w.heap.size rfl (cellsB key) HR0.out _ Tryz.underlying23 rfl HDI.out ?_)
    | (with_reducible refine g_load 30 ?_; refine wpList_load_Row rfl _ _ rfl (w.heap.size + 1) rfl (tbVal t (.slice A n c)) HR1.out _ Tryz.underlying30 rfl (HSZ.out _) ?_))
  clear hW
  refine HAD.out.mono ?_
  rintro e w2 ⟨rfl, hb2⟩
  have hmk := make_tabs
  have hb3 := below_var w2 (.cells (tbVal zTb (.slice none 0 0)) 30)
  have hl2 := hb2.size
  have HB3 := Lib.hid (below_trans hb2 hb3)
  have HR13 := Lib.hid ((HR1.out.keep hb2).keep hb3)
  have HO3 : Hid ((w2.alloc (.cells (tbVal zTb (.slice none 0 0)) 30)).ownsRow w2.heap.size 30 68 (.slice (some ⟨w2.heap.size, 0, none⟩) 0 1) 0 []) := Lib.hid (own_mk (heap_alloc_last w2 _) (Nat.le_refl _) (by omega) (by unfold maxLen; omega) (by rw [tb_size _ _ rfl rfl]) rfl rfl)
  clear hb2 hb3
  go_wp2_with fail
  obtain ⟨g, hg⟩ : ∃ g, w2.heap.size = g := ⟨_, rfl⟩
  generalize w2.alloc (.cells (tbVal zTb (.slice none 0 0)) 30) = W3 at HB3 HR13 HO3 ⊢
  rw [hg] at HO3 ⊢
  go_loop [9, 25] (fun v i => v = .slice (some ⟨g, 0, none⟩) 0 1 ∧ i = .int .i64 0) (fun _ _ => 0)
  case atStart => exact ⟨rfl, rfl⟩
  case round =>
    obtain ⟨rfl, rfl⟩ := hrel
    have hsz := HS68.out
    go_wp2_with (with_reducible refine g_load 30 ?_; refine wpList_load_Row rfl _ _ rfl (w.heap.size + 1) rfl (tbVal t (.slice A n c)) HR13.out _ Tryz.underlying30 rfl (HSZ.out _) ?_)
    refine (HCL.out _ HB3.out).mono ?_
    rintro e w4 ⟨A4, c4, ys, rfl, hz4, he4, hb4⟩
    have HB4 := Lib.hid hb4
    obtain ⟨i0, hi, hz0, hz1, hz2⟩ := info_parts info_tab
    have hl4 := hb4.size
    have hg4 := own_low HO3.out
    have HO4 := Lib.hid ((ownsRow_blocks HO3.out fun k _ h2 => hb4.block k h2).alloc (.cells (tbVal t (.slice A4 zs.length c4)) 30))
    have HBF : Hid (Below w.heap.size w w4) := Lib.hid ((HB.out.trans (HB3.out.mono (by have := HB.out.size; omega))).trans (hb4.mono (by have := HB.out.size; have := HB3.out.size; omega)))
    have HI := Lib.hid hi
    have HZ0 := Lib.hid hz0
    have HZ1 := Lib.hid hz1
    have HZ2 := Lib.hid hz2
    have HONE : Hid (∀ u ∈ (tbVal t (.slice A4 zs.length c4)).toList, u.oneCell' = true) := Lib.hid fun u hu => Array.all_eq_true_iff_forall_mem.1 (tbVal_one t A4 zs.length c4) u (by simpa using hu)
    clear hz4 he4 hb4 hi hz0 hz1 hz2
    go_wp2_with (first
      | (with_reducible refine g_bslice2 63 ?_; refine wpList_tab_slice rfl _ rfl (tbVal t (.slice A4 zs.length c4)) (hsz _) rfl ?_)
      | (at_builtin; refine wpList_append_lies _ rfl _ _ 63 rfl g 30 i0 (.agg (tbVal zTb (.slice none 0 0))) 68 112 Tryz.underlying63 HI.out HZ0.out HZ1.out HZ2.out rfl (by decide) (.slice (some ⟨g, 0, none⟩) 0 1) 0 [] rfl HO4.out ⟨w4.heap.size, 0, none⟩ 1 1 (tbVal t (.slice A4 zs.length c4)).toList rfl (by rw [Array.length_toList, hsz]) (cells_newTab _ _ _) HONE.out (by omega) (by unfold maxLen; omega) (by omega) (by simp; omega) _ rfl ?_; intro gg cap w6 hown6 hgrow6 hat6 hlt6; have HG6 := Lib.hid hgrow6; clear hown6 hgrow6 hat6))
    go_ret2
    have hBS := HB.out.size
    have hsW := HS.out
    have hb5 : Below w.heap.size w (w4.alloc (.cells (tbVal t (.slice A4 zs.length c4)) 30)) := HBF.out.alloc (by have := HBF.out.size; omega) _
    refine ⟨⟨gg, cap, rfl⟩, hb5.trans ⟨HG6.out.os, HG6.out.tape, HG6.out.output, HG6.out.size, fun k hk => HG6.out.block k (Nat.lt_of_lt_of_le hk hb5.size) fun e => ?_⟩⟩
    have : k = g := by simpa [Value.ownBlock] using e
    omega
end Go.Proofs.YtoljoigbepdeiaaGreatDoor

/- Letters as rows: cells put, sizes. -/
namespace Go.Proofs.YtoljoigbepdeiaaGreatDoor
open Go Go.RowKit

theorem put_cells (l : Lt) (s : Sl) (zs : List Int) (C : Option Addr) (n e : Nat) (hn : zs.length = n) : (ltVal l s).setIfInBounds 29 (.slice C n e) = ltVal { l with cells := zs } { s with C := C, e := e } := by
  subst hn
  simp [ltVal, ltCells]
theorem sz_eq (l : Lt) (s : Sl) (h : l.ref.length = 32) : (ltVal zLt zSl).size = (ltVal l s).size := by
  have h0 : zLt.ref.length = 32 := by decide
  unfold ltVal
  rw [lt_size _ _ _ _ h, lt_size _ _ _ _ h0]
end Go.Proofs.YtoljoigbepdeiaaGreatDoor

/- (*letter.reader).cells on known bytes. -/
namespace Go.Proofs.YtoljoigbepdeiaaGreatDoor
open Go Go.RowKit

theorem LIn.cast {w wm w1 : World} {l l' : Lt} {s s' : Sl} {R : List UInt8} (h : LIn w wm w1 l s R) (e : ltVal l' s' = ltVal l s) : LIn w wm w1 l' s' R :=
  ⟨by rw [e]; exact h.blk, h.st, h.res, h.lo, h.sz, h.msz, h.mem⟩
theorem LIn.grown {w wm w1 w2 : World} {l : Lt} {s : Sl} {R : List UInt8} {e size n : Nat} {v : Value} {ys : List Value} {o : Obj} (h : LIn w wm w1 l s R) (hwm : w.heap.size + 4 < wm.heap.size) (hown : w1.ownsRow wm.heap.size e size v n ys) (hg : (w1.drew.alloc o).grownBy w2 v.ownBlock) : LIn w wm w2 l s R := by
  have hm := h.msz
  have hs : w1.heap.size ≤ w2.heap.size := by have h1 := hg.size; rw [World.size_alloc] at h1; have h2 : w1.drew.heap.size = w1.heap.size := rfl; omega
  have hb : ∀ k, k < wm.heap.size → w2.heap[k]? = w1.heap[k]? := fun k hk => grown_low (W := w1.drew) hown hg k (by show k < w1.heap.size; omega) hk
  exact h.turn ((hb _ (by omega)).trans h.blk) hg.os hg.tape hg.output hs fun k h1 _ => hb k (by omega)
theorem cellBytes_map (zs : List Int) : cellBytes zs = zs.map byteOf := by
  induction zs with
  | nil => rfl
  | cons z zs ih => unfold cellBytes at *; rw [List.flatMap_cons, ih]; rfl
theorem byte_z {z : Int} (h : 0 ≤ z ∧ z ≤ 255) : Extern.Stop.cell (byteOf z) = .int .u8 z := by rw [byteOf_cell, Int.emod_eq_of_lt h.1 (by omega)]
theorem cells_newI {w : World} {t : TypeId} (z : Int) : ∀ j u, [I z][j]? = some u → (w.alloc (.cells #[I z] t)).cell? ((⟨w.heap.size, 0, none⟩ : Addr).add j) = some u := by
  intro j u hu
  rw [addr_add, (Row.new w _ t).2 j]
  simpa using hu
theorem int_ones (z : Int) : ∀ u ∈ [I z], u.oneCell' = true := fun u hu => by rw [List.mem_singleton.1 hu]; rfl
def RcRel (w wm : World) (l : Lt) (s : Sl) (R : List UInt8) (zs : List Int) (N : Nat) (i : Value) (wr : World) : Prop :=
  ∃ (j : Nat) (C : Option Addr) (e : Nat), j ≤ N ∧ i = I j ∧ LIn w wm wr { l with cells := zs.take j } { s with C := C, e := e } R ∧ wr.ownsRow wm.heap.size 3 1 (.slice C j e) j ((zs.take j).map I)
set_option maxRecDepth 10000 in
set_option maxHeartbeats 2000000 in
theorem rcells_yes (w wm w1 : World) (l : Lt) (s : Sl) (R : List UInt8) (zs : List Int) (N : Nat) (hN : zs.length = N) (hN2 : N ≤ 65536) (hz : ∀ z ∈ zs, 0 ≤ z ∧ z ≤ 255) (hwm : w.heap.size + 4 < wm.heap.size) (hc0 : l.cells = []) (hC : s.C = none) (he : s.e = 0)
    (h : LIn w wm w1 l s (le (N : Int) 4 ++ (cellBytes zs ++ R))) :
    Calls Tryz.prog 37 #[pt (w.heap.size + 3)] w1 fun e w2 => e = .returned (.tuple #[]) ∧ ∃ C e', LIn w wm w2 { l with cells := zs } { s with C := C, e := e' } R ∧ w2.ownsRow wm.heap.size 3 1 (.slice C N e') N (zs.map I) := by
  have H0 := Lib.hid h
  have HN := Lib.hid hN
  have HZ := Lib.hid hz
  have HE : Hid (ltVal { l with cells := zs.take 0 } { s with C := none, e := 0 } = ltVal l s) := Lib.hid (by unfold ltVal; rw [List.take_zero, hc0, hC, he]; rfl)
  clear h hN hz hc0 hC he
  go_enter Tryz.func37, Tryz.ntmps37
  go_wp2_with fail
  refine (H0.out.number4 (by omega) (by omega)).mono ?_
  rintro e w2 ⟨rfl, h2⟩
  have H2 := Lib.hid h2
  have hc2 := h2.rdr
  have hf2 := h2.fn
  clear h2 H0
  go_wp2_with fail
  refine (H2.out.take (by rw [cellBytes_length]; exact HN.out)).mono ?_
  rintro e w3 ⟨A, c, rfl, hnc, hcm, hby, h3⟩
  have H3 := Lib.hid h3
  have HY := Lib.hid hby
  clear h3 hby H2 hc2 hf2
  go_wp2_with fail
  go_loopw [14] (fun i wr => RcRel w wm l s R zs N i wr) (fun i _ => N - (intOf i).toNat)
  case atStart => exact ⟨0, none, 0, Nat.zero_le _, rfl, H3.out.cast HE.out, World.ownsRow_nil _ _ _ _⟩
  case round =>
    obtain ⟨j, C, e, hj, rfl, hs, ho⟩ := hrel
    have HS := Lib.hid hs
    have HO := Lib.hid ho
    clear hs ho
    by_cases hlt : (j : Int) < (N : Int)
    · have hjl : j < zs.length := by have := HN.out; omega
      obtain ⟨z, hzd⟩ : ∃ z, zs[j] = z := ⟨_, rfl⟩
      have hx : zs[j]? = some z := by rw [← hzd]; exact List.getElem?_eq_getElem hjl
      have hz2 := HZ.out z (List.mem_of_getElem? hx)
      have hyr := HY.out.via H3.out.lo HS.out.lo
      obtain ⟨b, off, rfl, hbw, hcl⟩ := bytes_some hyr (by rw [cellBytes_length]; omega)
      have hcell : wr.cell? ⟨b, off + j, none⟩ = some (.int .u8 z) := by
        rw [hcl j (by rw [cellBytes_length]; exact hjl), cellBytes_map, List.getElem?_map, hx]
        exact congrArg some (byte_z hz2)
      obtain ⟨hz0, hz1⟩ := hz2
      have hcr := HS.out.rdr
      have hlz : (zs.take j).length = j := by rw [List.length_take]; omega
      have hcv : wr.cell? ⟨w.heap.size + 1, 29, none⟩ = some (.slice C j e) := by
        have h := HS.out.row.2 29
        rw [h, ltVal_get, lt_get29]
        show some (Value.slice C (zs.take j).length e) = _
        rw [hlz]
      have hfv := HS.out.froz 29
      have hsz := HS.out.sz
      have hmz := HS.out.msz
      have hwz : IntKind.i64.wrap z = z := by rw [IntKind.wrap_i64]; omega
      have hlw : w.heap.size + 1 < wr.heap.size := by omega
      have hlw3 : w.heap.size + 3 < wr.heap.size := by omega
      have HX := Lib.hid hx
      have HOD : Hid (wr.drew.ownsRow wm.heap.size 3 1 (.slice C j e) j ((zs.take j).map I)) := Lib.hid HO.out
      have hdw : wm.heap.size ≤ wr.drew.heap.size := hmz
      obtain ⟨i0, hi, hq0, hq1, hq2⟩ := info_parts info_int
      clear hjl hzd hx hyr hcl hlz
      go_wp2_with fail
      go_region_law (refine step_append_lies _ (by rfl) _ _ _ (by rfl) wm.heap.size 3 i0 (.int .i64 0) 1 8 Tryz.underlying31 hi hq0 hq1 hq2 rfl (by omega) (.slice C j e) j ((zs.take j).map I) (by rfl) (HOD.out.alloc _) ⟨wr.heap.size, 0, none⟩ 1 1 [I z] (by rfl) rfl (cells_newI (w := wr.drew) z) (int_ones z) (by omega) (by unfold maxLen; omega) (by omega) (by first | (simp; done) | (simp; omega)) _ rfl ?_; intro gg cap w6 hown6 hgrow6 hat6 hlt6; have hg6 := HS.out.grown hwm HO.out hgrow6; have H6 := Lib.hid hg6; have HO6 := Lib.hid hown6; have hcr6 := hg6.rdr; have hcv6 : w6.cell? ⟨w.heap.size + 1, 29, none⟩ = some (.slice C (zs.take j).length e) := hg6.row.2 29; have hfv6 := hg6.froz 29; clear hg6 hown6 hgrow6 hat6)
      all_goals
        have hlen7 : (zs.take (j + 1)).length = j + 1 := by have := HN.out; rw [List.length_take]; omega
        have H7 : Hid (LIn w wm (w6.setCell ⟨w.heap.size + 1, 29, none⟩ (.slice (some ⟨gg, 0, none⟩) (j + 1) cap)) { l with cells := zs.take (j + 1) } { s with C := some ⟨gg, 0, none⟩, e := cap } R) := Lib.hid (H6.out.store (by rw [put_cells _ _ (zs.take (j + 1)) _ _ _ hlen7]))
        have HO7 := Lib.hid (ownsRow_setCell_below (a := ⟨w.heap.size + 1, 29, none⟩) HO6.out (by show w.heap.size + 1 < wm.heap.size; omega) (.slice (some ⟨gg, 0, none⟩) (j + 1) cap))
        clear hlen7
        go_wp2_with fail
        go_roundw
        case rel => exact ⟨j + 1, some ⟨gg, 0, none⟩, cap, by omega, by go_num, H7.out, by rw [take_next _ _ _ HX.out, List.map_append]; exact HO7.out⟩
        case measure => simp [intOf]; omega
    · have HF : Hid (zs.take j = zs) := Lib.hid (List.take_of_length_le (by have := HN.out; omega))
      have hje : j = N := by omega
      subst hje
      go_wp2_with fail
      go_end0
      have h1 := HS.out
      have h2 := HO.out
      rw [HF.out] at h1 h2
      exact ⟨rfl, C, e, h1, h2⟩
end Go.Proofs.YtoljoigbepdeiaaGreatDoor

/- kalendslaw20.octets, kalendslaw20.bytesOf. -/
namespace Go.Proofs.YtoljoigbepdeiaaGreatDoor
open Go Go.RowKit

theorem info_byte : (Tryz.prog.info? 5).map (fun i => (i.zero, i.size, i.bytes)) = some (some (.int .u8 0), 1, 1) := by kernel_rfl
theorem cells_newB {w : World} {t : TypeId} (z : Int) : ∀ j u, [Value.int .u8 z][j]? = some u → (w.alloc (.cells #[.int .u8 z] t)).cell? ((⟨w.heap.size, 0, none⟩ : Addr).add j) = some u := by
  intro j u hu
  rw [addr_add, (Row.new w #[.int .u8 z] t).2 j]
  simpa using hu
theorem byte_ones2 (z : Int) : ∀ u ∈ [Value.int .u8 z], u.oneCell' = true := fun u hu => by rw [List.mem_singleton.1 hu]; rfl
def octetsR (w : World) (zs : List Int) (n : Nat) (v i : Value) (wr : World) : Prop :=
  ∃ (k : Nat) (v' : Value), v' = v ∧ k ≤ n ∧ i = I k ∧ wr.ownsRow w.heap.size 3 1 v' k ((zs.take k).map (Value.int .i64)) ∧ Below w.heap.size w wr
set_option maxRecDepth 10000 in
set_option maxHeartbeats 1000000 in
theorem octets_some (w : World) (b off n c : Nat) (zs : List Int) (hn : zs.length = n) (hn2 : n ≤ 1000000) (hz : ∀ z ∈ zs, 0 ≤ z ∧ z < 256) (hb : b < w.heap.size) (hc : ∀ j z, zs[j]? = some z → w.cell? ⟨b, off + j, none⟩ = some (.int .u8 z)) :
    Calls Tryz.prog 7 #[.slice (some ⟨b, off, none⟩) n c] w fun e w' => ∃ v, e = .returned v ∧ w'.ownsRow w.heap.size 3 1 v n (zs.map (Value.int .i64)) ∧ Below w.heap.size w w' := by
  have HN := Lib.hid hn
  have HZ := Lib.hid hz
  have HC := Lib.hid hc
  clear hn hz hc
  go_enter Tryz.func7, Tryz.ntmps7
  go_wp2_with fail
  go_loopw [3, 4] (fun v i wr => octetsR w zs n v i wr) (fun _ i _ => n - (intOf i).toNat)
  case atStart => exact ⟨0, _, rfl, Nat.zero_le _, rfl, World.ownsRow_nil _ _ _ _, Below.refl _ _⟩
  case round =>
    obtain ⟨k, v, rfl, hk, rfl, hown, hbw⟩ := hrel
    have HO := Lib.hid hown
    have HB := Lib.hid hbw
    clear hown hbw
    by_cases hlt : k < n
    · have hkz : k < zs.length := by rw [HN.out]; exact hlt
      obtain ⟨z, hx⟩ : ∃ z, zs[k]? = some z := ⟨_, List.getElem?_eq_getElem hkz⟩
      have HX := Lib.hid hx
      have hz2 := HZ.out z (List.mem_of_getElem? hx)
      have hcell : wr.cell? ⟨b, off + k, none⟩ = some (.int .u8 z) := (HB.out.cell (p := ⟨b, off + k, none⟩) hb).trans (HC.out k z hx)
      obtain ⟨hz0, hz1⟩ := hz2
      have hwz : IntKind.i64.wrap z = z := by rw [IntKind.wrap_i64]; omega
      have i0 : (0 : Int) ≤ (k : Int) := by omega
      have i1 : (k : Int) < (n : Int) := by omega
      have hsz := HB.out.size
      have HOA : Hid ((wr.alloc (.cells #[.int .i64 z] 3)).ownsRow w.heap.size 3 1 v k ((zs.take k).map (Value.int .i64))) := Lib.hid (HO.out.alloc _)
      obtain ⟨i0', hi, hq0, hq1, hq2⟩ := info_parts info_int
      have HI := Lib.hid hi
      have HQ0 := Lib.hid hq0
      have HQ1 := Lib.hid hq1
      have HQ2 := Lib.hid hq2
      clear hkz hx hi hq0 hq1 hq2
      go_wp2_with (at_builtin; refine wpList_append_lies _ rfl _ _ 31 rfl w.heap.size 3 i0' (.int .i64 0) 1 8 Tryz.underlying31 HI.out HQ0.out HQ1.out HQ2.out rfl (by decide) v k ((zs.take k).map (Value.int .i64)) rfl HOA.out ⟨wr.heap.size, 0, none⟩ 1 1 [Value.int .i64 z] rfl rfl (cells_newI (w := wr) z) (int_ones z) (by omega) (by unfold maxLen; omega) (by omega) (by simp; omega) _ rfl ?_; intro gg cap w6 hown6 hgrow6 hat6 hlt6; have HO6 := Lib.hid hown6; have HG6 : Hid (Below w.heap.size w w6) := Lib.hid (below_grown' (HB.out.alloc (by omega) _) HOA.out (by simp; omega) hgrow6); clear hown6 hgrow6 hat6)
      go_roundw
      case rel => exact ⟨k + 1, _, rfl, by omega, by go_num, by rw [take_next _ _ _ HX.out, List.map_append]; exact HO6.out, HG6.out⟩
      case measure => simp [intOf]; omega
    · have hkn : k = n := by omega
      have HKN := Lib.hid hkn
      clear hkn
      go_wp2_with fail
      go_ret
      refine ⟨_, rfl, ?_, HB.out⟩
      have h := HO.out
      rwa [HKN.out, List.take_of_length_le (by rw [HN.out]; exact Nat.le_refl _)] at h
def bytesOfR (w : World) (zs : List Int) (n : Nat) (v i : Value) (wr : World) : Prop :=
  ∃ (k : Nat) (v' : Value), v' = v ∧ k ≤ n ∧ i = I k ∧ wr.ownsRow w.heap.size 5 1 v' k ((zs.take k).map (Value.int .u8)) ∧ Below w.heap.size w wr
set_option maxRecDepth 10000 in
set_option maxHeartbeats 1000000 in
theorem bytesOf_some (w : World) (b off n c : Nat) (zs : List Int) (hn : zs.length = n) (hn2 : n ≤ 1000000) (hz : ∀ z ∈ zs, 0 ≤ z ∧ z < 256) (hb : b < w.heap.size) (hc : ∀ j z, zs[j]? = some z → w.cell? ⟨b, off + j, none⟩ = some (.int .i64 z)) :
    Calls Tryz.prog 11 #[.slice (some ⟨b, off, none⟩) n c] w fun e w' => ∃ v, e = .returned v ∧ w'.ownsRow w.heap.size 5 1 v n (zs.map (Value.int .u8)) ∧ Below w.heap.size w w' := by
  have HN := Lib.hid hn
  have HZ := Lib.hid hz
  have HC := Lib.hid hc
  clear hn hz hc
  go_enter Tryz.func11, Tryz.ntmps11
  go_wp2_with fail
  go_loopw [3, 4] (fun v i wr => bytesOfR w zs n v i wr) (fun _ i _ => n - (intOf i).toNat)
  case atStart => exact ⟨0, _, rfl, Nat.zero_le _, rfl, World.ownsRow_nil _ _ _ _, Below.refl _ _⟩
  case round =>
    obtain ⟨k, v, rfl, hk, rfl, hown, hbw⟩ := hrel
    have HO := Lib.hid hown
    have HB := Lib.hid hbw
    clear hown hbw
    by_cases hlt : k < n
    · have hkz : k < zs.length := by rw [HN.out]; exact hlt
      obtain ⟨z, hx⟩ : ∃ z, zs[k]? = some z := ⟨_, List.getElem?_eq_getElem hkz⟩
      have HX := Lib.hid hx
      have hz2 := HZ.out z (List.mem_of_getElem? hx)
      have hcell : wr.cell? ⟨b, off + k, none⟩ = some (.int .i64 z) := (HB.out.cell (p := ⟨b, off + k, none⟩) hb).trans (HC.out k z hx)
      obtain ⟨hz0, hz1⟩ := hz2
      have hwz : IntKind.u8.wrap z = z := by simp [IntKind.wrap, IntKind.bits, IntKind.signed]; omega
      have i0 : (0 : Int) ≤ (k : Int) := by omega
      have i1 : (k : Int) < (n : Int) := by omega
      have hsz := HB.out.size
      have HOA : Hid ((wr.alloc (.cells #[.int .u8 z] 5)).ownsRow w.heap.size 5 1 v k ((zs.take k).map (Value.int .u8))) := Lib.hid (HO.out.alloc _)
      obtain ⟨i0', hi, hq0, hq1, hq2⟩ := info_parts info_byte
      have HI := Lib.hid hi
      have HQ0 := Lib.hid hq0
      have HQ1 := Lib.hid hq1
      have HQ2 := Lib.hid hq2
      clear hkz hx hi hq0 hq1 hq2
      go_wp2_with (at_builtin; refine wpList_append_lies _ rfl _ _ 24 rfl w.heap.size 5 i0' (.int .u8 0) 1 1 Tryz.underlying24 HI.out HQ0.out HQ1.out HQ2.out rfl (by decide) v k ((zs.take k).map (Value.int .u8)) rfl HOA.out ⟨wr.heap.size, 0, none⟩ 1 1 [Value.int .u8 z] rfl rfl (cells_newB (w := wr) z) (byte_ones2 z) (by omega) (by unfold maxLen; omega) (by omega) (by simp; omega) _ rfl ?_; intro gg cap w6 hown6 hgrow6 hat6 hlt6; have HO6 := Lib.hid hown6; have HG6 : Hid (Below w.heap.size w w6) := Lib.hid (below_grown' (HB.out.alloc (by omega) _) HOA.out (by simp; omega) hgrow6); clear hown6 hgrow6 hat6)
      go_roundw
      case rel => exact ⟨k + 1, _, rfl, by omega, by go_num, by rw [take_next _ _ _ HX.out, List.map_append]; exact HO6.out, HG6.out⟩
      case measure => simp [intOf]; omega
    · have hkn : k = n := by omega
      have HKN := Lib.hid hkn
      clear hkn
      go_wp2_with fail
      go_ret
      refine ⟨_, rfl, ?_, HB.out⟩
      have h := HO.out
      rwa [HKN.out, List.take_of_length_le (by rw [HN.out]; exact Nat.le_refl _)] at h
end Go.Proofs.YtoljoigbepdeiaaGreatDoor

/- digest.Hex, kalendsref03.Hex. -/
namespace Go.Proofs.YtoljoigbepdeiaaGreatDoor
open Go Go.RowKit

theorem cells_new2 {w : World} {t : TypeId} (a b : Int) : ∀ j u, [Value.int .u8 a, Value.int .u8 b][j]? = some u → (w.alloc (.cells #[.int .u8 a, .int .u8 b] t)).cell? ((⟨w.heap.size, 0, none⟩ : Addr).add j) = some u := by
  intro j u hu
  rw [addr_add, (Row.new w #[.int .u8 a, .int .u8 b] t).2 j]
  simpa using hu
theorem byte_ones3 (a b : Int) : ∀ u ∈ [Value.int .u8 a, Value.int .u8 b], u.oneCell' = true := fun u hu => by
  simp at hu
  rcases hu with rfl | rfl <;> rfl
def hexD : Array UInt8 := #[48, 49, 50, 51, 52, 53, 54, 55, 56, 57, 97, 98, 99, 100, 101, 102]
def hexC (x : UInt8) : List UInt8 := [hexD[x.toNat / 16]?.getD 0, hexD[x.toNat % 16]?.getD 0]
def hexB (bs : List UInt8) : List UInt8 := bs.flatMap hexC
theorem idx_dig (bs : List UInt8) (hb : bs.length = 32) (k : Nat) (hk : k < 32) (w : World) : (Instr.index 23 (.agg (cellsB bs)) (.int .i64 (k : Int))).run Tryz.prog w = .ok (Extern.Stop.cell (bs[k]?.getD 0)) w := by
  have h1 : (0 : Int) ≤ (k : Int) := by omega
  have h3 := cellsB_get bs k (by omega)
  simp [Instr.index, run_underlying Tryz.underlying23, asIntOf, h1, go_sem]
  simp [go_sem, h3]
  intro h
  omega
def hexS : ByteArray := ⟨#[48, 49, 50, 51, 52, 53, 54, 55, 56, 57, 97, 98, 99, 100, 101, 102]⟩
theorem hexS_at : ∀ i, i < 16 → hexS[i]? = some (hexD[i]?.getD 0) := by decide
theorem idx_hex (i : Nat) (hi : i < 16) (w : World) : (Instr.index 9 (.string hexS) (.int .u8 (i : Int))).run Tryz.prog w = .ok (Extern.Stop.cell (hexD[i]?.getD 0)) w := by
  have h := hexS_at i hi
  simp [Instr.index, run_underlying Tryz.underlying9, asIntOf, h, Extern.Stop.cell]
def hexV (i : Int) : Int := ((hexD[i.toNat]?.getD 0).toNat : Int)
theorem idx_hexI (i : Int) (h : 0 ≤ i ∧ i < 16) (w : World) : (Instr.index 9 (.string ⟨#[48, 49, 50, 51, 52, 53, 54, 55, 56, 57, 97, 98, 99, 100, 101, 102]⟩) (.int .u8 i)).run Tryz.prog w = .ok (.int .u8 (hexV i)) w := by
  obtain ⟨n, rfl⟩ : ∃ n : Nat, i = n := ⟨i.toNat, by omega⟩
  exact idx_hex n (by omega) w
set_option maxRecDepth 100000 in
theorem and15 : ∀ x : Fin 256, bits BinOp.and IntKind.u8 ((x.val : Nat) : Int) 15 = ((x.val : Nat) : Int) % 16 := by decide
theorem and15' (x : UInt8) : bits BinOp.and IntKind.u8 (x.toNat : Int) 15 = (x.toNat : Int) % 16 := and15 ⟨x.toNat, x.toNat_lt⟩
theorem hexC_eq (x : UInt8) : [Value.int .u8 (hexV ((x.toNat : Int) / 16)), Value.int .u8 (hexV ((x.toNat : Int) % 16))] = (hexC x).map Extern.Stop.cell := by
  have e1 : ((x.toNat : Int) / 16).toNat = x.toNat / 16 := by omega
  have e2 : ((x.toNat : Int) % 16).toNat = x.toNat % 16 := by omega
  unfold hexV hexC
  rw [e1, e2]
  rfl
theorem hexB_len (bs : List UInt8) : (hexB bs).length = 2 * bs.length := by
  induction bs with
  | nil => rfl
  | cons x bs ih => unfold hexB at *; rw [List.flatMap_cons, List.length_append, ih, List.length_cons]; simp [hexC]; omega
theorem hexB_snoc (bs : List UInt8) (x : UInt8) : hexB (bs ++ [x]) = hexB bs ++ hexC x := by simp [hexB]
attribute [local go_sem ↓] idx_hexI
def HexR (w : World) (bs : List UInt8) (v i : Value) (wr : World) : Prop :=
  ∃ (k : Nat) (v' : Value), v' = v ∧ k ≤ 32 ∧ i = I k ∧ wr.ownsRow (w.heap.size + 1) 5 1 v' (2 * k) ((hexB (bs.take k)).map Extern.Stop.cell) ∧ Below w.heap.size w wr
set_option maxRecDepth 10000 in
set_option maxHeartbeats 1000000 in
theorem hexD_any (w : World) (bs : List UInt8) (h32 : bs.length = 32) :
    Calls Tryz.prog 16 #[.agg (cellsB bs)] w (Gives (.string ⟨(hexB bs).toArray⟩) w) := by
  have HI := Lib.hid (dig_info bs h32)
  have HR := Lib.hid (Row.new w (cellsB bs) 23)
  have H32 := Lib.hid h32
  have HB0 := Lib.hid (below_var w (.cells (cellsB bs) 23))
  clear h32
  go_enter Tryz.func16, Tryz.ntmps16
  go_wp2_with (with_reducible refine g_load 23 ?_; refine wpList_load_Row rfl _ _ rfl w.heap.size rfl (cellsB bs) HR.out _ Tryz.underlying23 rfl HI.out ?_)
  go_loopw [3, 7] (fun v i wr => HexR w bs v i wr) (fun _ i _ => 32 - (intOf i).toNat)
  case atStart => exact ⟨0, _, rfl, Nat.zero_le _, rfl, World.ownsRow_nil _ _ _ _, HB0.out⟩
  case round =>
    obtain ⟨k, v, rfl, hk, rfl, hown, hbw⟩ := hrel
    have HO := Lib.hid hown
    have HB := Lib.hid hbw
    clear hown hbw
    by_cases hlt : k < 32
    · have hkz : k < bs.length := by rw [H32.out]; exact hlt
      obtain ⟨x, hx⟩ : ∃ x, bs[k]? = some x := ⟨_, List.getElem?_eq_getElem hkz⟩
      have HX := Lib.hid hx
      have hget : (cellsB bs)[k]? = some (.int .u8 x.toNat) := by rw [cellsB_get bs k hkz, hx]; rfl
      have hgs : (cellsB bs).size = 32 := by rw [cellsB_size, H32.out]
      have hx2 : x.toNat < 256 := x.toNat_lt
      have i0 : (0 : Int) ≤ (k : Int) := by omega
      have i1 : (k : Int) < 32 := by omega
      have hix : ∀ W, (Instr.index 23 (.agg (cellsB bs)) (I k)).run Tryz.prog W = .ok (.int .u8 (x.toNat : Int)) W := fun W => by rw [idx_dig bs H32.out k hlt W, hx]; rfl
      have ha := and15' x
      have h16 : 0 ≤ (x.toNat : Int) / 16 ∧ (x.toNat : Int) / 16 < 16 := by omega
      have h17 : 0 ≤ (x.toNat : Int) % 16 ∧ (x.toNat : Int) % 16 < 16 := by omega
      have hsz := HB.out.size
      have HOA : Hid ((wr.drew.alloc (.cells #[.int .u8 (hexV ((x.toNat : Int) / 16)), .int .u8 (hexV ((x.toNat : Int) % 16))] 5)).ownsRow (w.heap.size + 1) 5 1 v (2 * k) ((hexB (bs.take k)).map Extern.Stop.cell)) := Lib.hid (World.ownsRow.alloc HO.out _)
      obtain ⟨i0', hi, hq0, hq1, hq2⟩ := info_parts info_byte
      clear hkz hx hget hgs
      go_wp2_with fail
      go_region_law (refine step_append_lies _ (by rfl) _ _ _ (by rfl) (w.heap.size + 1) 5 i0' (.int .u8 0) 1 1 Tryz.underlying24 hi hq0 hq1 hq2 rfl (by omega) v (2 * k) ((hexB (bs.take k)).map Extern.Stop.cell) (by rfl) HOA.out ⟨wr.heap.size, 0, none⟩ 2 2 [.int .u8 (hexV ((x.toNat : Int) / 16)), .int .u8 (hexV ((x.toNat : Int) % 16))] (by rfl) rfl (cells_new2 (w := wr.drew) _ _) (byte_ones3 _ _) (by omega) (by unfold maxLen; omega) (by omega) (by first | (simp; done) | (simp; omega)) _ rfl ?_; intro gg cap w6 hown6 hgrow6 hat6 hlt6; have HO6 := Lib.hid hown6; have HG6 : Hid (Below w.heap.size w w6) := Lib.hid (below_grown' ((HB.out.drew).alloc (by simpa using hsz) _) (ownsRow_base' HOA.out (Nat.le_succ _)) (by simp; omega) hgrow6); clear hown6 hgrow6 hat6)
      all_goals
        go_wp2_with fail
        go_roundw
        case rel =>
          refine ⟨k + 1, _, rfl, by omega, by go_num, ?_, HG6.out⟩
          have h := HO6.out
          rw [hexC_eq, ← List.map_append, ← hexB_snoc, ← take_next _ _ _ HX.out] at h
          exact h
        case measure => simp [intOf]; omega
    · have hkn : k = 32 := by omega
      subst hkn
      have hlen : (hexB bs).length = 64 := by rw [hexB_len, H32.out]
      have h := HO.out
      rw [List.take_of_length_le (by rw [H32.out]; exact Nat.le_refl _)] at h
      have HO2 := Lib.hid h
      clear h
      obtain ⟨g, c, rfl, _⟩ := own_form HO2.out (by omega)
      have hcv : ∀ W, W = wr → (convert 24 9 (.slice (some ⟨g, 0, none⟩) (2 * 32) c)).run Tryz.prog W = .ok (.string ⟨(hexB bs).toArray⟩) W := fun W e => by
        subst e
        obtain ⟨A', c', hv, _, _, _, hy⟩ := bytesAt_own (bs := hexB bs) (by rw [hlen]; exact HO2.out)
        injection hv with e1 e2 e3
        subst e1
        have h := conv_bytes _ (hexB bs) c W _ hy
        rw [hlen] at h
        exact h
      have hcv2 := hcv wr rfl
      clear hcv
      go_wp2_with fail
      go_ret
      exact ⟨rfl, HB.out⟩
def HexR2 (w : World) (bs : List UInt8) (v i : Value) (wr : World) : Prop :=
  ∃ (k : Nat) (v' : Value), v' = v ∧ k ≤ 32 ∧ i = I k ∧ wr.ownsRow (w.heap.size + 1) 5 1 v' (2 * k) ((hexB (bs.take k)).map Extern.Stop.cell) ∧ Below (w.heap.size + 1) (w.alloc (.cells (cellsB bs) 23)) wr
set_option maxRecDepth 10000 in
set_option maxHeartbeats 1000000 in
theorem hexR_any (w : World) (bs : List UInt8) (h32 : bs.length = 32) :
    Calls Tryz.prog 15 #[.agg (cellsB bs)] w (Gives (.string ⟨(hexB bs).toArray⟩) w) := by
  have HI := Lib.hid (dig_info bs h32)
  have HR := Lib.hid (Row.new w (cellsB bs) 23)
  have H32 := Lib.hid h32
  have HB0 := Lib.hid (below_var w (.cells (cellsB bs) 23))
  clear h32
  go_enter Tryz.func15, Tryz.ntmps15
  go_wp2_with fail
  go_loopw [4, 5] (fun v i wr => HexR2 w bs v i wr) (fun _ i _ => 32 - (intOf i).toNat)
  case atStart => exact ⟨0, _, rfl, Nat.zero_le _, rfl, by have h := own_emptyE (w.alloc (.cells (cellsB bs) 23)) 5 1; rw [World.size_alloc] at h; exact h, by have h := below_var (w.alloc (.cells (cellsB bs) 23)) (.cells #[] 5); rw [World.size_alloc] at h; exact h⟩
  case round =>
    obtain ⟨k, v, rfl, hk, rfl, hown, hbw⟩ := hrel
    have HO := Lib.hid hown
    have HB := Lib.hid hbw
    clear hown hbw
    by_cases hlt : k < 32
    · have hkz : k < bs.length := by rw [H32.out]; exact hlt
      obtain ⟨x, hx⟩ : ∃ x, bs[k]? = some x := ⟨_, List.getElem?_eq_getElem hkz⟩
      have HX := Lib.hid hx
      have hget : (cellsB bs)[k]? = some (.int .u8 x.toNat) := by rw [cellsB_get bs k hkz, hx]; rfl
      have hgs : (cellsB bs).size = 32 := by rw [cellsB_size, H32.out]
      have hx2 : x.toNat < 256 := x.toNat_lt
      have i0 : (0 : Int) ≤ (k : Int) := by omega
      have i1 : (k : Int) < 32 := by omega
      have hcell : wr.cell? ⟨w.heap.size, k, none⟩ = some (.int .u8 (x.toNat : Int)) := (HB.out.cell (p := ⟨w.heap.size, k, none⟩) (Nat.lt_succ_self _)).trans ((HR.out.2 k).trans hget)
      have hq8 : IntKind.u8.wrap ((x.toNat : Int) / 16) = (x.toNat : Int) / 16 := by simp [IntKind.wrap, IntKind.bits, IntKind.signed]; omega
      have hr8 : (x.toNat : Int).tmod 16 = (x.toNat : Int) % 16 := Int.tmod_eq_emod_of_nonneg (by omega)
      have h16 : 0 ≤ (x.toNat : Int) / 16 ∧ (x.toNat : Int) / 16 < 16 := by omega
      have h17 : 0 ≤ (x.toNat : Int) % 16 ∧ (x.toNat : Int) % 16 < 16 := by omega
      have hsz := HB.out.size
      rw [World.size_alloc] at hsz
      have HOA : Hid ((wr.drew.alloc (.cells #[.int .u8 (hexV ((x.toNat : Int) / 16)), .int .u8 (hexV ((x.toNat : Int) % 16))] 5)).ownsRow (w.heap.size + 1) 5 1 v (2 * k) ((hexB (bs.take k)).map Extern.Stop.cell)) := Lib.hid (World.ownsRow.alloc HO.out _)
      obtain ⟨i0', hi, hq0, hq1, hq2⟩ := info_parts info_byte
      clear hkz hx hget hgs
      go_wp2_with fail
      go_region_law (refine step_append_lies _ (by rfl) _ _ _ (by rfl) (w.heap.size + 1) 5 i0' (.int .u8 0) 1 1 Tryz.underlying24 hi hq0 hq1 hq2 rfl (by omega) v (2 * k) ((hexB (bs.take k)).map Extern.Stop.cell) (by rfl) HOA.out ⟨wr.heap.size, 0, none⟩ 2 2 [.int .u8 (hexV ((x.toNat : Int) / 16)), .int .u8 (hexV ((x.toNat : Int) % 16))] (by rfl) rfl (cells_new2 (w := wr.drew) _ _) (byte_ones3 _ _) (by omega) (by unfold maxLen; omega) (by omega) (by first | (simp; done) | (simp; omega)) _ rfl ?_; intro gg cap w6 hown6 hgrow6 hat6 hlt6; have HO6 := Lib.hid hown6; have HG6 : Hid (Below (w.heap.size + 1) (w.alloc (.cells (cellsB bs) 23)) w6) := Lib.hid (below_grown' ((HB.out.drew).alloc (by simpa using hsz) _) HOA.out (by simp; omega) hgrow6); clear hown6 hgrow6 hat6)
      all_goals
        go_wp2_with fail
        go_roundw
        case rel =>
          refine ⟨k + 1, _, rfl, by omega, by go_num, ?_, HG6.out⟩
          have h := HO6.out
          rw [hexC_eq, ← List.map_append, ← hexB_snoc, ← take_next _ _ _ HX.out] at h
          exact h
        case measure => simp [intOf]; omega
    · have hkn : k = 32 := by omega
      subst hkn
      have hlen : (hexB bs).length = 64 := by rw [hexB_len, H32.out]
      have h := HO.out
      rw [List.take_of_length_le (by rw [H32.out]; exact Nat.le_refl _)] at h
      have HO2 := Lib.hid h
      clear h
      obtain ⟨g, c, rfl, _⟩ := own_form HO2.out (by omega)
      have hcv : ∀ W, W = wr → (convert 24 9 (.slice (some ⟨g, 0, none⟩) (2 * 32) c)).run Tryz.prog W = .ok (.string ⟨(hexB bs).toArray⟩) W := fun W e => by
        subst e
        obtain ⟨A', c', hv, _, _, _, hy⟩ := bytesAt_own (bs := hexB bs) (by rw [hlen]; exact HO2.out)
        injection hv with e1 e2 e3
        subst e1
        have h := conv_bytes _ (hexB bs) c W _ hy
        rw [hlen] at h
        exact h
      have hcv2 := hcv wr rfl
      clear hcv
      go_wp2_with fail
      go_ret
      exact ⟨rfl, HB0.out.trans (HB.out.mono (Nat.le_succ _))⟩
end Go.Proofs.YtoljoigbepdeiaaGreatDoor

/- letter.Read of known bytes of a letter without series: what holds between its steps. -/
namespace Go.Proofs.YtoljoigbepdeiaaGreatDoor
open Go Go.RowKit

/-- A letter without move, series and window that can be read back from ltBytes L []. -/
structure Rd7 (L : Lt) (sb : List UInt8) : Prop where
  kind : 0 ≤ L.kind ∧ L.kind < 256
  src : 0 ≤ L.src ∧ L.src < 256
  dst : 0 ≤ L.dst ∧ L.dst < 256
  num : ∀ k, k < 17 → fits (numF L k)
  ref : L.ref.length = 32
  cells : ∀ z ∈ L.cells, 0 ≤ z ∧ z ≤ 255
  clen : L.cells.length ≤ 65536
  zero : ∀ k : Nat, k < 17 → usesB L.kind k = false → FldZ L k
  no : usesB L.kind 9 = false ∧ usesB L.kind 10 = false ∧ usesB L.kind 14 = false
/-- The cells in memory of the reader's own; no series. -/
structure LcMem (lo : Nat) (w : World) (l : Lt) (s : Sl) : Prop where
  cells : w.ownsRow lo 3 1 (.slice s.C l.cells.length s.e) l.cells.length (l.cells.map I)
  nils : s.A = none ∧ s.B = none ∧ s.c = 0 ∧ s.d = 0
theorem LcMem.of_blocks {lo : Nat} {w w' : World} {l : Lt} {s : Sl} (h : LcMem lo w l s) (hb : ∀ k, lo ≤ k → k < w.heap.size → w'.heap[k]? = w.heap[k]?) : LcMem lo w' l s :=
  ⟨ownsRow_blocks h.cells hb, h.nils⟩
theorem LcMem.lower {lo lo' : Nat} {w : World} {l : Lt} {s : Sl} (h : LcMem lo w l s) (hl : lo' ≤ lo) : LcMem lo' w l s := ⟨ownsRow_base' h.cells hl, h.nils⟩
theorem LcMem.other {lo : Nat} {w : World} {l l' : Lt} {s : Sl} (h : LcMem lo w l s) (h2 : l'.cells = l.cells) : LcMem lo w l' s := ⟨by rw [h2]; exact h.cells, h.nils⟩
/-- The fields below k are read; the reader's methods lie at block fa. -/
structure Ry7 (w : World) (L : Lt) (sb : List UInt8) (fa k : Nat) (s : Sl) (wr : World) : Prop where
  inn : LIn w wr wr (lowTo L k) s (fldsFrom L sb k)
  mem : LcMem (w.heap.size + 5) wr (lowTo L k) s
  row : Row wr fa (rFns (w.heap.size + 3))
  far : w.heap.size + 5 ≤ fa
  nil : k ≤ 15 → s.C = none ∧ s.e = 0
section
variable {w wr w2 : World} {L : Lt} {sb : List UInt8} {fa k : Nat} {s s' : Sl}
theorem Row.of_blocks7 {b : Nat} {cs : Array Value} (h : Row wr b cs) (hs : wr.heap.size ≤ w2.heap.size) (hb : w2.heap[b]? = wr.heap[b]?) : Row w2 b cs :=
  ⟨Nat.lt_of_lt_of_le h.1 hs, fun i => (World.cell?_of_block (a := ⟨b, i, none⟩) hb).trans (h.2 i)⟩
theorem Ry7.turn (h : Ry7 w L sb fa k s wr) (h2 : LIn w wr w2 (lowTo L (k + 1)) s (fldsFrom L sb (k + 1))) (hm : LcMem (w.heap.size + 5) w2 (lowTo L (k + 1)) s) (hk : k + 1 ≤ 15 → s.C = none ∧ s.e = 0) : Ry7 w L sb fa (k + 1) s w2 :=
  ⟨h2.rebase, hm, h.row.of_blocks7 h2.msz (h2.mem _ h.far h.row.1), h.far, hk⟩
theorem Ry7.grow (h : Ry7 w L sb fa k s wr) (hb : Below wr.heap.size wr w2) : Ry7 w L sb fa k s w2 :=
  ⟨(h.inn.grow hb).rebase, h.mem.of_blocks fun j _ h2 => hb.block j h2, h.row.keep hb, h.far, h.nil⟩
theorem lowTo_cel (L : Lt) (k : Nat) (h : k ≠ 15) : (lowTo L (k + 1)).cells = (lowTo L k).cells := by
  unfold lowTo
  dsimp only
  by_cases h1 : 15 < k
  · rw [if_pos h1, if_pos (by omega)]
  · rw [if_neg h1, if_neg (by omega)]
/-- A field that is no slice has been read. -/
theorem Ry7.next (h : Ry7 w L sb fa k s wr) (_ : k ≠ 10) (h2 : k ≠ 15) (h3 : LIn w wr w2 (lowTo L (k + 1)) s (fldsFrom L sb (k + 1))) : Ry7 w L sb fa (k + 1) s w2 :=
  h.turn h3 ((h.mem.of_blocks h3.mem).other (lowTo_cel L k h2)) fun hk => h.nil (by omega)
theorem Ry7.skip (hr : Rd7 L sb) (h : Ry7 w L sb fa k s wr) (hk : k < 17) (hu : usesB L.kind k = false) : Ry7 w L sb fa (k + 1) s wr := by
  have e := lowTo_skip L k hk (hr.zero k hk hu)
  have e2 := fldsFrom_skip L sb k hk hu
  refine ⟨?_, ?_, h.row, h.far, fun hk => h.nil (by omega)⟩
  · rw [← e, ← e2]; exact h.inn
  · rw [← e]; exact h.mem
theorem Ry7.num (hr : Rd7 L sb) (h : Ry7 w L sb fa k s wr) (hk : k < 17) (hu : usesB L.kind k = true) {o : Nat} (ho : numOff k = some o) :
    Calls Tryz.prog 33 #[pt (w.heap.size + 3), I 8] wr fun e w2 => e = .returned (I (numF L k)) ∧ (∃ u, w2.cell? ⟨w.heap.size + 1, o, none⟩ = some u) ∧ w2.frozen? ⟨w.heap.size + 1, o, none⟩ = false ∧ Ry7 w L sb fa (k + 1) s (w2.setCell ⟨w.heap.size + 1, o, none⟩ (I (numF L k))) := by
  have hi := h.inn
  rw [fldsFrom_num L sb k hk hu (by rw [ho]; rfl)] at hi
  refine (hi.number8 (hr.num k hk)).mono fun e w2 ⟨h1, h2⟩ => ⟨h1, ?_, h2.froz o, ?_⟩
  · exact ⟨_, (h2.row.2 o).trans (lt_num (lowTo L k) _ _ _ k o hk ho)⟩
  · refine h.next ?_ ?_ (h2.store ?_)
    · rintro rfl; cases ho
    · rintro rfl; cases ho
    · rw [← lowTo_num L k hk (by rw [ho]; rfl)]
      exact ltVal_setNum _ _ _ k o hk ho
theorem Ry7.f16 (hr : Rd7 L sb) (h : Ry7 w L sb fa 16 s wr) (hu : usesB L.kind (16 : Nat) = true) :
    Calls Tryz.prog 38 #[pt (w.heap.size + 3)] wr fun e w2 => e = .returned (.tuple #[]) ∧ Ry7 w L sb fa 17 s w2 := by
  have hi := h.inn
  rw [fldsFrom_16 L sb hu] at hi
  exact (rref_yes w wr wr (lowTo L 16) s _ L.ref hr.ref (lowTo_ref L 16 hr.ref) hi).mono fun e w2 ⟨h1, h2⟩ => ⟨h1, h.next (by decide) (by decide) (by rw [lowTo_16] at h2; exact h2)⟩
theorem Ry7.f15 (hr : Rd7 L sb) (h : Ry7 w L sb fa 15 s wr) (hu : usesB L.kind (15 : Nat) = true) :
    Calls Tryz.prog 37 #[pt (w.heap.size + 3)] wr fun e w2 => e = .returned (.tuple #[]) ∧ ∃ s', Ry7 w L sb fa 16 s' w2 := by
  have hi := h.inn
  rw [fldsFrom_15 L sb hu] at hi
  obtain ⟨n1, n2⟩ := h.nil (Nat.le_refl _)
  have hc0 : (lowTo L 15).cells = [] := by simp [lowTo]
  refine (rcells_yes w wr wr (lowTo L 15) s _ L.cells _ rfl hr.clen hr.cells hi.sz hc0 n1 n2 hi).mono fun e w2 ⟨h1, C, e', h2, h3⟩ => ⟨h1, { s with C := C, e := e' }, ?_⟩
  rw [lowTo_15] at h2
  have hs := hi.sz
  have hm := h.mem.of_blocks h2.mem
  have hcc : (lowTo L 16).cells = L.cells := by simp [lowTo]
  refine ⟨h2.rebase, ⟨?_, hm.nils⟩, h.row.of_blocks7 h2.msz (h2.mem _ h.far h.row.1), h.far, fun hk => absurd hk (by decide)⟩
  rw [hcc]; exact ownsRow_base' h3 (by omega)
end
end Go.Proofs.YtoljoigbepdeiaaGreatDoor

/- letter.Read of the bytes of a letter without series gives the letter. -/
namespace Go.Proofs.YtoljoigbepdeiaaGreatDoor
open Go Go.RowKit

theorem LIn.start {w w1 : World} {o : Obj} {A : Option Addr} {bs : List UInt8} {c : Nat} (ho : o = .cells (ltVal zLt zSl) 57 (0, 0)) (hrb : RBlk w1 (w.heap.size + 2) (w.heap.size + 1) A bs.length c false) (hsz : w.heap.size + 2 + 3 ≤ w1.heap.size)
    (hb : Below (w.heap.size + 2) ((w.alloc o).alloc o) w1) (hl : bs.length ≤ c) (hc : c ≤ 9223372036854775807) (hby : BytesAt w w.heap.size A bs) (hn : A = none → c = 0) : LIn w w1 w1 zLt zSl bs := by
  subst ho
  have h2 : Below w.heap.size w w1 := (((Below.refl _ w).alloc (Nat.le_refl _) _).alloc (by simp) _).trans (hb.mono (by omega))
  exact ⟨(hb.block _ (by omega)).trans (heap_alloc2_new w _ _), ⟨A, c, hrb, hl, hc, hby.keep h2, hn⟩, (hb.block _ (by omega)).trans (heap_alloc2_old w _ _), h2, by omega, Nat.le_refl _, fun _ _ _ => rfl⟩
theorem newReader_rdL (w : World) (A : Option Addr) (bs : List UInt8) (c : Nat) (hl : bs.length ≤ c) (hc : c ≤ 9223372036854775807) (hby : BytesAt w w.heap.size A bs) (hn : A = none → c = 0) :
    Calls Tryz.prog 32 #[pt (w.heap.size + 1), .slice A bs.length c] ((w.alloc (.cells (ltVal zLt zSl) 57)).alloc (.cells (ltVal zLt zSl) 57)) fun e w1 =>
      e = .returned (.tuple #[pt (w.heap.size + 3), .func (.func 60) #[] #[pt (w.heap.size + 4), pt (w.heap.size + 2)]]) ∧ LIn w w1 w1 zLt zSl bs := by
  refine (newReader_any (w.heap.size + 1) A bs.length c _).mono fun e w1 ⟨h1, h2, h3, h4⟩ => ?_
  have hs : ((w.alloc (.cells (ltVal zLt zSl) 57)).alloc (.cells (ltVal zLt zSl) 57)).heap.size = w.heap.size + 2 := by rw [World.size_alloc, World.size_alloc]
  rw [hs] at h1 h2 h3 h4
  exact ⟨h1, LIn.start rfl h2 h3 h4 hl hc hby hn⟩
theorem LIn.done {w wm w1 : World} {l : Lt} {s : Sl} (h : LIn w wm w1 l s []) : Calls Tryz.prog 60 #[pt (w.heap.size + 4), pt (w.heap.size + 2)] w1 fun e w' => e = .returned (.bool true) ∧ w1 = w' := by
  obtain ⟨A, c, hr, _⟩ := h.st
  exact done_any w1 (w.heap.size + 2) (w.heap.size + 1) A _ c false hr
def Ry7Rel (w : World) (L : Lt) (sb : List UInt8) (fa : Nat) (i : Value) (wr : World) : Prop :=
  ∃ (k : Nat) (s : Sl), k ≤ 17 ∧ i = .int .i64 k ∧ Ry7 w L sb fa k s wr
def Ry7Post (w : World) (L : Lt) (e : Ending) (w' : World) : Prop := ∃ s, e = .returned (.tuple #[.agg (ltVal L s), I 0]) ∧ LcMem w.heap.size w' L s ∧ Below w.heap.size w w'
theorem Ry7.start {w w1 : World} {L : Lt} {sb : List UInt8} {fns : Array Value} {t : TypeId} (hf : fns = rFns (w.heap.size + 3)) (h : LIn w w1 w1 (lowTo L 0) zSl (fldsFrom L sb 0)) : Ry7 w L sb w1.heap.size 0 zSl (w1.alloc (.cells fns t)) := by
  subst hf
  have hs := h.sz
  exact ⟨(h.grow (below_var w1 _)).rebase, ⟨World.ownsRow_nil _ _ _ _, rfl, rfl, rfl, rfl⟩, Row.new w1 _ _, by omega, fun _ => ⟨rfl, rfl⟩⟩
theorem zero_low (L : Lt) : { zLt with kind := L.kind, src := L.src, dst := L.dst } = lowTo L 0 := by simp [lowTo, zLt]
attribute [local go_sem] ltVal_get lt_get0 lt_get1 lt_get2
set_option maxRecDepth 10000 in
set_option maxHeartbeats 8000000 in
theorem read_yes7 (w : World) (A : Option Addr) (bs : List UInt8) (c : Nat) (L : Lt) (sb : List UInt8) (hl : bs.length ≤ c) (hc : c ≤ 9223372036854775807) (hby : BytesAt w w.heap.size A bs) (hn : A = none → c = 0) (hbs : bs = ltBytes L sb) (hr : Rd7 L sb)
    (hB : ∀ w' s, LcMem (w.heap.size + 5) w' L s → Calls Tryz.prog 8 #[.agg (ltVal L s)] w' (BytesPost w' 0 bs)) :
    Calls Tryz.prog 9 #[.slice A bs.length c] w (Ry7Post w L) := by
  have HN := Lib.hid (newReader_rdL w A bs c hl hc hby hn)
  have HY := Lib.hid hby
  have HR := Lib.hid hr
  have HBC := Lib.hid hB
  have HBS : Hid (bs = le L.kind 1 ++ (le L.src 1 ++ (le L.dst 1 ++ fldsFrom L sb 0))) := Lib.hid (hbs.trans (ltBytes_read L sb))
  clear hby hn hB hr hbs
  go_enter Tryz.func9, Tryz.ntmps9
  go_wp2_with (first
    | (refine wpList_alloc_as rfl _ rfl (ltVal zLt zSl) lt_zero ?_)
    | (go_at_call 32; refine HN.out.mono ?_; rintro e w1 ⟨rfl, hi1⟩; rw [HBS.out] at hi1; have HI1 := Lib.hid hi1; clear hi1))
  refine (HI1.out.number1 HR.out.kind.1 HR.out.kind.2).mono ?_
  rintro e w2 ⟨rfl, hi2⟩
  have hr2 := hi2.row.2
  have hf2 := hi2.froz
  obtain ⟨x, hx⟩ : ∃ x, L.kind = x := ⟨_, rfl⟩
  have HI2 : Hid (LIn w w1 (w2.setCell ⟨w.heap.size + 1, 0, none⟩ (I x)) { zLt with kind := x } zSl (le L.src 1 ++ (le L.dst 1 ++ fldsFrom L sb 0))) := Lib.hid (hi2.store (set_kind zLt zSl x))
  have HX := Lib.hid hx
  rw [hx]
  clear hi2 HI1 hx
  go_wp2_with fail
  clear hr2 hf2
  refine (HI2.out.number1 HR.out.src.1 HR.out.src.2).mono ?_
  rintro e w3 ⟨rfl, hi3⟩
  have hr3 := hi3.row.2
  have hf3 := hi3.froz
  obtain ⟨y, hy⟩ : ∃ y, L.src = y := ⟨_, rfl⟩
  have HI3 : Hid (LIn w w1 (w3.setCell ⟨w.heap.size + 1, 1, none⟩ (I y)) { zLt with kind := x, src := y } zSl (le L.dst 1 ++ fldsFrom L sb 0)) := Lib.hid (hi3.store (set_src { zLt with kind := x } zSl y))
  have HYY := Lib.hid hy
  rw [hy]
  clear hi3 HI2 hy
  go_wp2_with fail
  clear hr3 hf3
  refine (HI3.out.number1 HR.out.dst.1 HR.out.dst.2).mono ?_
  rintro e w4 ⟨rfl, hi4⟩
  have hr4 := hi4.row.2
  have hf4 := hi4.froz
  obtain ⟨z, hz⟩ : ∃ z, L.dst = z := ⟨_, rfl⟩
  have hi4s : LIn w w1 (w4.setCell ⟨w.heap.size + 1, 2, none⟩ (I z)) { zLt with kind := x, src := y, dst := z } zSl (fldsFrom L sb 0) := hi4.store (set_dst { zLt with kind := x, src := y } zSl z)
  rw [← HX.out, ← HYY.out, ← hz, zero_low] at hi4s
  rw [hz]
  have HI4 : Hid (LIn w (w4.setCell ⟨w.heap.size + 1, 2, none⟩ (I z)) (w4.setCell ⟨w.heap.size + 1, 2, none⟩ (I z)) (lowTo L 0) zSl (fldsFrom L sb 0)) := Lib.hid (by rw [hz] at hi4s; exact hi4s.rebase)
  have hs4 : (w4.setCell ⟨w.heap.size + 1, 2, none⟩ (I z)).heap.size = w4.heap.size := by simp [World.setCell]
  have HG4 : Hid (Ry7 w L sb w4.heap.size 0 zSl ((w4.setCell ⟨w.heap.size + 1, 2, none⟩ (I z)).alloc (.cells (rFns (w.heap.size + 3)) 86))) := Lib.hid (by rw [← hs4]; exact Ry7.start rfl HI4.out)
  clear hi4 hi4s HI3 HI4 hz hs4 HX HYY
  go_wp2_with (first
    | (refine wpList_build_as rfl _ rfl (rFns (w.heap.size + 3)) (by kernel_rfl) ?_)
    | (refine wpList_var_row rfl rfl _ _ _ rfl rfl rfl rfl _ (rFns (w.heap.size + 3)) (rFns_info _) rfl rfl rfl (rFns_one _) ?_)
    | (go_at_call 30; refine (numbers_any _ _).mono ?_; rintro e w5 ⟨rfl, hb5⟩; have HY5 := Lib.hid (HG4.out.grow hb5); clear hb5))
  clear hr4 hf4 HG4
  obtain ⟨fa, hfa⟩ : ∃ x, w4.heap.size = x := ⟨_, rfl⟩
  rw [hfa] at HY5 ⊢
  clear hfa
  go_loopw [38] (fun i wr => Ry7Rel w L sb fa i wr) (fun i _ => 17 - (intOf i).toNat)
  case atStart => exact ⟨0, zSl, by omega, rfl, HY5.out⟩
  case round =>
    obtain ⟨k, s, hk, rfl, hi⟩ := hrel
    have HI := Lib.hid hi
    clear hi HY5
    by_cases hlt : k < 17
    · have hk0 : wr.cell? ⟨w.heap.size + 1, 0, none⟩ = some (I L.kind) := HI.out.inn.row.2 0
      have hix := fun W => index_nums (w.heap.size + 1) k hlt W
      cases hu : usesB L.kind k
      · have HU := Lib.hid hu
        clear hu
        obtain ⟨q, hq⟩ : ∃ q, ptrAt (w.heap.size + 1) k = q := ⟨_, rfl⟩
        rw [hq] at hix
        clear hq
        go_wp2_with (go_at_call 31; refine (uses_any _ _ _ (by omega) (by omega)).mono ?_; rintro e w6 ⟨rfl, hb6⟩; have HI6 := Lib.hid (HI.out.grow hb6); rw [HU.out]; clear hb6)
        go_roundw
        case rel => exact ⟨k + 1, s, by omega, by go_num, HI6.out.skip HR.out hlt HU.out⟩
        case measure => simp [intOf]; omega
      have HU := Lib.hid hu
      clear hu
      cases ho : numOff k with
      | some o =>
        have hp : ptrAt (w.heap.size + 1) k = .pointer (some ⟨w.heap.size + 1, o, none⟩) := by unfold ptrAt; rw [ho]; rfl
        rw [hp] at hix
        have HO := Lib.hid ho
        clear ho hp
        go_wp2_with (go_at_call 31; refine (uses_any _ _ _ (by omega) (by omega)).mono ?_; rintro e w6 ⟨rfl, hb6⟩; have HI6 := Lib.hid (HI.out.grow hb6); rw [HU.out]; clear hb6)
        refine (HI6.out.num HR.out hlt HU.out HO.out).mono ?_
        rintro e w7 ⟨rfl, ⟨v0, hc7⟩, hf7, hi7⟩
        have HI7 := Lib.hid hi7
        obtain ⟨v, hv⟩ : ∃ v, numF L k = v := ⟨_, rfl⟩
        rw [hv] at HI7 ⊢
        clear hi7 hv hk0
        go_wp2
        go_roundw
        case rel => exact ⟨k + 1, s, by omega, by go_num, HI7.out⟩
        case measure => simp [intOf]; omega
      | none =>
        have hp : ptrAt (w.heap.size + 1) k = .pointer none := by unfold ptrAt; rw [ho]
        rw [hp] at hix
        have hks : k = 9 ∨ k = 10 ∨ k = 14 ∨ k = 15 ∨ k = 16 := none_at k hlt ho
        clear ho hp
        rcases hks with rfl | rfl | rfl | rfl | rfl
        · exact absurd (show usesB L.kind 9 = true from HU.out) (by rw [HR.out.no.1]; decide)
        · exact absurd (show usesB L.kind 10 = true from HU.out) (by rw [HR.out.no.2.1]; decide)
        · exact absurd (show usesB L.kind 14 = true from HU.out) (by rw [HR.out.no.2.2]; decide)
        · -- field 15: cells
          have hix' : ∀ W, (Instr.index 88 (.agg (numPtrs (w.heap.size + 1))) (.int .i64 15)).run Tryz.prog W = .ok (.pointer none) W := hix
          clear hix
          go_wp2_with (first
            | (go_at_call 31; refine (uses_any _ _ _ (by omega) (by omega)).mono ?_; rintro e w6 ⟨rfl, hb6⟩; have HI6 := Lib.hid (HI.out.grow hb6); have hf6 : w6.cell? ⟨fa, 15, none⟩ = some (.func (.func 37) #[pt (w.heap.size + 3)] #[]) := HI6.out.row.2 15; first | rw [HU.out] | rw [show usesB L.kind 15 = true from HU.out]; clear hb6)
            | (go_at_call 37; refine (HI6.out.f15 HR.out HU.out).mono ?_; rintro e w7 ⟨rfl, s7, h7⟩; have HI7 := Lib.hid h7; clear h7))
          go_roundw
          case rel => exact ⟨16, _, by omega, by go_num, HI7.out⟩
          case measure => simp [intOf]
        · -- field 16: ref
          have hix' : ∀ W, (Instr.index 88 (.agg (numPtrs (w.heap.size + 1))) (.int .i64 16)).run Tryz.prog W = .ok (.pointer none) W := hix
          clear hix
          go_wp2_with (first
            | (go_at_call 31; refine (uses_any _ _ _ (by omega) (by omega)).mono ?_; rintro e w6 ⟨rfl, hb6⟩; have HI6 := Lib.hid (HI.out.grow hb6); have hf6 : w6.cell? ⟨fa, 16, none⟩ = some (.func (.func 38) #[pt (w.heap.size + 3)] #[]) := HI6.out.row.2 16; first | rw [HU.out] | rw [show usesB L.kind 16 = true from HU.out]; clear hb6)
            | (go_at_call 38; refine (HI6.out.f16 HR.out HU.out).mono ?_; rintro e w7 ⟨rfl, h7⟩; have HI7 := Lib.hid h7; clear h7))
          go_roundw
          case rel => exact ⟨17, _, by omega, by go_num, HI7.out⟩
          case measure => simp [intOf]
    · have hke : k = 17 := by omega
      subst hke
      clear hlt hk HN
      have HIN : Hid (LIn w wr wr L s []) := Lib.hid (by have h := HI.out.inn; rw [lowTo_17, fldsFrom_end] at h; exact h)
      have HM : Hid (LcMem (w.heap.size + 5) wr L s) := Lib.hid (by have h := HI.out.mem; rw [lowTo_17] at h; exact h)
      have HW := Lib.hid HIN.out.row
      have HSZ := Lib.hid (size62 L s HR.out.ref)
      have HQE : Hid ((bs == bs) = true) := Lib.hid (by simp)
      clear HI
      go_wp2_with (first
        | (go_at_call 60; refine HIN.out.done.mono ?_; rintro e w8 ⟨rfl, rfl⟩)
        | (with_reducible refine g_load 57 ?_; refine wpList_load_Row rfl _ _ rfl (w.heap.size + 1) rfl (ltVal L s) HW.out _ Tryz.underlying57 rfl HSZ.out ?_)
        | (with_reducible refine g_load 57 ?_; refine wpList_load_Row rfl _ _ rfl (w.heap.size + 1) rfl (ltVal L s) HI9.out.row _ Tryz.underlying57 rfl HSZ.out ?_)
        | (go_at_call 8; refine (HBC.out _ _ HM.out).mono ?_; rintro e w9 ⟨h9, hb9⟩; rw [if_pos rfl] at h9; obtain ⟨v, rfl, hv⟩ := h9; obtain ⟨A9, c9, rfl, _, _, _, hby9⟩ := bytesAt_own hv; have HY9 := Lib.hid hby9; have HI9 := Lib.hid (HIN.out.grow hb9); have HB9 := Lib.hid hb9; clear hb9 hv hby9)
        | (go_at_call 39; refine (bytesEqual_any _ A9 A bs bs c9 c _ _ HY9.out (HY.out.keep HI9.out.lo)).mono ?_; rintro e w10 ⟨rfl, rfl⟩; rw [HQE.out])
        | (with_reducible refine g_store 57 ?_; refine wpList_store_row rfl _ _ _ rfl w.heap.size (ltVal L s) rfl rfl 57 (ltVal zLt zSl) HI9.out.res HSZ.out (sz_eq L s HR.out.ref) (ltVal_one _ _) ?_))
      refine bodyPost_ret (v := .tuple #[.agg (ltVal L s), I 0]) (results_row_tmp rfl _ _ w.heap.size _ (ltVal L s) (0, 0) _ rfl (setRow_heap _ _ _ _ _ _ HI9.out.res) Tryz.underlying57 rfl (size62 _ _ HR.out.ref) _ rfl) rfl ?_
      refine ⟨s, rfl, (LcMem.of_blocks HM.out fun j h1 h2 => ?_).lower (by omega), below_setRow HI9.out.lo (Nat.le_refl _) _⟩
      rw [setRow_other _ _ j _ (by omega)]
      exact HB9.out.block j h2
end Go.Proofs.YtoljoigbepdeiaaGreatDoor

/- letter.Valid for letters that do not come to series.Valid: the code. -/
namespace Go.Proofs.YtoljoigbepdeiaaGreatDoor
open Go Go.RowKit

theorem noSeries_lt (l : Lt) (s : Sl) (w : World) (h : LtOK l) :
    Calls Tryz.prog 50 #[.agg #[.slice s.A l.series.rule.length s.c, I l.series.minute, I l.series.length, .string l.series.zone, I l.series.gap, I l.series.fold, .slice s.B l.series.moves.length s.d]] w (Gives (.bool (nzOf l)) w) :=
  noSeries_any l.series s.A s.B _ _ s.c s.d w h.rule h.moves h.zone
theorem headOK_iff {l : Lt} (h : headOK l = true) : (1 ≤ l.kind ∧ l.kind ≤ 18) ∧ srvIn l.src = true ∧ srvIn l.dst = true ∧ (l.src == l.dst) = false := by
  unfold headOK at h
  simp only [Bool.and_eq_true, decide_eq_true_eq] at h
  obtain ⟨⟨⟨h1, h2⟩, h3⟩, h4⟩ := h
  exact ⟨h1, h2, h3, by rw [beq_dec]; exact decide_eq_false h4⟩
attribute [local go_sem] ltVal_get lt_get0 lt_get1 lt_get2 lt_get10 lt_get17 lt_get18 lt_get19 lt_get20 lt_get21 lt_get22 lt_get23 lt_get29

set_option maxRecDepth 10000 in
set_option maxHeartbeats 4000000 in
theorem valid_nos (l : Lt) (s : Sl) (w : World) (hok : LtOK l) (hi : IntsAt w w.heap.size s.C l.cells) (hh : headOK l = true) (hno : bodyOK l = true → l.cells.length ≤ 65536 → noSerB l = true) :
    Calls Tryz.prog 19 #[.agg (ltVal l s)] w (Gives (I (vCode l 0)) w) := by
  obtain ⟨⟨hk1, hk2⟩, h1, h2, he⟩ := headOK_iff hh
  have HC := Lib.hid (show vCode l 0 = if bodyOK l = false then 1 else if 65536 < l.cells.length then 2 else if noSerB l = true then 0 else 0 by unfold vCode; rw [if_neg (by rw [hh]; decide)])
  have H1 := Lib.hid h1
  have H2 := Lib.hid h2
  have HR0 := Lib.hid (Row.new w (ltVal l s) 57)
  have HB0 := Lib.hid (below_var w (.cells (ltVal l s) 57))
  have HSZ : Hid ((Tryz.prog.info? 57).map (·.size) = some (ltVal l s).size) := Lib.hid (by unfold ltVal; rw [lt_size _ _ _ _ hok.ref]; kernel_rfl)
  obtain ⟨b1, hb1⟩ : ∃ x, vNums l (bareB l.kind l.series.rule.length l.series.moves.length l.series) = x := ⟨_, rfl⟩
  obtain ⟨b2, hb2⟩ : ∃ x, oth l = x := ⟨_, rfl⟩
  have HBO := Lib.hid (show bodyOK l = (b1 && b2) by unfold bodyOK; rw [hb1, hb2])
  have HB1 := Lib.hid hb1
  have HB2 := Lib.hid hb2
  have HOK := Lib.hid hok
  have HI := Lib.hid hi
  have HNO := Lib.hid hno
  clear hh h1 h2 hb1 hb2 hok hi hno
  cases b1
  · as_aux_lemma =>
    go_enter Tryz.func19, Tryz.ntmps19
    go_wp2_with (first
      | (go_at_call 47; refine (server_any _ _).mono ?_; rintro e w' ⟨rfl, rfl⟩; first | rw [H1.out] | rw [H2.out])
      | (refine wpList_load_Row rfl _ _ rfl w.heap.size rfl (ltVal l s) HR0.out _ Tryz.underlying57 rfl HSZ.out ?_)
      | (go_at_call 48; refine (validNumbers_lt l s _ HOK.out).mono ?_; rintro e w1 ⟨rfl, hb1⟩; have HBb := Lib.hid (below_trans HB0.out hb1); rw [HB1.out]; clear hb1))
    go_ret
    exact ⟨ret_int (by rw [HC.out, HBO.out]; exact (if_pos rfl).symm), HBb.out⟩
  cases b2
  · as_aux_lemma =>
    go_enter Tryz.func19, Tryz.ntmps19
    go_wp2_with (first
      | (go_at_call 47; refine (server_any _ _).mono ?_; rintro e w' ⟨rfl, rfl⟩; first | rw [H1.out] | rw [H2.out])
      | (refine wpList_load_Row rfl _ _ rfl w.heap.size rfl (ltVal l s) (by first | with_reducible exact HRb.out | with_reducible exact HR0.out) _ Tryz.underlying57 rfl HSZ.out ?_)
      | (go_at_call 48; refine (validNumbers_lt l s _ HOK.out).mono ?_; rintro e w1 ⟨rfl, hb1⟩; have HRb := Lib.hid (HR0.out.keep hb1); have HBb := Lib.hid (below_trans HB0.out hb1); have HCb := Lib.hid ((HI.out.keep HBb.out).more HBb.out.size); have hrb := HRb.out.2; rw [HB1.out]; clear hb1)
      | (go_at_call 49; refine (validOthers_lt l s _ HOK.out HCb.out).mono ?_; rintro e w2 ⟨rfl, hb2⟩; have HBc := Lib.hid (below_trans HBb.out hb2); rw [HB2.out]; clear hb2))
    go_ret
    exact ⟨ret_int (by rw [HC.out, HBO.out]; exact (if_pos rfl).symm), HBc.out⟩
  by_cases hcl : 65536 < l.cells.length
  · as_aux_lemma =>
    go_enter Tryz.func19, Tryz.ntmps19
    go_wp2_with (first
      | (go_at_call 47; refine (server_any _ _).mono ?_; rintro e w' ⟨rfl, rfl⟩; first | rw [H1.out] | rw [H2.out])
      | (refine wpList_load_Row rfl _ _ rfl w.heap.size rfl (ltVal l s) (by first | with_reducible exact HRb.out | with_reducible exact HR0.out) _ Tryz.underlying57 rfl HSZ.out ?_)
      | (go_at_call 48; refine (validNumbers_lt l s _ HOK.out).mono ?_; rintro e w1 ⟨rfl, hb1⟩; have HRb := Lib.hid (HR0.out.keep hb1); have HBb := Lib.hid (below_trans HB0.out hb1); have HCb := Lib.hid ((HI.out.keep HBb.out).more HBb.out.size); have hrb := HRb.out.2; rw [HB1.out]; clear hb1)
      | (go_at_call 49; refine (validOthers_lt l s _ HOK.out HCb.out).mono ?_; rintro e w2 ⟨rfl, hb2⟩; have HRc := Lib.hid (HRb.out.keep hb2); have HBc := Lib.hid (below_trans HBb.out hb2); have hrc := HRc.out.2; rw [HB2.out]; clear hb2))
    go_ret
    exact ⟨ret_int (by rw [HC.out, HBO.out, if_neg (by decide), if_pos hcl]), HBc.out⟩
  have hnb := HNO.out (by rw [HBO.out]; rfl) (by omega)
  have HCC := Lib.hid (show vCode l 0 = 0 by rw [HC.out, HBO.out, if_neg (by decide), if_neg hcl, if_pos hnb])
  obtain ⟨u, hu⟩ : ∃ x, usesB l.kind 10 = x := ⟨_, rfl⟩
  have HU := Lib.hid hu
  unfold noSerB at hnb
  rw [hu] at hnb
  clear hu HC HNO
  cases u
  · as_aux_lemma =>
    clear hnb
    go_enter Tryz.func19, Tryz.ntmps19
    go_wp2_with (first
      | (go_at_call 47; refine (server_any _ _).mono ?_; rintro e w' ⟨rfl, rfl⟩; first | rw [H1.out] | rw [H2.out])
      | (refine wpList_load_Row rfl _ _ rfl w.heap.size rfl (ltVal l s) (by first | with_reducible exact HRb.out | with_reducible exact HR0.out) _ Tryz.underlying57 rfl HSZ.out ?_)
      | (go_at_call 48; refine (validNumbers_lt l s _ HOK.out).mono ?_; rintro e w1 ⟨rfl, hb1⟩; have HRb := Lib.hid (HR0.out.keep hb1); have HBb := Lib.hid (below_trans HB0.out hb1); have HCb := Lib.hid ((HI.out.keep HBb.out).more HBb.out.size); have hrb := HRb.out.2; rw [HB1.out]; clear hb1)
      | (go_at_call 49; refine (validOthers_lt l s _ HOK.out HCb.out).mono ?_; rintro e w2 ⟨rfl, hb2⟩; have HRc := Lib.hid (HRb.out.keep hb2); have HBc := Lib.hid (below_trans HBb.out hb2); have hrc := HRc.out.2; rw [HB2.out]; clear hb2)
      | (go_at_call 31; refine (uses_any _ _ _ (by omega) (by omega)).mono ?_; rintro e w3 ⟨rfl, hb3⟩; have HRd := Lib.hid (HRc.out.keep hb3); have HBd := Lib.hid (below_trans HBc.out hb3); have hrd := HRd.out.2; rw [HU.out]; clear hb3))
    go_ret
    exact ⟨ret_int HCC.out.symm, HBd.out⟩
  · as_aux_lemma =>
    have hnz : nzOf l = true := by cases h : nzOf l <;> simp_all
    rw [hnz] at hnb
    have HNZ := Lib.hid hnz
    have h81 : (l.kind == 8) = true ∨ (l.kind == 8) = false ∧ (l.scope == 1) = true := by
      rw [beq_dec, beq_dec]
      cases h : decide (l.kind = 8)
      · right; refine ⟨rfl, ?_⟩; rw [h] at hnb; simpa using hnb
      · exact .inl rfl
    clear hnz hnb
    rcases h81 with h8 | ⟨h8, h1'⟩
    all_goals
      go_enter Tryz.func19, Tryz.ntmps19
      go_wp2_with (first
        | (go_at_call 47; refine (server_any _ _).mono ?_; rintro e w' ⟨rfl, rfl⟩; first | rw [H1.out] | rw [H2.out])
        | (refine wpList_load_Row rfl _ _ rfl w.heap.size rfl (ltVal l s) (by first | with_reducible exact HRb.out | with_reducible exact HR0.out) _ Tryz.underlying57 rfl HSZ.out ?_)
        | (go_at_call 48; refine (validNumbers_lt l s _ HOK.out).mono ?_; rintro e w1 ⟨rfl, hb1⟩; have HRb := Lib.hid (HR0.out.keep hb1); have HBb := Lib.hid (below_trans HB0.out hb1); have HCb := Lib.hid ((HI.out.keep HBb.out).more HBb.out.size); have hrb := HRb.out.2; rw [HB1.out]; clear hb1)
        | (go_at_call 49; refine (validOthers_lt l s _ HOK.out HCb.out).mono ?_; rintro e w2 ⟨rfl, hb2⟩; have HRc := Lib.hid (HRb.out.keep hb2); have HBc := Lib.hid (below_trans HBb.out hb2); have hrc := HRc.out.2; rw [HB2.out]; clear hb2)
        | (go_at_call 31; refine (uses_any _ _ _ (by omega) (by omega)).mono ?_; rintro e w3 ⟨rfl, hb3⟩; have HRd := Lib.hid (HRc.out.keep hb3); have HBd := Lib.hid (below_trans HBc.out hb3); have hrd := HRd.out.2; rw [HU.out]; clear hb3)
        | (go_at_call 50; refine (noSeries_lt l s _ HOK.out).mono ?_; rintro e w4 ⟨rfl, hb4⟩; have HRe := Lib.hid (HRd.out.keep hb4); have HBe := Lib.hid (below_trans HBd.out hb4); have hre := HRe.out.2; rw [HNZ.out]; clear hb4))
      go_ret
      exact ⟨ret_int HCC.out.symm, HBe.out⟩
end Go.Proofs.YtoljoigbepdeiaaGreatDoor
