/- The texts MadeS, Pq, SvC, SvD, SvE, SvF, SvG, in this order. -/
import Derived.Test.YthhbbebabmemfaaGreatG01
import Derived.Test.YthhbbebabmemfaaGreatG02
import Derived.BigQuiet
import Derived.Deep.AppendLies
import Derived.Deep.CutBlock
import Derived.Deep.DeepCutAuto
import Derived.Deep.DrawnRows
import Derived.Deep.MidRow
import Derived.Deep.QuietTactic
import Derived.Deep.RegionHeld3
import Derived.Deep.RegionLaw
import Derived.Deep.WholeRow
import Derived.Great.BuildSlice
import Derived.Laws.BytesString
import Derived.Laws.CopyOwn
import Derived.Laws.EntriesVeiled
import Derived.Laws.MakeOwn
import Derived.Laws.ResultCell
import Derived.Laws.Rows
import Derived.Laws.Tables
import Derived.Lib.Hide
import Derived.LoopIn
import Derived.LoopNIn
import Derived.Maps.AppendAt
import Derived.Outline
import Derived.OwnWalkIn
import Derived.RangeFuncBound
import Derived.RangeFuncBox
import Derived.RangeFuncCalls
import Derived.RangeFuncLeaves
import Derived.RangeFuncNested
import Derived.Shelf.Abstract
import Derived.Shelf.Bytes.SlSmallAll
import Derived.Shelf.RegionOpen
import Derived.StillTailTactics
import Derived.Stop.BytesEq
import Derived.TacticsInMore
import Derived.WalkKit
import Derived.WalkLawsBesides
import Derived.WalkSpells
import Derived.Test.YthhbbebabmemfaaGreatBytesEq
import Derived.Test.YthhbbebabmemfaaGreatPl
import Derived.Test.YthhbbebabmemfaaGreatWriter
import Derived.Test.YthhbbebabmemfaaGreatReadW
/- kalendsref20.MadeSeries. -/
namespace Go.Proofs.YthhbbebabmemfaaGreat
open Go Go.RowKit

theorem MKeep.putNew {mb : Nat} {w1 W : World} (h : MKeep mb w1 W) (b o : Nat) (u : Value) (hb : w1.heap.size ≤ b) : MKeep mb w1 (W.setCell ⟨b, o, none⟩ u) :=
  ⟨h.os, h.tape, h.output, by simpa [World.setCell] using h.size, fun k hk hn => (heap_setCell_other W _ k u (by show k ≠ b; omega)).trans (h.block k hk hn)⟩
def mvsCells (ms : List Mv) : List Value := ms.flatMap fun m => (mvCells m).toList
theorem mvsCells_len (ms : List Mv) : (mvsCells ms).length = ms.length * 5 := by
  induction ms with
  | nil => rfl
  | cons x ns ih => unfold mvsCells at ih ⊢; rw [List.flatMap_cons, List.length_append, ih, List.length_cons]; show 5 + _ = _; omega
theorem mvsCells_snoc (ms : List Mv) (m : Mv) : mvsCells (ms ++ [m]) = mvsCells ms ++ (mvCells m).toList := by simp [mvsCells]
def zSerC : Array Value := #[.slice none 0 0, I 0, I 0, .string ⟨#[]⟩, I 0, I 0, .slice none 0 0]
theorem info_move : (Tryz.prog.info? 26).map (fun i => (i.zero, i.size, i.bytes)) = some (some (.agg zMove), 5, 40) := by kernel_rfl
/-- A slice literal of one move, as a step. -/
theorem step_move_slice {o : Oper} {a : Act} {w : World} {K : Act → World → Prop} {Q : Exit → Act → World → Prop} (x : Operand) (ho : o.op = .buildSlice 29 1 #[(0, x)]) (m : Mv) (hx : a.eval x = .agg (mvCells m))
    (h : K (a.put o.dst (.slice (some ⟨w.heap.size, 0, none⟩) 1 1)) (w.alloc (.cells (mvCells m) 26))) : o.wp Tryz.prog a w K Q := by
  obtain ⟨i0, hi, hz0, hz1, hz2⟩ := info_parts info_move
  refine wp_buildSlice 29 26 1 _ ho (mvCells m) i0 (.agg zMove) Tryz.underlying29 hi hz0 (by rw [hz1]; decide) (by rw [hz1]; decide) ?_ h
  rw [hz1]
  simp only [List.map_toArray, List.map_cons, List.map_nil, hx]
  kernel_rfl
/-- append of one move, as a step. -/
theorem step_app_move {o : Oper} {a : Act} {w : World} {K : Act → World → Prop} {Q : Exit → Act → World → Prop} (s x : Operand)
    (ho : o.op = .call { callee := .builtin .append, args := #[s, x], argTypes := #[29, 29] }) (base : Nat) (v : Value) (ms : List Mv) (hs : a.eval s = v) (hown : w.ownsRow base 26 5 v ms.length (mvsCells ms)) (m : Mv)
    (hx : a.eval x = .slice (some ⟨w.heap.size, 0, none⟩) 1 1) (hn : ms.length ≤ 1000) (hb : base ≤ w.heap.size)
    (h : ∀ v' w', w'.ownsRow base 26 5 v' (ms.length + 1) (mvsCells (ms ++ [m])) → (w.alloc (.cells (mvCells m) 26)).grownBy w' v.ownBlock → K (a.put o.dst v') w') :
    o.wp Tryz.prog a (w.alloc (.cells (mvCells m) 26)) K Q := by
  obtain ⟨i0, hi, hz0, hz1, hz2⟩ := info_parts info_move
  obtain ⟨v', w', hr, h2, h3, h4, h5⟩ := run_append_own_at (P := Tryz.prog) (w.alloc (.cells (mvCells m) 26)) base 29 o.type 26 i0 (.agg zMove) 5 40 Tryz.underlying29 hi hz0 hz1 hz2 rfl (by decide) v ms.length (mvsCells ms) (hown.alloc _) ⟨w.heap.size, 0, none⟩ 1 1 (mvCells m).toList rfl (fun j u hu => by
      rw [addr_add, (Row.new w _ _).2 j]; simpa using hu) (by intro u hu; have := mv_one m; rw [Array.all_eq_true_iff_forall_mem] at this; exact this u (by simpa using hu)) (by unfold maxLen; omega) (by omega) (by simp; omega)
  unfold Oper.wp execOp
  simp only [ho, resolve, invoke, builtin, Sem.run_bind, Sem.run_pure, Result.andThen_ok, List.map_toArray, List.map_cons, List.map_nil, hs, hx, hr]
  exact h v' w' (by rw [mvsCells_snoc]; exact h2) h3
theorem GS.grown {t : TypeId} {z : Array Value} {w0 W w' : World} {mb a nd b4 b6 base e size n : Nat} {xs : List Int} {cs : Array Value} {v : Value} {ys : List Value} {o : Obj} (h : GS t z w0 mb xs a nd b4 b6 cs W) (hown : W.ownsRow base e size v n ys) (hb : b6 < base) (hg : (W.alloc o).grownBy w' v.ownBlock) : GS t z w0 mb xs a nd b4 b6 cs w' := by
  have h1 := h.hm
  have h2 := h.lo
  have h3 := h.ne
  have h4 := h.lt
  have hs := h.keep.size
  have hB : ∀ k, k < W.heap.size → k < base → w'.heap[k]? = W.heap[k]? := fun k hk hkb => by rw [hg.block k (by simp; omega) (own_ge hown k hkb), Below.heap_alloc W o k hk]
  refine ⟨h.hm, (mk_grown h.mkr hown (by omega) hg).1, ⟨hg.os.trans h.keep.os, hg.tape.trans h.keep.tape, hg.output.trans h.keep.output, by have := hg.size; simp at this; omega, fun k hk hn => (hB k (by omega) (by omega)).trans (h.keep.block k hk hn)⟩, h.lo, h.ne, (hB b4 (by omega) (by omega)).trans h.res, (hB b6 h4 hb).trans h.var⟩
structure MvsOK (ms : List Mv) (dd : Int) : Prop where
  ok : ∀ m ∈ ms, MoveOK m.day m ∧ 0 ≤ m.day ∧ m.day < dd
  up : ms.Pairwise fun a b => a.day < b.day
theorem MvsOK.more {ms : List Mv} {dd r : Int} {m : Mv} (h : MvsOK ms dd) (hm : MoveOK dd m) (h0 : 0 ≤ dd) (hr : 0 ≤ r) : MvsOK (ms ++ [m]) (dd + 1 + r) := by
  have e : m.day = dd := hm.1
  refine ⟨fun x hx => ?_, ?_⟩
  · rcases List.mem_append.1 hx with hx | hx
    · have := h.ok x hx; exact ⟨this.1, this.2.1, by omega⟩
    · rw [List.mem_singleton.1 hx]; exact ⟨by rw [e]; exact hm, by omega, by omega⟩
  · rw [List.pairwise_append]
    exact ⟨h.up, List.pairwise_singleton _ _, fun a ha b hb => by rw [List.mem_singleton.1 hb, e]; exact (h.ok a ha).2.2⟩
def serA (v : Value) (mi le : Int) (zv : ByteArray) (gp fo : Int) (vm : Value) : Array Value := #[v, I mi, I (1 + le), .string zv, I gp, I fo, vm]
def MsRel (w w1 : World) (mb : Nat) (xs : List Int) (n1 a0 : Nat) (v : Value) (mi le : Int) (zv : ByteArray) (gp fo kk : Int) (d i : Value) (wr : World) : Prop :=
  ∃ (j : Nat) (dd : Int) (ms : List Mv) (a' : Nat) (vm : Value), (j : Int) ≤ kk ∧ i = I j ∧ d = I dd ∧ 0 ≤ dd ∧ dd ≤ 20 + 10 * j ∧ ms.length = j ∧ MvsOK ms dd ∧ a' ≤ a0 + 5 * j ∧
    GS 31 zSerC w mb xs a' n1 w.heap.size w1.heap.size (serA v mi le zv gp fo vm) wr ∧ wr.ownsRow (w1.heap.size + 1) 26 5 vm ms.length (mvsCells ms) ∧ MKeep mb w1 wr
theorem cells_newM {w : World} {t : TypeId} (m : Mv) : ∀ j u, (mvCells m).toList[j]? = some u → (w.alloc (.cells (mvCells m) t)).cell? ((⟨w.heap.size, 0, none⟩ : Addr).add j) = some u := by
  intro j u hu
  rw [addr_add, (Row.new w _ t).2 j]
  simpa using hu
theorem moves_ok (m : Mv) : ∀ u ∈ (mvCells m).toList, u.oneCell' = true := by
  intro u hu
  have := mv_one m
  rw [Array.all_eq_true_iff_forall_mem] at this
  exact this u (by simpa using hu)
attribute [local go_sem] mvCells
def ZoneOK (z : ByteArray) : Prop := z = ⟨#[122]⟩ ∨ z = ⟨#[69, 97, 114, 116, 104, 47, 78, 111, 114, 116, 104]⟩ ∨ z = ⟨#[117, 116, 99, 45, 50]⟩ ∨ z = ⟨#[120, 32, 121]⟩
/-- What 'MadeSeries' gives: a rule and moves in memory of the call's own, numbers in their ranges. -/
structure SerMade (w : World) (ns : List NdV) (ms : List Mv) (mi ln : Int) (zv : ByteArray) (gp fo : Int) (vr vm : Value) (w' : World) : Prop where
  rule : RuleIs (w.heap.size + 1) w' vr ns
  made : MRule 3 ns
  len : ns.length ≤ 16
  within : Within 2002 ns
  moves : w'.ownsRow (w.heap.size + 1) 26 5 vm ms.length (mvsCells ms)
  mok : ∃ dd, dd ≤ 100 ∧ MvsOK ms dd
  mlen : ms.length ≤ 2
  min : 0 ≤ mi ∧ mi < 1440
  lng : 1 ≤ ln ∧ ln ≤ 200
  zone : ZoneOK zv
  gap : 0 ≤ gp ∧ gp < 3
  fold : 0 ≤ fo ∧ fo < 3
def Seried (w : World) (mb : Nat) (xs : List Int) (at_ nodes : Nat) (e : Ending) (w' : World) : Prop :=
  ∃ ns ms mi ln zv gp fo vr vm a' n', e = .returned (.agg #[vr, I mi, I ln, .string zv, I gp, I fo, vm]) ∧ SerMade w ns ms mi ln zv gp fo vr vm w' ∧ MkSt w' mb xs a' n' ∧ a' ≤ at_ + 400 ∧ n' ≤ nodes + 16 ∧ MKeep mb w w'
theorem ser_size (v vm : Value) (mi le : Int) (zv : ByteArray) (gp fo : Int) : (Tryz.prog.info? 31).map (·.size) = some (serA v mi le zv gp fo vm).size := by kernel_rfl
theorem ser_one (A A' : Option Addr) (n c n' c' : Nat) (mi le : Int) (zv : ByteArray) (gp fo : Int) : (serA (.slice A n c) mi le zv gp fo (.slice A' n' c')).all (·.oneCell') = true := by kernel_rfl
theorem own_slice {w : World} {base e size n : Nat} {v : Value} {xs : List Value} (h : w.ownsRow base e size v n xs) : ∃ A m c, v = .slice A m c := by
  rcases h.2 with ⟨rfl, _⟩ | ⟨g, cap, cur, rfl, _⟩
  · exact ⟨_, _, _, rfl⟩
  · exact ⟨_, _, _, rfl⟩
set_option maxRecDepth 10000 in
set_option maxHeartbeats 4000000 in
theorem madeSeries_any (w : World) (mb : Nat) (xs : List Int) (at_ nodes : Nat) (h : MkSt w mb xs at_ nodes) (hx : XsOK xs) (hat : at_ ≤ 100000) (hnd : nodes ≤ 100000) :
    Calls Tryz.prog 54 #[pt mb] w (Seried w mb xs at_ nodes) := by
  have HM0 := Lib.hid (h.grow (below_var w (.cells zSerC 31)))
  have hml := h.lt
  obtain ⟨i0, hi, hz0, hz1, hz2⟩ := info_parts info_move
  clear h
  go_enter Tryz.func54, Tryz.ntmps54
  go_wp2_with fail
  refine (rule_any xs hx 3 (by omega) (by omega) 2 (by omega) _ mb at_ nodes HM0.out (by omega) (by omega)).mono ?_
  rintro e w1 ⟨ns, v, a1, n1, rfl, hl1, hl2, hmr, hwi, hru, hm1, ha1, hn1, hk1⟩
  rw [World.size_alloc] at hru
  obtain ⟨gr, cr, rfl, hgr1, hgr2, -⟩ := hru.form (by intro e; rw [e] at hl1; exact absurd hl1 (Nat.lt_irrefl _))
  have HRU := Lib.hid hru
  have HMR := Lib.hid hmr
  have hm1lt : mb < w1.heap.size := hm1.lt
  have G0 : Hid (GS 31 zSerC w mb xs a1 n1 w.heap.size w1.heap.size #[.slice (some ⟨gr, 0, none⟩) ns.length cr, I 0, I 0, .string ⟨#[]⟩, I 0, I 0, .slice none 0 0] (w1.alloc (.cells #[.slice (some ⟨gr, 0, none⟩) ns.length cr, I 0, I 0, .string ⟨#[]⟩, I 0, I 0, .slice none 0 0] 31))) := Lib.hid (GS.start hm1 hml hk1)
  have KP := Lib.hid (MKeep.of_below (mb := mb) (below_var w1 (.cells #[.slice (some ⟨gr, 0, none⟩) ns.length cr, I 0, I 0, .string ⟨#[]⟩, I 0, I 0, .slice none 0 0] 31)))
  have hns : ns.length ≤ 16 := hl2
  have ha1' : a1 ≤ 101000 := by omega
  have HA1 : Hid (a1 ≤ at_ + 320) := Lib.hid ha1
  have HN1 : Hid (n1 ≤ nodes + 16) := Lib.hid hn1
  have HWI : Hid (Within 2002 ns) := Lib.hid hwi
  clear hru hmr hwi hm1 hk1 hl2 ha1 hn1
  go_wp2_with fail
  refine (G0.out.pick hx 1440 (by omega) (by omega) (by omega)).mono ?_
  rintro e w2 ⟨mi, rfl, mi1, mi2, G1k, G1s⟩
  have G1c := G1s.cell
  have G1f := G1s.froz
  have G1 := Lib.hid (G1s.store 1 (I mi))
  have KP := Lib.hid ((KP.out.trans G1k).putNew w1.heap.size 1 (I mi) (Nat.le_refl _))
  clear G1k G1s
  go_wp2_with fail
  clear G1c G1f
  refine (G1.out.pick hx 200 (by omega) (by omega) (by omega)).mono ?_
  rintro e w3 ⟨le, rfl, le1, le2, G2k, G2s⟩
  have G2c := G2s.cell
  have G2f := G2s.froz
  have G2 := Lib.hid (G2s.store 2 (I (1 + le)))
  have KP := Lib.hid ((KP.out.trans G2k).putNew w1.heap.size 2 (I (1 + le)) (Nat.le_refl _))
  clear G2k G2s
  go_wp2_with fail
  clear G2c G2f
  have HZR := Lib.hid (Row.new (w3.setCell ⟨w1.heap.size, 2, none⟩ (I (1 + le))) #[.string ⟨#[122]⟩, .string ⟨#[69, 97, 114, 116, 104, 47, 78, 111, 114, 116, 104]⟩, .string ⟨#[117, 116, 99, 45, 50]⟩, .string ⟨#[120, 32, 121]⟩] 9)
  have GZ := Lib.hid (G2.out.step (G2.out.mkr.grow (below_var _ (.cells #[.string ⟨#[122]⟩, .string ⟨#[69, 97, 114, 116, 104, 47, 78, 111, 114, 116, 104]⟩, .string ⟨#[117, 116, 99, 45, 50]⟩, .string ⟨#[120, 32, 121]⟩] 9))) (MKeep.of_below (below_var _ (.cells #[.string ⟨#[122]⟩, .string ⟨#[69, 97, 114, 116, 104, 47, 78, 111, 114, 116, 104]⟩, .string ⟨#[117, 116, 99, 45, 50]⟩, .string ⟨#[120, 32, 121]⟩] 9))))
  have KP := Lib.hid (KP.out.trans (MKeep.of_below (below_var _ (.cells #[.string ⟨#[122]⟩, .string ⟨#[69, 97, 114, 116, 104, 47, 78, 111, 114, 116, 104]⟩, .string ⟨#[117, 116, 99, 45, 50]⟩, .string ⟨#[120, 32, 121]⟩] 9))))
  refine (GZ.out.pick hx 4 (by omega) (by omega) (by omega)).mono ?_
  rintro e w4 ⟨zi, rfl, z1, z2, G3k, G3s⟩
  obtain ⟨zn, rfl⟩ := Int.eq_ofNat_of_zero_le z1
  have hzn : zn < 4 := by omega
  have hsz3 : (w3.setCell ⟨w1.heap.size, 2, none⟩ (I (1 + le))).heap.size = w3.heap.size := by simp [World.setCell]
  rw [hsz3] at HZR
  have hz3 : mb < w3.heap.size := by have := G2.out.mkr.lt; rw [hsz3] at this; exact this
  obtain ⟨zv, hzv, hzok⟩ : ∃ zv, (#[.string ⟨#[122]⟩, .string ⟨#[69, 97, 114, 116, 104, 47, 78, 111, 114, 116, 104]⟩, .string ⟨#[117, 116, 99, 45, 50]⟩, .string ⟨#[120, 32, 121]⟩] : Array Value)[zn]? = some (.string zv) ∧ ZoneOK zv := by
    match zn, hzn with
    | 0, _ => exact ⟨_, rfl, .inl rfl⟩
    | 1, _ => exact ⟨_, rfl, .inr (.inl rfl)⟩
    | 2, _ => exact ⟨_, rfl, .inr (.inr (.inl rfl))⟩
    | 3, _ => exact ⟨_, rfl, .inr (.inr (.inr rfl))⟩
  have hzc : w4.cell? ⟨w3.heap.size, zn, none⟩ = some (.string zv) := (World.cell?_of_block (a := ⟨w3.heap.size, zn, none⟩) (G3k.block _ HZR.out.1 (by show w3.heap.size ≠ mb; omega))).trans ((HZR.out.2 zn).trans hzv)
  have hznI : (zn : Int) < 4 := by omega
  have HZOK := Lib.hid hzok
  have G3c := G3s.cell
  have G3f := G3s.froz
  have G3 := Lib.hid (G3s.store 3 (.string zv))
  have KP := Lib.hid ((KP.out.trans G3k).putNew w1.heap.size 3 (.string zv) (Nat.le_refl _))
  clear G3k G3s hzv hzok hsz3 HZR z1 z2
  go_wp2_with fail
  clear G3c G3f hzc
  refine (G3.out.pick hx 3 (by omega) (by omega) (by omega)).mono ?_
  rintro e w5 ⟨gp, rfl, gp1, gp2, G4k, G4s⟩
  have G4c := G4s.cell
  have G4f := G4s.froz
  have G4 := Lib.hid (G4s.store 4 (I gp))
  have KP := Lib.hid ((KP.out.trans G4k).putNew w1.heap.size 4 (I gp) (Nat.le_refl _))
  clear G4k G4s
  go_wp2_with fail
  clear G4c G4f
  refine (G4.out.pick hx 3 (by omega) (by omega) (by omega)).mono ?_
  rintro e w6 ⟨fo, rfl, fo1, fo2, G5k, G5s⟩
  have G5c := G5s.cell
  have G5f := G5s.froz
  have G5 := Lib.hid (G5s.store 5 (I fo))
  have KP := Lib.hid ((KP.out.trans G5k).putNew w1.heap.size 5 (I fo) (Nat.le_refl _))
  clear G5k G5s
  go_wp2_with fail
  clear G5c G5f
  refine (G5.out.pick hx 20 (by omega) (by omega) (by omega)).mono ?_
  rintro e w7 ⟨dy, rfl, dy1, dy2, G6k, G6s⟩
  have G6 := Lib.hid G6s
  have KP := Lib.hid (KP.out.trans G6k)
  clear G6k G6s
  go_wp2_with fail
  refine (G6.out.pick hx 3 (by omega) (by omega) (by omega)).mono ?_
  rintro e w8 ⟨kk, rfl, kk1, kk2, G7k, G7s⟩
  have G7 := Lib.hid G7s
  have KP := Lib.hid (KP.out.trans G7k)
  clear G7k G7s
  go_wp2_with fail
  have hg7 : w1.heap.size + 1 ≤ w8.heap.size := G7.out.lt
  have GL : Hid (GS 31 zSerC w mb xs _ n1 w.heap.size w1.heap.size (serA (.slice (some ⟨gr, 0, none⟩) ns.length cr) mi le zv gp fo (.slice none 0 0)) w8) := Lib.hid G7.out
  clear G0 G1 G2 GZ G3 G4 G5 G6 G7 HM0
  go_loopw [5, 7] (fun d i wr => MsRel w w1 mb xs n1 (a1 + 20) (.slice (some ⟨gr, 0, none⟩) ns.length cr) mi le zv gp fo kk d i wr) (fun _ i _ => (kk - intOf i).toNat)
  case atStart => exact ⟨0, dy, [], _, .slice none 0 0, by omega, rfl, rfl, dy1, by omega, rfl, ⟨(fun m hm => nomatch hm), List.Pairwise.nil⟩, by omega, GL.out, World.ownsRow_nil _ _ _ _, KP.out⟩
  case round =>
    obtain ⟨j, dd, ms, a', vm, hj, rfl, rfl, hd1, hd2, hms, hmok, ha', hgs, hown, hkp⟩ := hrel
    have HG := Lib.hid hgs
    have HO := Lib.hid hown
    have HKP := Lib.hid hkp
    have HOK := Lib.hid hmok
    have hc := hgs.cell
    have hlt6 := hgs.lt
    have hml2 : ms.length ≤ 2 := by omega
    have HMS := Lib.hid hms
    clear hgs hown hkp hmok GL KP hms
    by_cases hlt : (j : Int) < kk
    · have hc6 : wr.cell? ⟨w1.heap.size, 6, none⟩ = some vm := hc 6
      clear hc
      have HGD : Hid (GS 31 zSerC w mb xs a' n1 w.heap.size w1.heap.size (serA (.slice (some ⟨gr, 0, none⟩) ns.length cr) mi le zv gp fo vm) wr.drew) := Lib.hid ⟨HG.out.hm, HG.out.mkr, HG.out.keep.draw, HG.out.lo, HG.out.ne, HG.out.res, HG.out.var⟩
      have HOD : Hid (wr.drew.ownsRow (w1.heap.size + 1) 26 5 vm ms.length (mvsCells ms)) := Lib.hid HO.out
      have HKD := Lib.hid HKP.out.draw
      go_wp2_with fail
      clear HG HO HKP
      go_region_law (first
        | (refine step_append_lies _ (by rfl) _ _ _ (by rfl) (w1.heap.size + 1) 26 i0 (.agg zMove) 5 40 Tryz.underlying29 hi hz0 hz1 hz2 rfl (by omega) vm ms.length (mvsCells ms) (by rfl) (HO5.out.alloc _) ⟨w5.heap.size, 0, none⟩ 1 1 (mvCells m).toList (by rfl) rfl (cells_newM m) (moves_ok m) (by omega) (by unfold maxLen; omega) (by omega) (by simp; omega) _ rfl ?_; intro gg cap w6 hown6 hgrow6 hat6 hlt6'; have HG6 := Lib.hid (HS5.out.grown HO5.out (Nat.lt_succ_self _) hgrow6); have HK6 := Lib.hid (mkeep_grown HK5.out (ownsRow_base' HO5.out (Nat.le_succ _)) hgrow6); have HO6 := Lib.hid hown6; have hc66 : w6.cell? ⟨w1.heap.size, 6, none⟩ = some vm := HG6.out.cell 6; have hf66 := HG6.out.froz 6; clear hown6 hgrow6 hat6)
        | (go_simp; go_at_call 53; refine (madeMove_any _ mb xs a' n1 dd HGD.out.mkr hx (by omega)).mono ?_; rintro e w5 ⟨m, a5, rfl, hmv, hm5, ha5, hk5⟩; have HS5 := Lib.hid (HGD.out.step hm5 hk5); have hc5 : w5.cell? ⟨w1.heap.size, 6, none⟩ = some vm := HS5.out.cell 6; have hl5 := HS5.out.lt; have HO5 := Lib.hid (ownsRow_mkeep HOD.out hk5 (by omega)); have HK5 := Lib.hid (HKD.out.trans hk5); have HMV := Lib.hid hmv; have HA5 := Lib.hid ha5; clear hmv hm5 ha5 hk5))
      all_goals
        go_wp2_with fail
        have HG7 := Lib.hid (HG6.out.store 6 (.slice (some ⟨gg, 0, none⟩) (ms.length + 1) cap))
        have HK7 := Lib.hid (HK6.out.putNew w1.heap.size 6 (.slice (some ⟨gg, 0, none⟩) (ms.length + 1) cap) (Nat.le_refl _))
        have HO7 := Lib.hid (ownsRow_setCell_below (a := ⟨w1.heap.size, 6, none⟩) HO6.out (Nat.lt_succ_self _) (.slice (some ⟨gg, 0, none⟩) (ms.length + 1) cap))
        refine (HG7.out.pick hx 9 (by have := HA5.out; omega) (by omega) (by omega)).mono ?_
        rintro e w9 ⟨r, rfl, hr1, hr2, hk9, hg9⟩
        have HG9 := Lib.hid hg9
        have HO9 := Lib.hid (ownsRow_mkeep HO7.out hk9 (by omega))
        have HK9 := Lib.hid (HK7.out.trans hk9)
        clear hk9 hg9
        go_wp2_with fail
        go_roundw
        case rel => exact ⟨j + 1, _, ms ++ [m], a5 + 1, _, by omega, by go_num, by first | rfl | go_num, by omega, by push_cast; omega, by rw [List.length_append, HMS.out]; rfl, HOK.out.more HMV.out hd1 hr1, by have := HA5.out; omega, HG9.out, by rw [mvsCells_snoc, List.length_append]; exact HO9.out, HK9.out⟩
        case measure => simp [intOf]; omega
    · obtain ⟨Am, mm, cm, rfl⟩ := own_slice HO.out
      have HRW := Lib.hid HG.out.row
      go_wp2_with (first
        | (with_reducible refine g_load 31 ?_; refine wpList_load_Row rfl _ _ rfl w1.heap.size rfl (serA (.slice (some ⟨gr, 0, none⟩) ns.length cr) mi le zv gp fo (.slice Am mm cm)) HRW.out _ Tryz.underlying31 rfl (ser_size _ _ _ _ _ _ _) ?_)
        | (with_reducible refine g_store 31 ?_; refine wpList_store_row rfl _ _ _ rfl w.heap.size (serA (.slice (some ⟨gr, 0, none⟩) ns.length cr) mi le zv gp fo (.slice Am mm cm)) rfl rfl 31 zSerC HG.out.res (ser_size _ _ _ _ _ _ _) rfl (ser_one _ _ _ _ _ _ _ _ _ _ _) ?_))
      have hsz := HKP.out.size
      have hsm : SerMade w ns ms mi (1 + le) zv gp fo (.slice (some ⟨gr, 0, none⟩) ns.length cr) (.slice Am mm cm) (wr.setRow w.heap.size (serA (.slice (some ⟨gr, 0, none⟩) ns.length cr) mi le zv gp fo (.slice Am mm cm))) :=
        { rule := (HRU.out.mkeep HKP.out (by omega)).of_blocks (by simp) fun k hk _ => setRow_other _ _ k _ (by omega)
          made := HMR.out, len := hns, within := HWI.out
          moves := ownsRow_base' (ownsRow_blocks HO.out fun k hk _ => setRow_other _ _ k _ (by omega)) (by omega)
          mok := ⟨dd, by omega, HOK.out⟩, mlen := by omega, min := ⟨mi1, mi2⟩, lng := ⟨by omega, by omega⟩, zone := HZOK.out, gap := ⟨gp1, gp2⟩, fold := ⟨fo1, fo2⟩ }
      exact bodyPost_ret (v := .agg (serA (.slice (some ⟨gr, 0, none⟩) ns.length cr) mi le zv gp fo (.slice Am mm cm))) (results_cell_row rfl _ _ w.heap.size _ (serA (.slice (some ⟨gr, 0, none⟩) ns.length cr) mi le zv gp fo (.slice Am mm cm)) (0, 0) _ rfl (setRow_heap _ _ _ _ _ _ HG.out.res) Tryz.underlying31 rfl (ser_size _ _ _ _ _ _ _)) rfl ⟨ns, ms, mi, 1 + le, zv, gp, fo, _, _, a', n1, rfl, hsm, HG.out.fin.1, by have := HA1.out; omega, HN1.out, HG.out.fin.2⟩
end Go.Proofs.YthhbbebabmemfaaGreat

/- Rules and moves in memory (plain). -/
namespace Go.Proofs.YthhbbebabmemfaaGreat
open Go Go.RowKit

theorem rcells_get (ns : List NdV) (k i : Nat) (hi : i < 8) : (rcells ns)[k * 8 + i]? = (ns[k]?).bind fun x => x.cells[i]? := by
  induction ns generalizing k with
  | nil => simp [rcells]
  | cons x r ih =>
    rw [show rcells (x :: r) = x.cells ++ rcells r by simp [rcells]]
    cases k with
    | zero => rw [List.getElem?_append_left (by rw [x.len]; omega)]; simp
    | succ k => rw [List.getElem?_append_right (by rw [x.len]; omega), x.len, show (k + 1) * 8 + i - 8 = k * 8 + i by omega, ih k]; simp
theorem mvs_get (ms : List Mv) (k i : Nat) (hi : i < 5) : (mvsCells ms)[k * 5 + i]? = (ms[k]?).bind fun x => (mvCells x).toList[i]? := by
  induction ms generalizing k with
  | nil => simp [mvsCells]
  | cons x r ih =>
    have hl : (mvCells x).toList.length = 5 := rfl
    rw [show mvsCells (x :: r) = (mvCells x).toList ++ mvsCells r by simp [mvsCells]]
    cases k with
    | zero => rw [List.getElem?_append_left (by rw [hl]; omega)]; simp
    | succ k => rw [List.getElem?_append_right (by rw [hl]; omega), hl, show (k + 1) * 5 + i - 5 = k * 5 + i by omega, ih k]; simp
/-- A rule as it may be read. -/
def RulesAt (w : World) (B : Nat) (A : Option Addr) (ns : List NdV) : Prop :=
  ns.length = 0 ∨ ∃ b, A = some ⟨b, 0, none⟩ ∧ b < B ∧ ∀ k x, ns[k]? = some x → w.rangeAt b (k * 8) x.cells ∧ IntsAt w B x.A x.d.list ∧ x.d.list.length ≤ 140737488355328
def MovesAt (w : World) (B : Nat) (A : Option Addr) (ms : List Mv) : Prop :=
  ms.length = 0 ∨ ∃ b, A = some ⟨b, 0, none⟩ ∧ b < B ∧ ∀ k x, ms[k]? = some x → w.rangeAt b (k * 5) (mvCells x).toList
theorem RulesAt.keep {w w' : World} {B : Nat} {A : Option Addr} {ns : List NdV} (h : RulesAt w B A ns) (hb : Below B w w') : RulesAt w' B A ns := by
  rcases h with h | ⟨b, h1, h2, h3⟩
  · exact .inl h
  · exact .inr ⟨b, h1, h2, fun k x hx => ⟨rangeAt_keep (h3 k x hx).1 hb h2, (h3 k x hx).2.1.keep hb, (h3 k x hx).2.2⟩⟩
theorem RulesAt.more {w : World} {B B' : Nat} {A : Option Addr} {ns : List NdV} (h : RulesAt w B A ns) (hB : B ≤ B') : RulesAt w B' A ns := by
  rcases h with h | ⟨b, h1, h2, h3⟩
  · exact .inl h
  · exact .inr ⟨b, h1, by omega, fun k x hx => ⟨(h3 k x hx).1, (h3 k x hx).2.1.more hB, (h3 k x hx).2.2⟩⟩
theorem MovesAt.keep {w w' : World} {B : Nat} {A : Option Addr} {ns : List Mv} (h : MovesAt w B A ns) (hb : Below B w w') : MovesAt w' B A ns := by
  rcases h with h | ⟨b, h1, h2, h3⟩
  · exact .inl h
  · exact .inr ⟨b, h1, h2, fun k x hx => rangeAt_keep (h3 k x hx) hb h2⟩
theorem MovesAt.more {w : World} {B B' : Nat} {A : Option Addr} {ns : List Mv} (h : MovesAt w B A ns) (hB : B ≤ B') : MovesAt w B' A ns := by
  rcases h with h | ⟨b, h1, h2, h3⟩
  · exact .inl h
  · exact .inr ⟨b, h1, by omega, h3⟩
theorem below_drew' {w w' : World} (h : Below w.drew.heap.size w.drew w') : Below w.heap.size w w' := ⟨h.os, h.tape, h.output, h.size, h.block⟩
/-- The k-th nodes of two rules with the same contents, as they lie. -/
structure TwoNd (wr : World) (b1 b2 k : Nat) (d : Nd) (A B : Option Addr) (c e : Nat) : Prop where
  ra : wr.rangeAt b1 (k * 8) (ndCells d A c).toList
  rb : wr.rangeAt b2 (k * 8) (ndCells d B e).toList
  ia : IntsAt wr wr.heap.size A d.list
  ib : IntsAt wr wr.heap.size B d.list
  len : d.list.length ≤ 140737488355328
  la : b1 < wr.heap.size
  lb : b2 < wr.heap.size
theorem two_nd {w wr : World} {A B : Option Addr} {ns ms : List NdV} {n k : Nat} (hd : ns.map (·.d) = ms.map (·.d)) (hA : RulesAt w w.heap.size A ns) (hB : RulesAt w w.heap.size B ms) (hl : ns.length = n) (hm : ms.length = n) (hb : Below w.heap.size w wr) (hk : k < n) :
    ∃ b1 b2 d A' B' c e, A = some ⟨b1, 0, none⟩ ∧ B = some ⟨b2, 0, none⟩ ∧ TwoNd wr b1 b2 k d A' B' c e := by
  rcases (hA.keep hb) with h | ⟨b1, h1, h2, h3⟩
  · omega
  rcases (hB.keep hb) with h | ⟨b2, g1, g2, g3⟩
  · omega
  have hx : ns[k]? = some ns[k] := List.getElem?_eq_getElem (by omega)
  have hy : ms[k]? = some ms[k] := List.getElem?_eq_getElem (by omega)
  have hxy : (ns[k]).d = (ms[k]).d := by
    have := congrArg (fun l => l[k]?) hd
    simp only [List.getElem?_map, hx, hy, Option.map_some] at this
    exact Option.some.inj this
  obtain ⟨p1, p2, p3⟩ := h3 k _ hx
  obtain ⟨q1, q2, q3⟩ := g3 k _ hy
  refine ⟨b1, b2, (ns[k]).d, (ns[k]).A, (ms[k]).A, (ns[k]).c, (ms[k]).c, h1, g1, ⟨p1, ?_, p2.more hb.size, ?_, p3, Nat.lt_of_lt_of_le h2 hb.size, Nat.lt_of_lt_of_le g2 hb.size⟩⟩
  · rw [hxy]; exact q1
  · rw [hxy]; exact q2.more hb.size
end Go.Proofs.YthhbbebabmemfaaGreat

/- slices.ContainsFunc over numbers and over nodes, where no element meets the test. -/
namespace Go.Proofs.YthhbbebabmemfaaGreat
open Go Go.RowKit

set_option maxRecDepth 10000 in
theorem isOne (w : World) : Calls Tryz.prog 96 #[I 1] w fun e w' => e = .returned (.bool false) ∧ w' = w := by
  go_enter Tryz.func96, Tryz.ntmps96
  go_wp2
  go_ret
  exact ⟨rfl, rfl⟩
/-- A list of ones. -/
def Ones (w : World) (A : Option Addr) (n : Nat) : Prop := n = 0 ∨ ∃ b, A = some ⟨b, 0, none⟩ ∧ ∀ j, j < n → w.cell? ⟨b, j, none⟩ = some (I 1)
set_option maxRecDepth 10000 in
set_option maxHeartbeats 2000000 in
theorem idxOnes (A : Option Addr) (n c : Nat) (w : World) (h : Ones w A n) (hn : n ≤ 1000000) :
    Calls Tryz.prog 102 #[.slice A n c, .func (.func 96) #[] #[]] w fun e w' => e = .returned (I (-1)) ∧ w' = w := by
  have H := Lib.hid h
  clear h
  go_enter Tryz.func102, Tryz.ntmps102
  go_wp2_with fail
  go_loopw [8] (fun i wr => ∃ k : Nat, k ≤ n ∧ i = I k ∧ wr = w) (fun i _ => n - (intOf i).toNat)
  case atStart => exact ⟨0, Nat.zero_le _, rfl, rfl⟩
  case round =>
    obtain ⟨k, hk, rfl, rfl⟩ := hrel
    by_cases hlt : k < n
    · have i0 : (0 : Int) ≤ (k : Int) := by omega
      have i1 : (k : Int) < (n : Int) := by omega
      obtain ⟨b, rfl, hc⟩ : ∃ b, A = some ⟨b, 0, none⟩ ∧ ∀ j, j < n → wr.cell? ⟨b, j, none⟩ = some (I 1) := by
        rcases H.out with h | h
        · omega
        · exact h
      have c1 := hc k hlt
      clear hc
      go_wp2_with fail
      refine (isOne _).mono ?_
      rintro x w5 ⟨rfl, rfl⟩
      go_wp2_with fail
      go_roundw
      case rel => exact ⟨k + 1, by omega, by go_num, by first | trivial | rfl⟩
      case measure => simp [intOf]; omega
    · go_wp2_with fail
      go_ret
      exact ⟨rfl, rfl⟩
set_option maxRecDepth 10000 in
theorem hasOnes (A : Option Addr) (n c : Nat) (w : World) (h : Ones w A n) (hn : n ≤ 1000000) :
    Calls Tryz.prog 95 #[.slice A n c, .func (.func 96) #[] #[]] w fun e w' => e = .returned (.bool false) ∧ w' = w := by
  have H := Lib.hid (idxOnes A n c w h hn)
  clear h
  go_enter Tryz.func95, Tryz.ntmps95
  go_wp2_with fail
  refine H.out.mono ?_
  rintro x w5 ⟨rfl, rfl⟩
  go_wp2_with fail
  go_ret
  exact ⟨rfl, rfl⟩
section
attribute [local go_sem] ndCells
set_option maxRecDepth 10000 in
theorem notBig (d : Nd) (A : Option Addr) (c : Nat) (w : World) (h1 : d.list.length ≤ 64) (h2 : d.name.size ≤ 32) : Calls Tryz.prog 75 #[.agg (ndCells d A c)] w (Gives (.bool false) w) := by
  have HB := Lib.hid (below_var w (.cells (ndCells d A c) 75))
  have h3 : ¬ (64 : Int) < d.list.length := by omega
  have h4 : ¬ (32 : Int) < d.name.size := by omega
  go_enter Tryz.func75, Tryz.ntmps75
  go_wp2
  go_ret
  exact ⟨rfl, HB.out⟩
end
/-- The k-th node, as it lies. -/
structure OneNd (wr : World) (b k : Nat) (x : NdV) : Prop where
  ra : wr.rangeAt b (k * 8) (ndCells x.d x.A x.c).toList
  ia : IntsAt wr wr.heap.size x.A x.d.list
  la : b < wr.heap.size
theorem one_nd {w wr : World} {A : Option Addr} {ns : List NdV} {n k : Nat} (hA : RulesAt w w.heap.size A ns) (hl : ns.length = n) (hb : Below w.heap.size w wr) (hk : k < n) :
    ∃ b x, A = some ⟨b, 0, none⟩ ∧ ns[k]? = some x ∧ x ∈ ns ∧ OneNd wr b k x := by
  rcases (hA.keep hb) with h | ⟨b1, h1, h2, h3⟩
  · omega
  have hx : ns[k]? = some ns[k] := List.getElem?_eq_getElem (by omega)
  obtain ⟨p1, p2, _⟩ := h3 k _ hx
  exact ⟨b1, ns[k], h1, hx, List.getElem_mem (by omega), ⟨p1, p2.more hb.size, Nat.lt_of_lt_of_le h2 hb.size⟩⟩
theorem OneNd.cells {wr : World} {b k : Nat} {x : NdV} (h : OneNd wr b k x) : wr.cell? ⟨b, k * 8, none⟩ = some (I x.d.kind) ∧ wr.cell? ⟨b, k * 8 + 1, none⟩ = some (I x.d.cal) ∧ wr.cell? ⟨b, k * 8 + 2, none⟩ = some (I x.d.l) ∧ wr.cell? ⟨b, k * 8 + 3, none⟩ = some (I x.d.r) ∧ wr.cell? ⟨b, k * 8 + 4, none⟩ = some (I x.d.n) ∧ wr.cell? ⟨b, k * 8 + 5, none⟩ = some (I x.d.m) ∧ wr.cell? ⟨b, k * 8 + 6, none⟩ = some (.slice x.A x.d.list.length x.c) ∧ wr.cell? ⟨b, k * 8 + 7, none⟩ = some (.string x.d.name) :=
  ⟨h.ra 0 _ rfl, h.ra 1 _ rfl, h.ra 2 _ rfl, h.ra 3 _ rfl, h.ra 4 _ rfl, h.ra 5 _ rfl, h.ra 6 _ rfl, h.ra 7 _ rfl⟩
set_option maxRecDepth 10000 in
set_option maxHeartbeats 2000000 in
theorem idxBig (A : Option Addr) (n c : Nat) (ns : List NdV) (w : World) (hA : RulesAt w w.heap.size A ns) (hl : ns.length = n) (hn : n ≤ 1000000) (hs : ∀ x ∈ ns, x.d.list.length ≤ 64 ∧ x.d.name.size ≤ 32) :
    Calls Tryz.prog 90 #[.slice A n c, .func (.func 75) #[] #[]] w (Gives (I (-1)) w) := by
  have HA := Lib.hid hA
  have HL := Lib.hid hl
  have HS := Lib.hid hs
  clear hA hl hs
  go_enter Tryz.func90, Tryz.ntmps90
  go_wp2_with fail
  go_loopw [8] (fun i wr => ∃ k : Nat, k ≤ n ∧ i = I k ∧ Below w.heap.size w wr) (fun i _ => n - (intOf i).toNat)
  case atStart => exact ⟨0, Nat.zero_le _, rfl, Below.refl _ _⟩
  case round =>
    obtain ⟨k, hk, rfl, hbe⟩ := hrel
    have HBE := Lib.hid hbe
    clear hbe
    by_cases hlt : k < n
    · have i0 : (0 : Int) ≤ (k : Int) := by omega
      have i1 : (k : Int) < (n : Int) := by omega
      obtain ⟨b, x, rfl, hx, hm, ho⟩ := one_nd HA.out HL.out HBE.out hlt
      have HX := Lib.hid (HS.out x hm)
      obtain ⟨f0, f1, f2, f3, f4, f5, f6, f7⟩ := ho.cells
      clear ho hx hm
      go_wp2_with fail
      refine (notBig x.d x.A x.c _ HX.out.1 HX.out.2).mono ?_
      rintro v w5 ⟨rfl, hb5⟩
      have HB5 := Lib.hid hb5
      clear hb5
      go_wp2_with fail
      go_roundw
      case rel => exact ⟨k + 1, by omega, by go_num, below_trans HBE.out HB5.out⟩
      case measure => simp [intOf]; omega
    · go_wp2_with fail
      go_ret
      exact ⟨rfl, HBE.out⟩
set_option maxRecDepth 10000 in
theorem hasBig (A : Option Addr) (n c : Nat) (ns : List NdV) (w : World) (hA : RulesAt w w.heap.size A ns) (hl : ns.length = n) (hn : n ≤ 1000000) (hs : ∀ x ∈ ns, x.d.list.length ≤ 64 ∧ x.d.name.size ≤ 32) :
    Calls Tryz.prog 76 #[.slice A n c, .func (.func 75) #[] #[]] w (Gives (.bool false) w) := by
  have H := Lib.hid (idxBig A n c ns w hA hl hn hs)
  clear hA hl hs
  go_enter Tryz.func76, Tryz.ntmps76
  go_wp2_with fail
  refine H.out.mono ?_
  rintro x w5 ⟨rfl, hb5⟩
  have HB5 := Lib.hid hb5
  clear hb5
  go_wp2_with fail
  go_ret
  exact ⟨rfl, HB5.out⟩
end Go.Proofs.YthhbbebabmemfaaGreat

/- rule.wellFormed, where the rule is well-formed. -/
namespace Go.Proofs.YthhbbebabmemfaaGreat
open Go Go.RowKit

/-- A node is as its kind requires, at place i. -/
structure NodeOK (i : Nat) (k : Nat) (d : Nd) : Prop where
  kind : d.kind = k
  k1 : 1 ≤ k
  k2 : k ≤ 18
  len : d.list.length ≤ 64
  opl : (0 < opn k ∧ 0 ≤ d.l ∧ d.l < i) ∨ (opn k = 0 ∧ (d.l = 0 ∨ k = 7))
  opr : (1 < opn k ∧ 0 ≤ d.r ∧ d.r < i) ∨ (opn k ≤ 1 ∧ d.r = 0)
  cal : (calB k = true ∧ 0 ≤ d.cal ∧ d.cal ≤ 2) ∨ (calB k = false ∧ d.cal = 0)
  name : (k = 18 ∧ NameG d.name) ∨ (k ≠ 18 ∧ d.name = ⟨#[]⟩)
  list : (shLo k = 0 ∧ shHi k = 0 ∧ d.list = []) ∨ ((shLo k ≠ 0 ∨ shHi k ≠ 0) ∧ UpIn (shLo k) (shHi k) d.list)
  nums : NumsOK d
def bump (us : List Int) (j : Nat) : List Int := us.set j (us[j]?.getD 0 + 1)
def use0 (d : Nd) (us : List Int) : List Int := if 0 < opn d.kind.toNat then bump us d.l.toNat else us
def use1 (d : Nd) (us : List Int) : List Int := if 1 < opn d.kind.toNat then bump us d.r.toNat else us
def usesTo (ds : List Nd) (n : Nat) : Nat → List Int
  | 0 => List.replicate n 0
  | i + 1 => match ds[i]? with
    | some d => use1 d (use0 d (usesTo ds n i))
    | none => usesTo ds n i
/-- The table and the counts, as they lie. -/
structure WfS (w : World) (n tb ub : Nat) (us : List Int) (W : World) : Prop where
  tab : Row W tb shC
  uses : W.heap[ub]? = some (.cells (us.map I).toArray 3 (0, 0))
  ne : tb ≠ ub
  tlo : w.heap.size ≤ tb
  ulo : w.heap.size ≤ ub
  lo : Below w.heap.size w W
  len : us.length = n
section
variable {w W W' : World} {n tb ub : Nat} {us : List Int}
theorem WfS.below (h : WfS w n tb ub us W) (hb : Below W.heap.size W W') : WfS w n tb ub us W' :=
  ⟨h.tab.keep hb, (hb.block _ (Array.getElem?_eq_some_iff.1 h.uses).1).trans h.uses, h.ne, h.tlo, h.ulo, below_trans h.lo hb, h.len⟩
theorem WfS.cell (h : WfS w n tb ub us W) (j : Nat) (hj : j < n) : W.cell? ⟨ub, j, none⟩ = some (I (us[j]?.getD 0)) := by
  rw [cell_of_row W ub j _ _ _ h.uses]
  have : j < us.length := by rw [h.len]; exact hj
  simp [this]
theorem WfS.froz (h : WfS w n tb ub us W) (j : Nat) : W.frozen? ⟨ub, j, none⟩ = false := frozen_of_row W ub j _ _ h.uses
theorem WfS.put (h : WfS w n tb ub us W) (j : Nat) (v : Int) : WfS w n tb ub (us.set j v) (W.setCell ⟨ub, j, none⟩ (I v)) := by
  refine ⟨⟨by simpa [World.setCell] using h.tab.1, fun i => ?_⟩, ?_, h.ne, h.tlo, h.ulo, h.lo.setCell (p := ⟨ub, j, none⟩) h.ulo _, by rw [List.length_set]; exact h.len⟩
  · rw [World.cell?_of_block (heap_setCell_other W _ _ (I v) h.ne)]
    exact h.tab.2 i
  · rw [heap_setCell_same W ub j _ _ (I v) h.uses]
    congr 2
    apply Array.ext'
    simp [List.map_set]
theorem WfS.small (h : WfS w n tb ub us W) : ub < W.heap.size ∧ tb < W.heap.size := ⟨(Array.getElem?_eq_some_iff.1 h.uses).1, h.tab.1⟩
end
theorem make_ints (n : Nat) (hn : n ≤ 1000000) (W : World) : (Instr.makeSlice 23 (.int .i64 (n : Int)) (.int .i64 (n : Int))).run Tryz.prog W = .ok (.slice (some ⟨W.heap.size, 0, none⟩) n n) (W.alloc (.cells (Array.replicate n (I 0)) 3)) := by
  have h0 : (Tryz.prog.info? 3).map (fun i => (i.zero, i.size, i.bytes)) = some (some (I 0), 1, 8) := by kernel_rfl
  obtain ⟨i, hi, he⟩ := Option.map_eq_some_iff.1 h0
  simp only [Prod.mk.injEq] at he
  obtain ⟨hz, hs, hb⟩ := he
  have h := run_make (P := Tryz.prog) W 23 3 i (I 0) Tryz.underlying23 hi hz .i64 .i64 n n (by omega) (by omega) (by rw [hb]; omega) (by omega)
  rw [h, hs]
  have e : madeCells (I 0).cells (((n : Int).toNat) * 1) = Array.replicate n (I 0) := by
    apply Array.ext'
    simp [madeCells, Value.cells, Nat.mod_one]
    apply List.ext_getElem
    · simp
    · intro j h1 h2; simp
  rw [e]
  simp
theorem usesTo_len (ds : List Nd) (n i : Nat) : (usesTo ds n i).length = n := by
  induction i with
  | zero => simp [usesTo]
  | succ i ih =>
    unfold usesTo
    split
    · unfold use1 use0 bump
      split <;> split <;> simp [ih]
    · exact ih
theorem bump_le {us : List Int} {B : Int} (h : ∀ j : Nat, 0 ≤ us[j]?.getD 0 ∧ us[j]?.getD 0 ≤ B) (i : Nat) : ∀ j : Nat, 0 ≤ (bump us i)[j]?.getD 0 ∧ (bump us i)[j]?.getD 0 ≤ B + 1 := by
  intro j
  unfold bump
  have hj := h j
  have hi := h i
  rw [List.getElem?_set]
  split
  · split <;> simp <;> omega
  · omega
theorem use0_le {us : List Int} {B : Int} (d : Nd) (h : ∀ j : Nat, 0 ≤ us[j]?.getD 0 ∧ us[j]?.getD 0 ≤ B) : ∀ j : Nat, 0 ≤ (use0 d us)[j]?.getD 0 ∧ (use0 d us)[j]?.getD 0 ≤ B + 1 := by
  unfold use0
  split
  · exact bump_le h _
  · intro j; have := h j; omega
theorem use1_le {us : List Int} {B : Int} (d : Nd) (h : ∀ j : Nat, 0 ≤ us[j]?.getD 0 ∧ us[j]?.getD 0 ≤ B) : ∀ j : Nat, 0 ≤ (use1 d us)[j]?.getD 0 ∧ (use1 d us)[j]?.getD 0 ≤ B + 1 := by
  unfold use1
  split
  · exact bump_le h _
  · intro j; have := h j; omega
theorem usesTo_le (ds : List Nd) (n i : Nat) : ∀ j : Nat, 0 ≤ (usesTo ds n i)[j]?.getD 0 ∧ (usesTo ds n i)[j]?.getD 0 ≤ 2 * (i : Int) := by
  induction i with
  | zero =>
    intro j
    simp only [usesTo, List.getElem?_replicate]
    split <;> simp
  | succ i ih =>
    intro j
    unfold usesTo
    split
    · rename_i d _
      have := use1_le d (use0_le d ih) j; omega
    · have := ih j; omega
theorem natOf {x : Int} (h0 : 0 ≤ x) : ∃ n : Nat, x = n := ⟨x.toNat, by omega⟩
theorem rule_ints {w : World} {A : Option Addr} {ns : List NdV} {k : Nat} {x : NdV} (h : RulesAt w w.heap.size A ns) (hx : ns[k]? = some x) : IntsAt w w.heap.size x.A x.d.list := by
  rcases h with h | ⟨b, _, _, h3⟩
  · rw [List.eq_nil_of_length_eq_zero h] at hx; cases hx
  · exact (h3 k x hx).2.1
theorem usesTo_succ {ds : List Nd} {n i : Nat} {d : Nd} (h : ds[i]? = some d) : usesTo ds n (i + 1) = use1 d (use0 d (usesTo ds n i)) := by
  show (match ds[i]? with | some d => use1 d (use0 d (usesTo ds n i)) | none => usesTo ds n i) = _
  rw [h]
theorem WfS.start {w w1 : World} (n : Nat) (hb : Below w.heap.size w w1) : WfS w n w1.heap.size (w1.heap.size + 1) (List.replicate n 0) ((w1.alloc (.cells shC 142)).alloc (.cells (Array.replicate n (I 0)) 3)) := by
  have h1 := below_var w1 (.cells shC 142)
  have h2 := below_var (w1.alloc (.cells shC 142)) (.cells (Array.replicate n (I 0)) 3)
  have e : ((List.replicate n (0 : Int)).map I).toArray = Array.replicate n (I 0) := by simp
  refine ⟨(Row.new w1 shC _).keep h2, ?_, by omega, hb.size, by have := hb.size; omega, below_trans (below_trans hb h1) h2, by simp⟩
  rw [e]
  exact heap_alloc2_new w1 _ _
def usAt (d : Nd) (us : List Int) : Nat → List Int
  | 0 => us
  | 1 => use0 d us
  | _ => use1 d (use0 d us)
/-- Inside the round: the node, its shape and its operands, as they lie. -/
structure WI (w : World) (n tb ub : Nat) (us : List Int) (nb : Nat) (nc : Array Value) (sb : Nat) (sc : Array Value) (ob : Nat) (oc : Array Value) (W : World) : Prop where
  wf : WfS w n tb ub us W
  nd : Row W nb nc
  sh : Row W sb sc
  op : Row W ob oc
  n1 : nb ≠ ub
  n2 : sb ≠ ub
  n3 : ob ≠ ub
section
variable {w W W' : World} {n tb ub nb sb ob : Nat} {us : List Int} {nc sc oc : Array Value}
theorem WI.below (h : WI w n tb ub us nb nc sb sc ob oc W) (hb : Below W.heap.size W W') : WI w n tb ub us nb nc sb sc ob oc W' := ⟨h.wf.below hb, h.nd.keep hb, h.sh.keep hb, h.op.keep hb, h.n1, h.n2, h.n3⟩
theorem Row.far {cs : Array Value} {b g : Nat} (h : Row W b cs) (hn : b ≠ g) (o : Nat) (v : Value) : Row (W.setCell ⟨g, o, none⟩ v) b cs :=
  ⟨by simpa [World.setCell] using h.1, fun i => by rw [World.cell?_of_block (heap_setCell_other W _ _ v hn)]; exact h.2 i⟩
theorem WI.put (h : WI w n tb ub us nb nc sb sc ob oc W) (j : Nat) (v : Int) : WI w n tb ub (us.set j v) nb nc sb sc ob oc (W.setCell ⟨ub, j, none⟩ (I v)) := ⟨h.wf.put j v, h.nd.far h.n1 _ _, h.sh.far h.n2 _ _, h.op.far h.n3 _ _, h.n1, h.n2, h.n3⟩
end
set_option maxRecDepth 10000 in
set_option maxHeartbeats 2000000 in
theorem wellFormed_yes (A : Option Addr) (n c : Nat) (ns : List NdV) (w : World) (hA : RulesAt w w.heap.size A ns) (hl : ns.length = n) (h1 : 1 ≤ n) (h64 : n ≤ 64)
    (hok : ∀ i x, ns[i]? = some x → NodeOK i x.d.kind.toNat x.d) (ds : List Nd) (hds : ns.map (·.d) = ds) (hu : ∀ j, j + 1 < n → (usesTo ds n n)[j]? = some 1) :
    Calls Tryz.prog 77 #[.slice A n c] w (Gives (.bool true) w) := by
  have HA := Lib.hid hA
  have HL := Lib.hid hl
  have HOK := Lib.hid hok
  have HU := Lib.hid hu
  have HDS := Lib.hid hds
  have hmk := make_ints n (by omega)
  clear hA hl hok hu hds
  go_enter Tryz.func77, Tryz.ntmps77
  go_wp2_with fail
  refine (shapes_any _).mono ?_
  rintro e w1 ⟨rfl, hb1⟩
  have HB1 := Lib.hid hb1
  clear hb1
  go_wp2_with (refine wpList_var_row rfl rfl _ _ _ rfl rfl rfl rfl _ shC sh_info' rfl rfl rfl sh_one ?_)
  have HW0 := Lib.hid (WfS.start n HB1.out)
  have htb : w.heap.size ≤ w1.heap.size := HB1.out.size
  obtain ⟨tb, htb'⟩ : ∃ tb, w1.heap.size = tb := ⟨_, rfl⟩
  rw [htb'] at HW0 htb ⊢
  clear HB1 hmk
  go_loopw [26] (fun i wr => ∃ k : Nat, k ≤ n ∧ i = I k ∧ WfS w n tb (tb + 1) (usesTo ds n k) wr) (fun i _ => n - (intOf i).toNat)
  case atStart => exact ⟨0, Nat.zero_le _, rfl, by rw [← htb']; exact htb' ▸ HW0.out⟩
  case round =>
    obtain ⟨k, hk, rfl, hS⟩ := hrel
    have HS := Lib.hid hS
    obtain ⟨ub, hub⟩ : ∃ ub, tb + 1 = ub := ⟨_, rfl⟩
    rw [hub] at HS ⊢
    clear hS HW0 htb'
    by_cases hlt : k < n
    · have i0 : (0 : Int) ≤ (k : Int) := by omega
      have i1 : (k : Int) < (n : Int) := by omega
      obtain ⟨b, ⟨⟨kind, cal, l, r, nn, m, list, name⟩, A', c'⟩, rfl, hx, hm, ho⟩ := one_nd HA.out HL.out HS.out.lo hlt
      have hN := HOK.out k _ hx
      have hdk : ds[k]? = some ⟨kind, cal, l, r, nn, m, list, name⟩ := by rw [← HDS.out, List.getElem?_map, hx]; rfl
      obtain ⟨us, hus⟩ : ∃ us, usesTo ds n k = us := ⟨_, rfl⟩
      have hnx := usesTo_succ (n := n) hdk
      rw [hus] at hnx
      have HLE := Lib.hid (fun j => by have := usesTo_le ds n k j; rw [hus] at this; exact this)
      rw [hus] at HS
      obtain ⟨f0, f1, f2, f3, f4, f5, f6, f7⟩ := ho.cells
      simp only at hN f0 f1 f2 f3 f4 f5 f6 f7
      obtain ⟨kd, hkd⟩ : ∃ kd, kind.toNat = kd := ⟨_, rfl⟩
      rw [hkd] at hN
      have hkk : kind = (kd : Int) := hN.kind
      subst hkk
      have HNX := Lib.hid hnx
      have HIA : Hid (IntsAt w w.heap.size A' list) := Lib.hid (rule_ints HA.out hx)
      have HN := Lib.hid hN
      have hbl := ho.la
      have hk1 := hN.k1
      have hk2 := hN.k2
      have hl64 : ¬ (64 : Int) < (list.length : Int) := by have := hN.len; simp only at this; omega
      obtain ⟨t0, t1, t2, t3⟩ := shC_at kd (by omega)
      rw [← HS.out.tab.2] at t0 t1 t2 t3
      obtain ⟨hs1, hs2⟩ := HS.out.small
      have hne1 : ¬ b = wr.heap.size := by omega
      have hne2 : ¬ tb = wr.heap.size := by omega
      have hne3 : ¬ tb = wr.heap.size + 1 := by omega
      clear ho hx hm hdk hus hnx hN hkd
      have HW1 : Hid (WI w n tb ub us wr.heap.size #[I kd, I cal, I l, I r, I nn, I m, .slice A' list.length c', .string name] (wr.heap.size + 1) #[I (opn kd), .bool (calB kd), I (shLo kd), I (shHi kd)] (wr.heap.size + 2) #[I l, I r] (((wr.alloc (.cells #[I kd, I cal, I l, I r, I nn, I m, .slice A' list.length c', .string name] 75)).alloc (.cells #[I (opn kd), .bool (calB kd), I (shLo kd), I (shHi kd)] 141)).alloc (.cells #[I l, I r] 3))) := Lib.hid (by
        have b1 := below_var wr (.cells #[I kd, I cal, I l, I r, I nn, I m, .slice A' list.length c', .string name] 75)
        have r1 := Row.new wr #[I kd, I cal, I l, I r, I nn, I m, .slice A' list.length c', .string name] 75
        have b2 := below_var (wr.alloc (.cells #[I kd, I cal, I l, I r, I nn, I m, .slice A' list.length c', .string name] 75)) (.cells #[I (opn kd), .bool (calB kd), I (shLo kd), I (shHi kd)] 141)
        have r2 := Row.new (wr.alloc (.cells #[I kd, I cal, I l, I r, I nn, I m, .slice A' list.length c', .string name] 75)) #[I (opn kd), .bool (calB kd), I (shLo kd), I (shHi kd)] 141
        have b3 := below_var ((wr.alloc (.cells #[I kd, I cal, I l, I r, I nn, I m, .slice A' list.length c', .string name] 75)).alloc (.cells #[I (opn kd), .bool (calB kd), I (shLo kd), I (shHi kd)] 141)) (.cells #[I l, I r] 3)
        have r3 := Row.new ((wr.alloc (.cells #[I kd, I cal, I l, I r, I nn, I m, .slice A' list.length c', .string name] 75)).alloc (.cells #[I (opn kd), .bool (calB kd), I (shLo kd), I (shHi kd)] 141)) #[I l, I r] 3
        simp only [World.size_alloc] at r2 r3
        exact ⟨((HS.out.below b1).below b2).below b3, (r1.keep b2).keep b3, r2.keep b3, r3, by omega, by omega, by omega⟩)
      go_wp2_with (go_at_call 91; refine (ruWithin_yes _ _ _ _ (by omega) (by omega)).mono ?_; rintro e w9 ⟨rfl, rfl⟩)
      have HLO : Hid (∀ W', Below w.heap.size w W' → Calls Tryz.prog 93 #[.slice A' list.length c', .agg #[I (shLo kd), I (shHi kd)]] W' (Gives (.bool true) W')) := Lib.hid (fun W' hb => by
        rcases HN.out.list with ⟨e1, e2, e3⟩ | ⟨e1, e2⟩
        · have e4 : list.length = 0 := by have e5 : list = [] := e3; rw [e5]; rfl
          rw [e1, e2, e4]
          exact listOK_none A' c' W'
        · exact listOK_yes A' c' list.length _ _ list W' ((HIA.out.keep hb).more hb.size) e2 e1 rfl (by have := HN.out.len; simp only at this; omega))
      have HNU : Hid (∀ W', Calls Tryz.prog 94 #[.agg #[I kd, I cal, I l, I r, I nn, I m, .slice A' list.length c', .string name]] W' (Gives (.bool true) W')) := Lib.hid (fun W' => numbersOK_yes ⟨kd, cal, l, r, nn, m, list, name⟩ A' c' W' HN.out.nums)
      have hop0 : 0 ≤ opn kd := by rcases HN.out.opl with h | h <;> omega
      obtain ⟨WX, hWX⟩ : ∃ WX, ((wr.alloc (.cells #[I kd, I cal, I l, I r, I nn, I m, .slice A' list.length c', .string name] 75)).alloc (.cells #[I (opn kd), .bool (calB kd), I (shLo kd), I (shHi kd)] 141)).alloc (.cells #[I l, I r] 3) = WX := ⟨_, rfl⟩
      rw [hWX] at HW1 ⊢
      obtain ⟨nb, hnb⟩ : ∃ nb, wr.heap.size = nb := ⟨_, rfl⟩
      have hnbu : ub < nb := by omega
      rw [hnb] at HW1 ⊢
      have HWR := Lib.hid hnb
      clear f0 f1 f2 f3 f4 f5 f6 f7 t0 t1 t2 t3 hne1 hne2 hne3 hs1 hs2 hbl hWX HS hub hnb hl64
      go_loopw [51] (fun i wr' => ∃ q : Nat, q ≤ 2 ∧ i = I q ∧ WI w n tb ub (usAt ⟨kd, cal, l, r, nn, m, list, name⟩ us q) nb #[I kd, I cal, I l, I r, I nn, I m, .slice A' list.length c', .string name] (nb + 1) #[I (opn kd), .bool (calB kd), I (shLo kd), I (shHi kd)] (nb + 2) #[I l, I r] wr') (fun i _ => 2 - (intOf i).toNat)
      case atStart => exact ⟨0, by omega, rfl, HW1.out⟩
      case round =>
        obtain ⟨q, hq, rfl, hI⟩ := hrel
        have HWI := Lib.hid hI
        clear hI HW1
        have hq3 : q = 0 ∨ q = 1 ∨ q = 2 := by omega
        clear hq
        rcases hq3 with rfl | rfl | rfl
        · have o1 : wr.cell? ⟨nb + 2, 0, none⟩ = some (I l) := HWI.out.op.2 0
          have s1 : wr.cell? ⟨nb + 1, 0, none⟩ = some (I (opn kd)) := HWI.out.sh.2 0
          have n1 : wr.cell? ⟨nb, 0, none⟩ = some (I kd) := HWI.out.nd.2 0
          have HWI : Hid (WI w n tb ub us nb #[I kd, I cal, I l, I r, I nn, I m, .slice A' list.length c', .string name] (nb + 1) #[I (opn kd), .bool (calB kd), I (shLo kd), I (shHi kd)] (nb + 2) #[I l, I r] wr) := HWI
          rcases HN.out.opl with ⟨ho0, ho1, ho2⟩ | ⟨ho0, ho1⟩
          · simp only at ho1 ho2
            obtain ⟨on, hon⟩ := natOf ho1
            have u1 := HWI.out.wf.cell on (by omega)
            have uf := HWI.out.wf.froz on
            obtain ⟨u, hu⟩ : ∃ u, us[on]?.getD 0 = u := ⟨_, rfl⟩
            have hub2 : 0 ≤ u ∧ u ≤ 200 := by have := HLE.out on; rw [← hu]; omega
            have u1' : wr.cell? ⟨ub, on, none⟩ = some (I u) := by rw [← hu]; exact u1
            have hwu : IntKind.i64.wrap (u + 1) = u + 1 := by rw [IntKind.wrap_i64]; omega
            have hwk : IntKind.i64.wrap ((k : Int) - 1) = (k : Int) - 1 := by rw [IntKind.wrap_i64]; omega
            have i2 : (0 : Int) ≤ (on : Int) := by omega
            have i3 : (on : Int) < (n : Int) := by omega
            have HW2 := Lib.hid (HWI.out.put on (u + 1))
            have HU2 : Hid (us.set on (u + 1) = use0 ⟨kd, cal, l, r, nn, m, list, name⟩ us) := Lib.hid (by
              have e : use0 ⟨kd, cal, l, r, nn, m, list, name⟩ us = bump us on := by
                show (if 0 < opn ((kd : Int).toNat) then bump us l.toNat else us) = _
                rw [if_pos (by simpa using ho0), hon]; simp
              rw [e]; unfold bump; rw [hu])
            rw [hon] at o1 ho1 ho2
            clear hu u1 hon
            go_wp2_with (go_at_call 91; refine (ruWithin_yes _ _ _ _ (by omega) (by first | omega | (rw [IntKind.wrap_i64]; omega))).mono ?_; rintro e w9 ⟨rfl, rfl⟩)
            go_roundw
            case rel => exact ⟨1, by omega, by go_num, by have := HW2.out; rw [HU2.out] at this; exact this⟩
            case measure => simp [intOf]
          · simp only at ho1
            have HU2 : Hid (us = use0 ⟨kd, cal, l, r, nn, m, list, name⟩ us) := Lib.hid (by
              show _ = (if 0 < opn ((kd : Int).toNat) then bump us l.toNat else us)
              rw [if_neg (by simp; omega)])
            rcases ho1 with ho1 | ho1
            · rw [ho1] at o1
              rw [ho0] at s1
              go_wp2_with fail
              go_roundw
              case rel => exact ⟨1, by omega, by go_num, by have := HWI.out; rw [HU2.out] at this; exact this⟩
              case measure => simp [intOf]
            · by_cases hl0 : l = 0
              · rw [hl0] at o1
                rw [ho0] at s1
                go_wp2_with fail
                go_roundw
                case rel => exact ⟨1, by omega, by go_num, by have := HWI.out; rw [HU2.out] at this; exact this⟩
                case measure => simp [intOf]
              · have hl1 : (l != 0) = true := by simp [hl0]
                rw [ho0] at s1
                rw [ho1] at n1
                go_wp2_with fail
                go_roundw
                case rel => exact ⟨1, by omega, by go_num, by have := HWI.out; rw [HU2.out] at this; exact this⟩
                case measure => simp [intOf]
        · have o1 : wr.cell? ⟨nb + 2, 1, none⟩ = some (I r) := HWI.out.op.2 1
          have s1 : wr.cell? ⟨nb + 1, 0, none⟩ = some (I (opn kd)) := HWI.out.sh.2 0
          have n1 : wr.cell? ⟨nb, 0, none⟩ = some (I kd) := HWI.out.nd.2 0
          have HWI : Hid (WI w n tb ub (use0 ⟨kd, cal, l, r, nn, m, list, name⟩ us) nb #[I kd, I cal, I l, I r, I nn, I m, .slice A' list.length c', .string name] (nb + 1) #[I (opn kd), .bool (calB kd), I (shLo kd), I (shHi kd)] (nb + 2) #[I l, I r] wr) := HWI
          rcases HN.out.opr with ⟨ho0, ho1, ho2⟩ | ⟨ho0, ho1⟩
          · simp only at ho1 ho2
            obtain ⟨on, hon⟩ := natOf ho1
            have u1 := HWI.out.wf.cell on (by omega)
            have uf := HWI.out.wf.froz on
            obtain ⟨u, hu⟩ : ∃ u, (use0 ⟨kd, cal, l, r, nn, m, list, name⟩ us)[on]?.getD 0 = u := ⟨_, rfl⟩
            have hub2 : 0 ≤ u ∧ u ≤ 200 := by have := use0_le ⟨kd, cal, l, r, nn, m, list, name⟩ HLE.out on; rw [← hu]; omega
            have u1' : wr.cell? ⟨ub, on, none⟩ = some (I u) := by rw [← hu]; exact u1
            have hwu : IntKind.i64.wrap (u + 1) = u + 1 := by rw [IntKind.wrap_i64]; omega
            have hwk : IntKind.i64.wrap ((k : Int) - 1) = (k : Int) - 1 := by rw [IntKind.wrap_i64]; omega
            have i2 : (0 : Int) ≤ (on : Int) := by omega
            have i3 : (on : Int) < (n : Int) := by omega
            have HW2 := Lib.hid (HWI.out.put on (u + 1))
            have HU2 : Hid ((use0 ⟨kd, cal, l, r, nn, m, list, name⟩ us).set on (u + 1) = use1 ⟨kd, cal, l, r, nn, m, list, name⟩ (use0 ⟨kd, cal, l, r, nn, m, list, name⟩ us)) := Lib.hid (by
              have e : use1 ⟨kd, cal, l, r, nn, m, list, name⟩ (use0 ⟨kd, cal, l, r, nn, m, list, name⟩ us) = bump (use0 ⟨kd, cal, l, r, nn, m, list, name⟩ us) on := by
                show (if 1 < opn ((kd : Int).toNat) then bump (use0 ⟨kd, cal, l, r, nn, m, list, name⟩ us) r.toNat else (use0 ⟨kd, cal, l, r, nn, m, list, name⟩ us)) = _
                rw [if_pos (by simpa using ho0), hon]; simp
              rw [e]; unfold bump; rw [hu])
            rw [hon] at o1 ho1 ho2
            clear hu u1 hon
            go_wp2_with (go_at_call 91; refine (ruWithin_yes _ _ _ _ (by omega) (by first | omega | (rw [IntKind.wrap_i64]; omega))).mono ?_; rintro e w9 ⟨rfl, rfl⟩)
            go_roundw
            case rel => exact ⟨2, by omega, by go_num, by have := HW2.out; rw [HU2.out] at this; exact this⟩
            case measure => simp [intOf]
          · simp only at ho1
            have HU2 : Hid ((use0 ⟨kd, cal, l, r, nn, m, list, name⟩ us) = use1 ⟨kd, cal, l, r, nn, m, list, name⟩ (use0 ⟨kd, cal, l, r, nn, m, list, name⟩ us)) := Lib.hid (by
              show _ = (if 1 < opn ((kd : Int).toNat) then bump (use0 ⟨kd, cal, l, r, nn, m, list, name⟩ us) r.toNat else (use0 ⟨kd, cal, l, r, nn, m, list, name⟩ us))
              rw [if_neg (by simp; omega)])
            rw [ho1] at o1
            have ho3 : ¬ (1 : Int) < opn kd := by omega
            go_wp2_with fail
            go_roundw
            case rel => exact ⟨2, by omega, by go_num, by have := HWI.out; rw [HU2.out] at this; exact this⟩
            case measure => simp [intOf]
        · have HWI : Hid (WI w n tb ub (use1 ⟨kd, cal, l, r, nn, m, list, name⟩ (use0 ⟨kd, cal, l, r, nn, m, list, name⟩ us)) nb #[I kd, I cal, I l, I r, I nn, I m, .slice A' list.length c', .string name] (nb + 1) #[I (opn kd), .bool (calB kd), I (shLo kd), I (shHi kd)] (nb + 2) #[I l, I r] wr) := HWI
          rw [← HNX.out] at HWI
          have g0 : wr.cell? ⟨nb, 0, none⟩ = some (I kd) := HWI.out.nd.2 0
          have g1 : wr.cell? ⟨nb, 1, none⟩ = some (I cal) := HWI.out.nd.2 1
          have g6 : wr.cell? ⟨nb, 6, none⟩ = some (.slice A' list.length c') := HWI.out.nd.2 6
          have g7 : wr.cell? ⟨nb, 7, none⟩ = some (.string name) := HWI.out.nd.2 7
          have s1 : wr.cell? ⟨nb + 1, 1, none⟩ = some (.bool (calB kd)) := HWI.out.sh.2 1
          have s2 : wr.cell? ⟨nb + 1, 2, none⟩ = some (I (shLo kd)) := HWI.out.sh.2 2
          have s3 : wr.cell? ⟨nb + 1, 3, none⟩ = some (I (shHi kd)) := HWI.out.sh.2 3
          have HQ : Hid (∀ n', WI w n tb ub (usesTo ds n (k + 1)) nb #[I kd, I cal, I l, I r, I nn, I m, .slice A' list.length c', .string name] (nb + 1) #[I (opn kd), .bool (calB kd), I (shLo kd), I (shHi kd)] (nb + 2) #[I l, I r] (wr.drewN n')) := Lib.hid (fun n' => HWI.out.below (below_drewN' _ _))
          rcases HN.out.name with ⟨hk18, hnm⟩ | ⟨hk18, hnm⟩
          · simp only at hnm
            have hcb : calB kd = false := by rw [hk18]; rfl
            have hc0 : cal = 0 := by
              rcases HN.out.cal with ⟨h, _⟩ | ⟨_, h⟩
              · rw [hcb] at h; cases h
              · exact h
            rw [hcb] at s1
            rw [hc0] at g1
            have HNM := Lib.hid (fun W' => nameOK_good name hnm W')
            have g0' : wr.cell? ⟨nb, 0, none⟩ = some (I 18) := by rw [g0, hk18]; rfl
            clear hnm g0 hk18 hcb hc0
            go_wp2_with fail
            go_quiet (fail)
            go_wp2_with fail
            refine (HNM.out _).mono ?_
            rintro e w4 ⟨rfl, hb4⟩
            have H4 := Lib.hid ((HQ.out _).below hb4)
            have g6' : w4.cell? ⟨nb, 6, none⟩ = some (.slice A' list.length c') := H4.out.nd.2 6
            have s2' : w4.cell? ⟨nb + 1, 2, none⟩ = some (I (shLo kd)) := H4.out.sh.2 2
            have s3' : w4.cell? ⟨nb + 1, 3, none⟩ = some (I (shHi kd)) := H4.out.sh.2 3
            clear hb4
            go_wp2_with fail
            refine (HLO.out _ H4.out.wf.lo).mono ?_
            rintro e w5 ⟨rfl, hb5⟩
            have H5 := Lib.hid (H4.out.below hb5)
            have p0 : w5.cell? ⟨nb, 0, none⟩ = some (I kd) := H5.out.nd.2 0
            have p1 : w5.cell? ⟨nb, 1, none⟩ = some (I cal) := H5.out.nd.2 1
            have p2 : w5.cell? ⟨nb, 2, none⟩ = some (I l) := H5.out.nd.2 2
            have p3 : w5.cell? ⟨nb, 3, none⟩ = some (I r) := H5.out.nd.2 3
            have p4 : w5.cell? ⟨nb, 4, none⟩ = some (I nn) := H5.out.nd.2 4
            have p5 : w5.cell? ⟨nb, 5, none⟩ = some (I m) := H5.out.nd.2 5
            have p6 : w5.cell? ⟨nb, 6, none⟩ = some (.slice A' list.length c') := H5.out.nd.2 6
            have p7 : w5.cell? ⟨nb, 7, none⟩ = some (.string name) := H5.out.nd.2 7
            clear hb5
            go_wp2_with fail
            refine (HNU.out _).mono ?_
            rintro e w6 ⟨rfl, hb6⟩
            have H6 := Lib.hid (H5.out.below hb6)
            clear hb6
            go_wp2_with fail
            go_roundw
            case rel => exact ⟨k + 1, by omega, by go_num, H6.out.wf⟩
            case measure => simp [intOf]; omega
          · simp only at hnm
            have hk18' : ¬ (kd : Int) = 18 := by omega
            rw [hnm] at g7
            clear hnm hk18
            rcases HN.out.cal with ⟨hcb, hc1, hc2⟩ | ⟨hcb, hc0⟩
            · simp only at hc1 hc2
              rw [hcb] at s1
              clear hcb
              go_wp2_with fail
              go_quiet (fail)
              go_wp2_with (go_at_call 91; refine (ruWithin_yes _ _ _ _ (by omega) (by omega)).mono ?_; rintro e w9 ⟨rfl, rfl⟩)
              refine (HLO.out _ (HQ.out _).wf.lo).mono ?_
              rintro e w5 ⟨rfl, hb5⟩
              have H5 := Lib.hid ((HQ.out _).below hb5)
              have p0 : w5.cell? ⟨nb, 0, none⟩ = some (I kd) := H5.out.nd.2 0
              have p1 : w5.cell? ⟨nb, 1, none⟩ = some (I cal) := H5.out.nd.2 1
              have p2 : w5.cell? ⟨nb, 2, none⟩ = some (I l) := H5.out.nd.2 2
              have p3 : w5.cell? ⟨nb, 3, none⟩ = some (I r) := H5.out.nd.2 3
              have p4 : w5.cell? ⟨nb, 4, none⟩ = some (I nn) := H5.out.nd.2 4
              have p5 : w5.cell? ⟨nb, 5, none⟩ = some (I m) := H5.out.nd.2 5
              have p6 : w5.cell? ⟨nb, 6, none⟩ = some (.slice A' list.length c') := H5.out.nd.2 6
              have p7 : w5.cell? ⟨nb, 7, none⟩ = some (.string name) := H5.out.nd.2 7
              clear hb5
              go_wp2_with fail
              refine (HNU.out _).mono ?_
              rintro e w6 ⟨rfl, hb6⟩
              have H6 := Lib.hid (H5.out.below hb6)
              clear hb6
              go_wp2_with fail
              go_roundw
              case rel => exact ⟨k + 1, by omega, by go_num, H6.out.wf⟩
              case measure => simp [intOf]; omega
            · simp only at hc0
              rw [hcb] at s1
              rw [hc0] at g1
              clear hcb hc0
              go_wp2_with fail
              go_quiet (fail)
              go_wp2_with fail
              refine (HLO.out _ (HQ.out _).wf.lo).mono ?_
              rintro e w5 ⟨rfl, hb5⟩
              have H5 := Lib.hid ((HQ.out _).below hb5)
              have p0 : w5.cell? ⟨nb, 0, none⟩ = some (I kd) := H5.out.nd.2 0
              have p1 : w5.cell? ⟨nb, 1, none⟩ = some (I cal) := H5.out.nd.2 1
              have p2 : w5.cell? ⟨nb, 2, none⟩ = some (I l) := H5.out.nd.2 2
              have p3 : w5.cell? ⟨nb, 3, none⟩ = some (I r) := H5.out.nd.2 3
              have p4 : w5.cell? ⟨nb, 4, none⟩ = some (I nn) := H5.out.nd.2 4
              have p5 : w5.cell? ⟨nb, 5, none⟩ = some (I m) := H5.out.nd.2 5
              have p6 : w5.cell? ⟨nb, 6, none⟩ = some (.slice A' list.length c') := H5.out.nd.2 6
              have p7 : w5.cell? ⟨nb, 7, none⟩ = some (.string name) := H5.out.nd.2 7
              clear hb5
              go_wp2_with fail
              refine (HNU.out _).mono ?_
              rintro e w6 ⟨rfl, hb6⟩
              have H6 := Lib.hid (H5.out.below hb6)
              clear hb6
              go_wp2_with fail
              go_roundw
              case rel => exact ⟨k + 1, by omega, by go_num, H6.out.wf⟩
              case measure => simp [intOf]; omega
    · have hkn : k = n := by omega
      subst hkn
      have hwn : IntKind.i64.wrap ((k : Int) - 1) = ((k - 1 : Nat) : Int) := by rw [IntKind.wrap_i64]; omega
      have i2 : (0 : Int) ≤ ((k - 1 : Nat) : Int) := by omega
      have i3 : ((k - 1 : Nat) : Int) ≤ (k : Int) := by omega
      have HON : Hid (Ones wr (some ⟨ub, 0, none⟩) (k - 1)) := Lib.hid (.inr ⟨ub, rfl, fun j hj => by
        rw [HS.out.cell j (by omega), HU.out j (by omega)]; rfl⟩)
      go_wp2_with fail
      refine (hasOnes _ (k - 1) _ _ HON.out (by omega)).mono ?_
      rintro e w5 ⟨rfl, rfl⟩
      go_wp2_with fail
      go_ret
      exact ⟨rfl, HS.out.lo⟩
end Go.Proofs.YthhbbebabmemfaaGreat

/- number.Gcd, number.Lcm, civil.period, civil.Valid (where a calendar is valid). -/
namespace Go.Proofs.YthhbbebabmemfaaGreat
open Go Go.RowKit

set_option maxRecDepth 10000 in
theorem magnitude_nat (a : Nat) (ha : a ≤ 1000000) (w : World) : Calls Tryz.prog 106 #[I a] w fun e w' => e = .returned (.int .u64 a) ∧ w' = w := by
  have h0 : ¬ (a : Int) < 0 := by omega
  have hw : IntKind.u64.wrap (a : Int) = a := by rw [IntKind.wrap_u64]; omega
  go_enter Tryz.func106, Tryz.ntmps106
  go_wp2
  go_ret
  exact ⟨rfl, rfl⟩
def natOfU : Value → Nat
  | .int _ n => n.toNat
  | _ => 0
set_option maxRecDepth 10000 in
set_option maxHeartbeats 2000000 in
theorem gcd_nat (a b : Nat) (ha : a ≤ 1000000) (hb : b ≤ 1000000) (w : World) : Calls Tryz.prog 105 #[I a, I b] w fun e w' => e = .returned (I (Nat.gcd a b)) ∧ Below w.heap.size w w' := by
  go_enter Tryz.func105, Tryz.ntmps105
  go_wp2_with fail
  refine (magnitude_nat a ha _).mono ?_
  rintro e w1 ⟨rfl, rfl⟩
  go_wp2_with fail
  refine (magnitude_nat b hb _).mono ?_
  rintro e w2 ⟨rfl, rfl⟩
  go_wp2_with fail
  go_loopw [5, 6] (fun u v wr => ∃ x y : Nat, u = .int .u64 x ∧ v = .int .u64 y ∧ x ≤ 1000000 ∧ y ≤ 1000000 ∧ Nat.gcd x y = Nat.gcd a b ∧ Below w2.heap.size w2 wr) (fun _ v _ => natOfU v)
  case atStart => exact ⟨a, b, rfl, rfl, ha, hb, rfl, Below.refl _ _⟩
  case round =>
    obtain ⟨x, y, rfl, rfl, hx, hy, hg, hbe⟩ := hrel
    have HG := Lib.hid hg
    have HBE := Lib.hid hbe
    clear hg hbe
    by_cases hy0 : y = 0
    · subst hy0
      have hq : ¬ (9223372036854775807 : Int) < (x : Int) := by omega
      have hw : IntKind.i64.wrap (x : Int) = x := by rw [IntKind.wrap_i64]; omega
      go_wp2_with fail
      go_ret
      refine ⟨?_, HBE.out⟩
      have := HG.out
      rw [Nat.gcd_zero_right] at this
      rw [this]; rfl
    · have hy1 : ¬ (y : Int) = 0 := by omega
      have hy2 : ((y : Int) != 0) = true := by simp [hy0]
      have hlt : x % y < y := Nat.mod_lt _ (by omega)
      obtain ⟨z, hz⟩ : ∃ z, x % y = z := ⟨_, rfl⟩
      have hm : (x : Int) % (y : Int) = (z : Int) := by omega
      have hm2 : Int.tmod (x : Int) (y : Int) = (z : Int) := by rw [Int.tmod_eq_emod_of_nonneg (by omega)]; exact hm
      rw [hz] at hlt
      have HZ := Lib.hid hz
      have hw : IntKind.u64.wrap (z : Int) = (z : Int) := by rw [IntKind.wrap_u64]; omega
      clear hz
      go_wp2_with fail
      go_quiet (fail)
      go_wp2_with fail
      go_roundw
      case rel => exact ⟨y, z, rfl, by first | rfl | go_num, hy, by omega, by rw [← HG.out, Nat.gcd_comm x y, Nat.gcd_rec y x, Nat.gcd_comm, HZ.out], below_trans HBE.out (below_drewN' _ _)⟩
      case measure => simp [natOfU]; omega
set_option maxRecDepth 10000 in
set_option maxHeartbeats 2000000 in
theorem lcm_nat (a b : Nat) (ha : 1 ≤ a) (ha2 : a ≤ 400) (hb : 1 ≤ b) (hb2 : b ≤ 400) (w : World) : Calls Tryz.prog 103 #[I a, I b] w fun e w' => e = .returned (.tuple #[I (Nat.lcm a b), I 0]) ∧ Below w.heap.size w w' := by
  have HG := Lib.hid (gcd_nat a b (by omega) (by omega) w)
  have h1 : ¬ (a : Int) < 1 := by omega
  have h2 : ¬ (b : Int) < 1 := by omega
  have hgp : 0 < Nat.gcd a b := Nat.gcd_pos_of_pos_left _ ha
  have hl : a / Nat.gcd a b * b = Nat.lcm a b := by
    have e := Nat.lcm_eq_mul_div a b
    rw [e, Nat.div_mul_right_comm (Nat.gcd_dvd_left a b)]
  obtain ⟨g, hg⟩ : ∃ g, Nat.gcd a b = g := ⟨_, rfl⟩
  rw [hg] at HG hgp hl
  obtain ⟨r, hr⟩ : ∃ r, a / g = r := ⟨_, rfl⟩
  have hr4 : r ≤ 400 := by rw [← hr]; exact Nat.le_trans (Nat.div_le_self _ _) ha2
  have hq : Int.tdiv (a : Int) (g : Int) = (r : Int) := by rw [← hr]; rfl
  have hq' : (a : Int) / (g : Int) = (r : Int) := by rw [← hr]; rfl
  obtain ⟨t, ht⟩ : ∃ t, 1099511627776 / b = t := ⟨_, rfl⟩
  have ht4 : 400 ≤ t := by rw [← ht, Nat.le_div_iff_mul_le (by omega)]; omega
  have hq2 : Int.tdiv 1099511627776 (b : Int) = (t : Int) := by rw [← ht]; rfl
  have hq2' : (1099511627776 : Int) / (b : Int) = (t : Int) := by rw [← ht]; rfl
  have hbig : ¬ (t : Int) < (r : Int) := by omega
  have hwr : IntKind.i64.wrap (r : Int) = r := by rw [IntKind.wrap_i64]; omega
  have ht5 : t ≤ 1099511627776 := by rw [← ht]; exact Nat.div_le_self _ _
  have hwt : IntKind.i64.wrap (t : Int) = t := by rw [IntKind.wrap_i64]; omega
  rw [hr] at hl
  have hp : (r : Int) * (b : Int) = ((Nat.lcm a b : Nat) : Int) := by rw [← hl]; exact (Int.natCast_mul r b).symm
  have hlb : Nat.lcm a b ≤ 160000 := by rw [← hl]; exact Nat.mul_le_mul hr4 hb2
  obtain ⟨m, hm⟩ : ∃ m, Nat.lcm a b = m := ⟨_, rfl⟩
  rw [hm] at hp hlb ⊢
  have hwm : IntKind.i64.wrap (m : Int) = m := by rw [IntKind.wrap_i64]; omega
  have hg0 : ¬ (g : Int) = 0 := by omega
  have hb0 : ¬ (b : Int) = 0 := by omega
  clear hr ht hl hm hg
  go_enter Tryz.func103, Tryz.ntmps103
  go_wp2_with fail
  refine HG.out.mono ?_
  rintro e w1 ⟨rfl, hb1⟩
  have HB1 := Lib.hid hb1
  clear hb1
  go_wp2_with fail
  go_ret2
  exact ⟨rfl, HB1.out⟩
structure Lr where
  every : Int
  rest : Int
  yes : Bool
def Lr.cells (r : Lr) : List Value := [I r.every, I r.rest, .bool r.yes]
def LrsAt (w : World) (B : Nat) (A : Option Addr) (rs : List Lr) : Prop :=
  rs.length = 0 ∨ ∃ b, A = some ⟨b, 0, none⟩ ∧ b < B ∧ ∀ k x, rs[k]? = some x → w.rangeAt b (k * 3) x.cells
theorem LrsAt.keep {w w' : World} {B : Nat} {A : Option Addr} {rs : List Lr} (h : LrsAt w B A rs) (hb : Below B w w') : LrsAt w' B A rs := by
  rcases h with h | ⟨b, h1, h2, h3⟩
  · exact .inl h
  · exact .inr ⟨b, h1, h2, fun k x hx => rangeAt_keep (h3 k x hx) hb h2⟩
theorem LrsAt.more {w : World} {B B' : Nat} {A : Option Addr} {rs : List Lr} (h : LrsAt w B A rs) (hB : B ≤ B') : LrsAt w B' A rs := by
  rcases h with h | ⟨b, h1, h2, h3⟩
  · exact .inl h
  · exact .inr ⟨b, h1, by omega, h3⟩
def PerOK : Nat → List Lr → Prop
  | _, [] => True
  | y, r :: rs => ∃ e : Nat, r.every = e ∧ 1 ≤ e ∧ e ≤ 400 ∧ 0 ≤ r.rest ∧ r.rest < e ∧ 1 ≤ Nat.lcm y e ∧ Nat.lcm y e ≤ 400 ∧ PerOK (Nat.lcm y e) rs
set_option maxRecDepth 10000 in
set_option maxHeartbeats 2000000 in
theorem period_yes (A : Option Addr) (n c : Nat) (rs : List Lr) (w : World) (hA : LrsAt w w.heap.size A rs) (hl : rs.length = n) (hn : n ≤ 1000) (hp : PerOK 1 rs) :
    Calls Tryz.prog 97 #[.slice A n c] w fun e w' => (∃ y, e = .returned (.tuple #[I y, .bool true])) ∧ Below w.heap.size w w' := by
  have HA := Lib.hid hA
  have HL := Lib.hid hl
  have HP := Lib.hid hp
  clear hA hl hp
  go_enter Tryz.func97, Tryz.ntmps97
  go_wp2_with fail
  go_loopw [4, 11] (fun u i wr => ∃ k y : Nat, k ≤ n ∧ i = I k ∧ u = I y ∧ 1 ≤ y ∧ y ≤ 400 ∧ PerOK y (rs.drop k) ∧ Below w.heap.size w wr) (fun _ i _ => n - (intOf i).toNat)
  case atStart => exact ⟨0, 1, Nat.zero_le _, rfl, rfl, by omega, by omega, by simpa using HP.out, Below.refl _ _⟩
  case round =>
    obtain ⟨k, y, hk, rfl, rfl, hy1, hy2, hper, hbe⟩ := hrel
    have HBE := Lib.hid hbe
    by_cases hlt : k < n
    · have i0 : (0 : Int) ≤ (k : Int) := by omega
      have i1 : (k : Int) < (n : Int) := by omega
      have hkl : k < rs.length := by rw [HL.out]; exact hlt
      rw [List.drop_eq_getElem_cons hkl] at hper
      obtain ⟨e, he, h1, h2, h3, h4, h5, h6, h7⟩ := hper
      have hx : rs[k]? = some rs[k] := List.getElem?_eq_getElem hkl
      rcases (HA.out.keep hbe) with h | ⟨b, rfl, hb, hc⟩
      · omega
      have hr := hc k _ hx
      have hbl : b < wr.heap.size := Nat.lt_of_lt_of_le hb hbe.size
      generalize rs[k] = rk at he h3 h4 hr
      obtain ⟨ev, re, ye⟩ := rk
      simp only at he h3 h4
      subst he
      have f0 : wr.cell? ⟨b, k * 3, none⟩ = some (I e) := hr 0 _ rfl
      have f1 : wr.cell? ⟨b, k * 3 + 1, none⟩ = some (I re) := hr 1 _ rfl
      have f2 : wr.cell? ⟨b, k * 3 + 2, none⟩ = some (.bool ye) := hr 2 _ rfl
      have hne : ¬ b = wr.heap.size := by omega
      have q1 : ¬ (e : Int) < 1 := by omega
      have q2 : ¬ (400 : Int) < (e : Int) := by omega
      have q3 : ¬ re < 0 := by omega
      have q4 : ¬ (e : Int) ≤ re := by omega
      have H7 := Lib.hid h7
      have HB2 := Lib.hid (below_var wr (.cells #[I e, I re, .bool ye] 147))
      clear hr hc hx hbe h7
      go_wp2_with fail
      refine (lcm_nat y e hy1 hy2 h1 h2 _).mono ?_
      rintro x w5 ⟨rfl, hb5⟩
      have HB5 := Lib.hid (below_trans HB2.out hb5)
      obtain ⟨m, hm⟩ : ∃ m, Nat.lcm y e = m := ⟨_, rfl⟩
      rw [hm] at h5 h6 H7 ⊢
      have q5 : ¬ (400 : Int) < (m : Int) := by omega
      clear hb5 hm
      go_wp2_with fail
      go_roundw
      case rel => exact ⟨k + 1, m, by omega, by go_num, rfl, h5, h6, H7.out, below_trans HBE.out HB5.out⟩
      case measure => simp [intOf]; omega
    · clear hper hbe
      go_wp2_with fail
      go_ret2
      exact ⟨⟨_, rfl⟩, HBE.out⟩
end Go.Proofs.YthhbbebabmemfaaGreat

/- civil.Valid (where a calendar is valid). -/
namespace Go.Proofs.YthhbbebabmemfaaGreat
open Go Go.RowKit

structure Cal where
  epoch : Int
  months : List Int
  leap : Int
  rules : List Lr
structure CalOK (c : Cal) : Prop where
  ep : 0 ≤ c.epoch ∧ c.epoch ≤ 1048576
  mo : 1 ≤ c.months.length ∧ c.months.length ≤ 16
  le : 0 ≤ c.leap ∧ c.leap < c.months.length
  ru : c.rules.length ≤ 16
  all : ∀ m ∈ c.months, 1 ≤ m ∧ m ≤ 40
  per : PerOK 1 c.rules
def calCells (c : Cal) (A : Option Addr) (ca : Nat) (B : Option Addr) (cb : Nat) : Array Value := #[I c.epoch, .slice A c.months.length ca, I c.leap, .slice B c.rules.length cb]
attribute [local go_sem] calCells
set_option maxRecDepth 10000 in
set_option maxHeartbeats 2000000 in
theorem civilValid_yes (c : Cal) (A : Option Addr) (ca : Nat) (B : Option Addr) (cb : Nat) (w : World) (hA : IntsAt w w.heap.size A c.months) (hB : LrsAt w w.heap.size B c.rules) (h : CalOK c) :
    Calls Tryz.prog 78 #[.agg (calCells c A ca B cb)] w (Gives (.bool true) w) := by
  have HB0 := Lib.hid (below_var w (.cells (calCells c A ca B cb) 109))
  have HRW := Lib.hid (Row.new w (calCells c A ca B cb) 109)
  obtain ⟨ep, mo, le, ru⟩ := c
  have HPER := Lib.hid (fun w' hb => period_yes B ru.length cb ru w' ((hB.keep hb).more hb.size) rfl (by have := h.ru; simp only at this; omega) h.per)
  obtain ⟨⟨e1, e2⟩, ⟨m1, m2⟩, ⟨l1, l2⟩, r1, hall, hper⟩ := h
  simp only at e1 e2 m1 m2 l1 l2 r1 hall hA
  obtain ⟨b, off, rfl, hb, hc⟩ : ∃ b off, A = some ⟨b, off, none⟩ ∧ b < w.heap.size ∧ ∀ j, j < mo.length → w.cell? ⟨b, off + j, none⟩ = some (I (mo[j]?.getD 0)) := by
    rcases hA with h | h
    · omega
    · exact h
  have HC := Lib.hid hc
  have HALL := Lib.hid (fun k (hk : k < mo.length) => hall _ (List.getElem_mem hk))
  have q1 : ¬ ep < 0 := by omega
  have q2 : ¬ (1048576 : Int) < ep := by omega
  obtain ⟨n, hn⟩ : ∃ n, mo.length = n := ⟨_, rfl⟩
  obtain ⟨nr, hnr⟩ : ∃ nr, ru.length = nr := ⟨_, rfl⟩
  have q3 : ¬ (n : Int) < 1 := by omega
  have q4 : ¬ (16 : Int) < (n : Int) := by omega
  have q5 : ¬ le < -1 := by omega
  have q6 : ¬ (n : Int) ≤ le := by omega
  have q7 : ¬ (16 : Int) < (nr : Int) := by omega
  have q8 : (le == -1) = false := by simp; omega
  have hne : ¬ b = w.heap.size := by omega
  have HN := Lib.hid hn
  have e0 : (calCells ⟨ep, mo, le, ru⟩ (some ⟨b, off, none⟩) ca B cb) = #[I ep, .slice (some ⟨b, off, none⟩) n ca, I le, .slice B nr cb] := by rw [← hn, ← hnr]; rfl
  rw [e0] at HB0 HRW ⊢
  rw [hnr] at HPER
  clear hc hall hper hB hA e0 hn hnr
  go_enter Tryz.func78, Tryz.ntmps78
  go_wp2_with fail
  go_loopw [52] (fun i wr => ∃ k : Nat, k ≤ n ∧ i = I k ∧ wr = w.alloc (.cells #[I ep, .slice (some ⟨b, off, none⟩) n ca, I le, .slice B nr cb] 109)) (fun i _ => n - (intOf i).toNat)
  case atStart => exact ⟨0, Nat.zero_le _, rfl, rfl⟩
  case round =>
    obtain ⟨k, hk, rfl, rfl⟩ := hrel
    by_cases hlt : k < n
    · have i0 : (0 : Int) ≤ (k : Int) := by omega
      have i1 : (k : Int) < (n : Int) := by omega
      have hkm : k < mo.length := by rw [HN.out]; exact hlt
      have c1 := HC.out k hkm
      have hz := HALL.out k hkm
      rw [List.getElem?_eq_getElem hkm] at c1
      generalize mo[k] = z at c1 hz
      have c2 : w.cell? ⟨b, off + k, none⟩ = some (I z) := c1
      have q9 : ¬ z < 1 := by omega
      have q10 : ¬ (40 : Int) < z := by omega
      clear c1 hz
      go_wp2_with fail
      go_roundw
      case rel => exact ⟨k + 1, by omega, by go_num, by first | trivial | rfl⟩
      case measure => simp [intOf]; omega
    · go_wp2_with fail
      refine (HPER.out _ HB0.out).mono ?_
      rintro x w5 ⟨⟨y, rfl⟩, hb5⟩
      have HB5 := Lib.hid (below_trans HB0.out hb5)
      clear hb5
      go_wp2_with fail
      go_ret
      exact ⟨rfl, HB5.out⟩
end Go.Proofs.YthhbbebabmemfaaGreat

/- civil.Known for the three known calendars. -/
namespace Go.Proofs.YthhbbebabmemfaaGreat
open Go Go.RowKit

def solar : List Int := [31, 28, 31, 30, 31, 30, 31, 31, 30, 31, 30, 31]
def cal0 : Cal := ⟨7, solar, 1, [⟨4, 0, true⟩, ⟨100, 0, false⟩, ⟨400, 0, true⟩]⟩
def cal1 : Cal := ⟨5, solar, 1, [⟨4, 0, true⟩]⟩
def rests : List Int := [2, 5, 7, 10, 13, 16, 18, 21, 24, 26, 29]
def lunar : List Int := [30, 29, 30, 29, 30, 29, 30, 29, 30, 29, 30, 29]
def cal2 : Cal := ⟨227021, lunar, 11, rests.map fun r => ⟨30, r, true⟩⟩
theorem solar_ok : ∀ m ∈ solar, 1 ≤ m ∧ m ≤ 40 := by decide
theorem cal0_ok : CalOK cal0 := ⟨by decide, by decide, by decide, by decide, solar_ok, ⟨4, rfl, by decide, by decide, by decide, by decide, by decide, by decide, 100, rfl, by decide, by decide, by decide, by decide, by decide, by decide, 400, rfl, by decide, by decide, by decide, by decide, by decide, by decide, trivial⟩⟩
theorem cal1_ok : CalOK cal1 := ⟨by decide, by decide, by decide, by decide, solar_ok, ⟨4, rfl, by decide, by decide, by decide, by decide, by decide, by decide, trivial⟩⟩
theorem per30 : ∀ (l : List Int) (y : Nat), (y = 1 ∨ y = 30) → (∀ r ∈ l, 0 ≤ r ∧ r < 30) → PerOK y (l.map fun r => ⟨30, r, true⟩)
  | [], _, _, _ => trivial
  | r :: l, y, hy, h => by
    have hr := h r (by simp)
    have e : Nat.lcm y 30 = 30 := by rcases hy with rfl | rfl <;> decide
    exact ⟨30, rfl, by omega, by omega, hr.1, hr.2, by rw [e]; omega, by rw [e]; omega, by rw [e]; exact per30 l 30 (.inr rfl) (fun x hx => h x (by simp [hx]))⟩
theorem cal2_ok : CalOK cal2 := ⟨by decide, by decide, by decide, by decide, by decide, per30 rests 1 (.inl rfl) (by decide)⟩
/-- Rules in memory that is not older than block lo. -/
def LL (lo : Nat) (w : World) (A : Option Addr) (rs : List Lr) : Prop :=
  rs.length = 0 ∨ ∃ b, A = some ⟨b, 0, none⟩ ∧ lo ≤ b ∧ b < w.heap.size ∧ ∀ k x, rs[k]? = some x → w.rangeAt b (k * 3) x.cells
theorem LL.of_blocks {lo : Nat} {w w' : World} {A : Option Addr} {rs : List Lr} (h : LL lo w A rs) (hs : w.heap.size ≤ w'.heap.size) (hb : ∀ k, lo ≤ k → k < w.heap.size → w'.heap[k]? = w.heap[k]?) : LL lo w' A rs := by
  rcases h with h | ⟨b, hA, h1, h2, hc⟩
  · exact .inl h
  · exact .inr ⟨b, hA, h1, Nat.lt_of_lt_of_le h2 hs, fun k x hx j v hj => (World.cell?_of_block (a := ⟨b, k * 3 + j, none⟩) (hb b h1 h2)).trans (hc k x hx j v hj)⟩
theorem LL.lrs {lo : Nat} {w : World} {A : Option Addr} {rs : List Lr} (h : LL lo w A rs) : LrsAt w w.heap.size A rs := by
  rcases h with h | ⟨b, hA, h1, h2, hc⟩
  · exact .inl h
  · exact .inr ⟨b, hA, h2, hc⟩
theorem LL.lower {lo lo' : Nat} {w : World} {A : Option Addr} {rs : List Lr} (h : LL lo w A rs) (hl : lo' ≤ lo) : LL lo' w A rs := by
  rcases h with h | ⟨b, hA, h1, h2, hc⟩
  · exact .inl h
  · exact .inr ⟨b, hA, Nat.le_trans hl h1, h2, hc⟩
def KnownP (c : Cal) (w : World) (e : Ending) (w' : World) : Prop :=
  ∃ A ca B cb, e = .returned (.tuple #[.agg (calCells c A ca B cb), I 0]) ∧ LI w.heap.size w' A c.months ∧ LL w.heap.size w' B c.rules ∧ Below w.heap.size w w'
theorem ints_of_row {W : World} {lo b : Nat} {cs : Array Value} {zs : List Int} (h : Row W b cs) (hc : cs = (zs.map I).toArray) (hl : lo ≤ b) : LI lo W (some ⟨b, 0, none⟩) zs :=
  .inr ⟨b, 0, rfl, hl, h.1, fun j hj => by rw [Nat.zero_add, h.2 j, hc]; simp [hj]⟩
theorem lrs_get (rs : List Lr) (k i : Nat) (hi : i < 3) : (rs.flatMap Lr.cells)[k * 3 + i]? = (rs[k]?).bind fun x => x.cells[i]? := by
  induction rs generalizing k with
  | nil => simp
  | cons x r ih =>
    have hl : x.cells.length = 3 := rfl
    rw [List.flatMap_cons]
    cases k with
    | zero => rw [List.getElem?_append_left (by rw [hl]; omega)]; simp
    | succ k => rw [List.getElem?_append_right (by rw [hl]; omega), hl, show (k + 1) * 3 + i - 3 = k * 3 + i by omega, ih k]; simp
theorem lrs_of_row {W : World} {lo b : Nat} {cs : Array Value} {rs : List Lr} (h : Row W b cs) (hc : cs = (rs.flatMap Lr.cells).toArray) (hl : lo ≤ b) : LL lo W (some ⟨b, 0, none⟩) rs :=
  .inr ⟨b, rfl, hl, h.1, fun k x hx j v hv => by
    have hj : j < 3 := (List.getElem?_eq_some_iff.1 hv).1
    rw [h.2, hc, List.getElem?_toArray, lrs_get rs k j hj, hx]
    exact hv⟩
theorem cal_size (A B : Option Addr) (n ca m cb : Nat) (e l : Int) : (Tryz.prog.info? 109).map (·.size) = some (#[I e, .slice A n ca, I l, .slice B m cb] : Array Value).size := by kernel_rfl
theorem four (w : World) (c0 c1 c2 c3 : Array Value) (t0 t1 t2 t3 : TypeId) :
    ((((w.alloc (.cells c0 t0)).alloc (.cells c1 t1)).alloc (.cells c2 t2)).alloc (.cells c3 t3)).heap[w.heap.size]? = some (.cells c0 t0 (0, 0)) ∧
    Row ((((w.alloc (.cells c0 t0)).alloc (.cells c1 t1)).alloc (.cells c2 t2)).alloc (.cells c3 t3)) (w.heap.size + 1) c1 ∧
    ((((w.alloc (.cells c0 t0)).alloc (.cells c1 t1)).alloc (.cells c2 t2)).alloc (.cells c3 t3)).heap[w.heap.size + 1 + 1 + 1]? = some (.cells c3 t3 (0, 0)) ∧
    Row ((((w.alloc (.cells c0 t0)).alloc (.cells c1 t1)).alloc (.cells c2 t2)).alloc (.cells c3 t3)) (w.heap.size + 1 + 1 + 1) c3 ∧
    Below w.heap.size w ((((w.alloc (.cells c0 t0)).alloc (.cells c1 t1)).alloc (.cells c2 t2)).alloc (.cells c3 t3)) := by
  have b0 := below_var w (.cells c0 t0)
  have b1 := below_var (w.alloc (.cells c0 t0)) (.cells c1 t1)
  have b2 := below_var ((w.alloc (.cells c0 t0)).alloc (.cells c1 t1)) (.cells c2 t2)
  have b3 := below_var (((w.alloc (.cells c0 t0)).alloc (.cells c1 t1)).alloc (.cells c2 t2)) (.cells c3 t3)
  have r1 := Row.new (w.alloc (.cells c0 t0)) c1 t1
  have r3 := Row.new (((w.alloc (.cells c0 t0)).alloc (.cells c1 t1)).alloc (.cells c2 t2)) c3 t3
  have h3 := heap_alloc_last (((w.alloc (.cells c0 t0)).alloc (.cells c1 t1)).alloc (.cells c2 t2)) (.cells c3 t3)
  simp only [World.size_alloc] at r1 r3 h3 b1 b2 b3
  refine ⟨?_, (r1.keep (by simpa using b2)).keep (by simpa using b3), h3, r3, below_trans (below_trans (below_trans b0 (by simpa using b1)) (by simpa using b2)) (by simpa using b3)⟩
  rw [b3.block _ (by omega), b2.block _ (by omega), b1.block _ (by omega)]
  exact heap_alloc_last w _
set_option maxRecDepth 10000 in
set_option maxHeartbeats 2000000 in
theorem known0 (w : World) : Calls Tryz.prog 61 #[I 0] w (KnownP cal0 w) := by
  go_enter Tryz.func61, Tryz.ntmps61
  go_wp2_with fail
  obtain ⟨h0, r1, _, r3, hb⟩ := four w #[I 7, .slice (some ⟨w.heap.size + 1, 0, none⟩) 12 12, I 1, .slice (some ⟨w.heap.size + 1 + 1 + 1, 0, none⟩) 3 3] (solar.map I).toArray #[I 4, I 0, .bool true] (cal0.rules.flatMap Lr.cells).toArray 109 3 147 147
  refine bodyPost_ret (v := .tuple #[.agg (calCells cal0 (some ⟨w.heap.size + 1, 0, none⟩) 12 (some ⟨w.heap.size + 1 + 1 + 1, 0, none⟩) 3), I 0]) (results_row_tmp rfl _ _ w.heap.size _ #[I 7, .slice (some ⟨w.heap.size + 1, 0, none⟩) 12 12, I 1, .slice (some ⟨w.heap.size + 1 + 1 + 1, 0, none⟩) 3 3] (0, 0) _ rfl h0 Tryz.underlying109 rfl (cal_size _ _ _ _ _ _ _ _) _ rfl) rfl ?_
  exact ⟨_, _, _, _, rfl, ints_of_row r1 rfl (by omega), lrs_of_row r3 rfl (by omega), hb⟩
set_option maxRecDepth 10000 in
set_option maxHeartbeats 2000000 in
theorem known1 (w : World) : Calls Tryz.prog 61 #[I 1] w (KnownP cal1 w) := by
  go_enter Tryz.func61, Tryz.ntmps61
  go_wp2_with fail
  obtain ⟨h0, r1, _, r3, hb⟩ := four w #[I 5, .slice (some ⟨w.heap.size + 1, 0, none⟩) 12 12, I 1, .slice (some ⟨w.heap.size + 1 + 1 + 1, 0, none⟩) 1 1] (solar.map I).toArray #[I 4, I 0, .bool true] (cal1.rules.flatMap Lr.cells).toArray 109 3 147 147
  refine bodyPost_ret (v := .tuple #[.agg (calCells cal1 (some ⟨w.heap.size + 1, 0, none⟩) 12 (some ⟨w.heap.size + 1 + 1 + 1, 0, none⟩) 1), I 0]) (results_row_tmp rfl _ _ w.heap.size _ #[I 5, .slice (some ⟨w.heap.size + 1, 0, none⟩) 12 12, I 1, .slice (some ⟨w.heap.size + 1 + 1 + 1, 0, none⟩) 1 1] (0, 0) _ rfl h0 Tryz.underlying109 rfl (cal_size _ _ _ _ _ _ _ _) _ rfl) rfl ?_
  exact ⟨_, _, _, _, rfl, ints_of_row r1 rfl (by omega), lrs_of_row r3 rfl (by omega), hb⟩
end Go.Proofs.YthhbbebabmemfaaGreat
