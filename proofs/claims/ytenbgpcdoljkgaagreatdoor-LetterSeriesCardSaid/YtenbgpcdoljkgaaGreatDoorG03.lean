/- The texts MadeS, IntsEq, MadeD, MadeN, MadeM, MadeW, MadeC, MadeR, in this order. -/
import Derived.Test.YtenbgpcdoljkgaaGreatDoorG02
import Derived.Deep.AppendLies
import Derived.Deep.RegionLaw
import Derived.BigQuiet
import Derived.Deep.MidRow
/- kalendsref20.MadeSeries. -/
namespace Go.Proofs.YtenbgpcdoljkgaaGreatDoor
open Go Go.RowKit

theorem MKeep.putNew {mb : Nat} {w1 W : World} (h : MKeep mb w1 W) (b o : Nat) (u : Value) (hb : w1.heap.size ≤ b) : MKeep mb w1 (W.setCell ⟨b, o, none⟩ u) :=
  ⟨h.os, h.tape, h.output, by simpa [World.setCell] using h.size, fun k hk hn => (heap_setCell_other W _ k u (by show k ≠ b; omega)).trans (h.block k hk hn)⟩
def mvsCells (ms : List Mv) : List Value := ms.flatMap fun m => (mvCells m).toList
theorem mvsCells_len (ms : List Mv) : (mvsCells ms).length = ms.length * 5 := by
  induction ms with
  | nil => rfl
  | cons x ns ih => unfold mvsCells at ih ⊢; rw [List.flatMap_cons, List.length_append, ih, List.length_cons]; show 5 + _ = _; omega
theorem mvsCells_snoc (ms : List Mv) (m : Mv) : mvsCells (ms ++ [m]) = mvsCells ms ++ (mvCells m).toList := by simp [mvsCells]
def zSerC : Array Value := #[.slice none 0 0, I 0, I 0, .string ⟨#[]⟩, I 0, I 0, .slice none 0 0]
theorem info_move : (Tryz.prog.info? 25).map (fun i => (i.zero, i.size, i.bytes)) = some (some (.agg zMove), 5, 40) := by kernel_rfl
/-- A slice literal of one move, as a step. -/
theorem step_move_slice {o : Oper} {a : Act} {w : World} {K : Act → World → Prop} {Q : Exit → Act → World → Prop} (x : Operand) (ho : o.op = .buildSlice 28 1 #[(0, x)]) (m : Mv) (hx : a.eval x = .agg (mvCells m))
    (h : K (a.put o.dst (.slice (some ⟨w.heap.size, 0, none⟩) 1 1)) (w.alloc (.cells (mvCells m) 25))) : o.wp Tryz.prog a w K Q := by
  obtain ⟨i0, hi, hz0, hz1, hz2⟩ := info_parts info_move
  refine wp_buildSlice 28 25 1 _ ho (mvCells m) i0 (.agg zMove) Tryz.underlying28 hi hz0 (by rw [hz1]; decide) (by rw [hz1]; decide) ?_ h
  rw [hz1]
  simp only [List.map_toArray, List.map_cons, List.map_nil, hx]
  kernel_rfl
/-- append of one move, as a step. -/
theorem step_app_move {o : Oper} {a : Act} {w : World} {K : Act → World → Prop} {Q : Exit → Act → World → Prop} (s x : Operand)
    (ho : o.op = .call { callee := .builtin .append, args := #[s, x], argTypes := #[28, 28] }) (base : Nat) (v : Value) (ms : List Mv) (hs : a.eval s = v) (hown : w.ownsRow base 25 5 v ms.length (mvsCells ms)) (m : Mv)
    (hx : a.eval x = .slice (some ⟨w.heap.size, 0, none⟩) 1 1) (hn : ms.length ≤ 1000) (hb : base ≤ w.heap.size)
    (h : ∀ v' w', w'.ownsRow base 25 5 v' (ms.length + 1) (mvsCells (ms ++ [m])) → (w.alloc (.cells (mvCells m) 25)).grownBy w' v.ownBlock → K (a.put o.dst v') w') :
    o.wp Tryz.prog a (w.alloc (.cells (mvCells m) 25)) K Q := by
  obtain ⟨i0, hi, hz0, hz1, hz2⟩ := info_parts info_move
  obtain ⟨v', w', hr, h2, h3, h4, h5⟩ := run_append_own_at (P := Tryz.prog) (w.alloc (.cells (mvCells m) 25)) base 28 o.type 25 i0 (.agg zMove) 5 40 Tryz.underlying28 hi hz0 hz1 hz2 rfl (by decide) v ms.length (mvsCells ms) (hown.alloc _) ⟨w.heap.size, 0, none⟩ 1 1 (mvCells m).toList rfl (fun j u hu => by
      rw [addr_add, (Row.new w _ _).2 j]; simpa using hu) (by intro u hu; have := mv_one m; rw [Array.all_eq_true_iff_forall_mem] at this; exact this u (by simpa using hu)) (by unfold maxLen; omega) (by omega) (by simp; omega)
  unfold Oper.wp execOp
  simp only [ho, resolve, invoke, builtin, Sem.run_bind, Sem.run_pure, Result.andThen_ok, List.map_toArray, List.map_cons, List.map_nil, hs, hx, hr]
  exact h v' w' (by rw [mvsCells_snoc]; exact h2) h3
theorem GS.grown {t : TypeId} {z : Array Value} {w0 W w' : World} {mb a nd b4 b6 base e size n : Nat} {xs : List Int} {cs : Array Value} {v : Value} {ys : List Value} {o : Obj} (h : GS t z w0 mb xs a nd b4 b6 cs W) (hown : W.ownsRow base e size v n ys) (hb : b6 < base) (hg : (W.alloc o).grownBy w' v.ownBlock) : GS t z w0 mb xs a nd b4 b6 cs w' := by
  have h1 := h.hm
  have h2 := h.lo
  have h3 := h.ne
  have h4 := h.lt
  have hs := h.keep.size
  have hB : ∀ k, k < W.heap.size → k < base → w'.heap[k]? = W.heap[k]? := fun k hk hkb => by rw [hg.block k (by simp; omega) (own_ge hown k hkb), Below.heap_alloc W o k hk]
  refine ⟨h.hm, (mk_grown h.mkr hown (by omega) hg).1, ⟨hg.os.trans h.keep.os, hg.tape.trans h.keep.tape, hg.output.trans h.keep.output, by have := hg.size; simp at this; omega, fun k hk hn => (hB k (by omega) (by omega)).trans (h.keep.block k hk hn)⟩, h.lo, h.ne, (hB b4 (by omega) (by omega)).trans h.res, (hB b6 h4 hb).trans h.var⟩
structure MvsOK (ms : List Mv) (dd : Int) : Prop where
  ok : ∀ m ∈ ms, MoveOK m.day m ∧ 0 ≤ m.day ∧ m.day < dd
  up : ms.Pairwise fun a b => a.day < b.day
theorem MvsOK.more {ms : List Mv} {dd r : Int} {m : Mv} (h : MvsOK ms dd) (hm : MoveOK dd m) (h0 : 0 ≤ dd) (hr : 0 ≤ r) : MvsOK (ms ++ [m]) (dd + 1 + r) := by
  have e : m.day = dd := hm.1
  refine ⟨fun x hx => ?_, ?_⟩
  · rcases List.mem_append.1 hx with hx | hx
    · have := h.ok x hx; exact ⟨this.1, this.2.1, by omega⟩
    · rw [List.mem_singleton.1 hx]; exact ⟨by rw [e]; exact hm, by omega, by omega⟩
  · rw [List.pairwise_append]
    exact ⟨h.up, List.pairwise_singleton _ _, fun a ha b hb => by rw [List.mem_singleton.1 hb, e]; exact (h.ok a ha).2.2⟩
def serA (v : Value) (mi le : Int) (zv : ByteArray) (gp fo : Int) (vm : Value) : Array Value := #[v, I mi, I (1 + le), .string zv, I gp, I fo, vm]
def MsRel (w w1 : World) (mb : Nat) (xs : List Int) (n1 a0 : Nat) (v : Value) (mi le : Int) (zv : ByteArray) (gp fo kk : Int) (d i : Value) (wr : World) : Prop :=
  ∃ (j : Nat) (dd : Int) (ms : List Mv) (a' : Nat) (vm : Value), (j : Int) ≤ kk ∧ i = I j ∧ d = I dd ∧ 0 ≤ dd ∧ dd ≤ 20 + 10 * j ∧ ms.length = j ∧ MvsOK ms dd ∧ a' ≤ a0 + 5 * j ∧
    GS 30 zSerC w mb xs a' n1 w.heap.size w1.heap.size (serA v mi le zv gp fo vm) wr ∧ wr.ownsRow (w1.heap.size + 1) 25 5 vm ms.length (mvsCells ms) ∧ MKeep mb w1 wr
theorem cells_newM {w : World} {t : TypeId} (m : Mv) : ∀ j u, (mvCells m).toList[j]? = some u → (w.alloc (.cells (mvCells m) t)).cell? ((⟨w.heap.size, 0, none⟩ : Addr).add j) = some u := by
  intro j u hu
  rw [addr_add, (Row.new w _ t).2 j]
  simpa using hu
theorem moves_ok (m : Mv) : ∀ u ∈ (mvCells m).toList, u.oneCell' = true := by
  intro u hu
  have := mv_one m
  rw [Array.all_eq_true_iff_forall_mem] at this
  exact this u (by simpa using hu)
attribute [local go_sem] mvCells
def ZoneOK (z : ByteArray) : Prop := z = ⟨#[122]⟩ ∨ z = ⟨#[69, 97, 114, 116, 104, 47, 78, 111, 114, 116, 104]⟩ ∨ z = ⟨#[117, 116, 99, 45, 50]⟩ ∨ z = ⟨#[120, 32, 121]⟩
/-- What 'MadeSeries' gives: a rule and moves in memory of the call's own, numbers in their ranges. -/
structure SerMade (w : World) (ns : List NdV) (ms : List Mv) (mi ln : Int) (zv : ByteArray) (gp fo : Int) (vr vm : Value) (w' : World) : Prop where
  rule : RuleIs (w.heap.size + 1) w' vr ns
  made : MRule 3 ns
  len : ns.length ≤ 16
  within : Within 2002 ns
  moves : w'.ownsRow (w.heap.size + 1) 25 5 vm ms.length (mvsCells ms)
  mok : ∃ dd, dd ≤ 100 ∧ MvsOK ms dd
  mlen : ms.length ≤ 2
  min : 0 ≤ mi ∧ mi < 1440
  lng : 1 ≤ ln ∧ ln ≤ 200
  zone : ZoneOK zv
  gap : 0 ≤ gp ∧ gp < 3
  fold : 0 ≤ fo ∧ fo < 3
def Seried (w : World) (mb : Nat) (xs : List Int) (at_ nodes : Nat) (e : Ending) (w' : World) : Prop :=
  ∃ ns ms mi ln zv gp fo vr vm a' n', e = .returned (.agg #[vr, I mi, I ln, .string zv, I gp, I fo, vm]) ∧ SerMade w ns ms mi ln zv gp fo vr vm w' ∧ MkSt w' mb xs a' n' ∧ a' ≤ at_ + 400 ∧ n' ≤ nodes + 16 ∧ MKeep mb w w'
theorem ser_size (v vm : Value) (mi le : Int) (zv : ByteArray) (gp fo : Int) : (Tryz.prog.info? 30).map (·.size) = some (serA v mi le zv gp fo vm).size := by kernel_rfl
theorem ser_one (A A' : Option Addr) (n c n' c' : Nat) (mi le : Int) (zv : ByteArray) (gp fo : Int) : (serA (.slice A n c) mi le zv gp fo (.slice A' n' c')).all (·.oneCell') = true := by kernel_rfl
theorem own_slice {w : World} {base e size n : Nat} {v : Value} {xs : List Value} (h : w.ownsRow base e size v n xs) : ∃ A m c, v = .slice A m c := by
  rcases h.2 with ⟨rfl, _⟩ | ⟨g, cap, cur, rfl, _⟩
  · exact ⟨_, _, _, rfl⟩
  · exact ⟨_, _, _, rfl⟩
set_option maxRecDepth 10000 in
set_option maxHeartbeats 4000000 in
theorem madeSeries_any (w : World) (mb : Nat) (xs : List Int) (at_ nodes : Nat) (h : MkSt w mb xs at_ nodes) (hx : XsOK xs) (hat : at_ ≤ 100000) (hnd : nodes ≤ 100000) :
    Calls Tryz.prog 18 #[pt mb] w (Seried w mb xs at_ nodes) := by
  have HM0 := Lib.hid (h.grow (below_var w (.cells zSerC 30)))
  have hml := h.lt
  obtain ⟨i0, hi, hz0, hz1, hz2⟩ := info_parts info_move
  clear h
  go_enter Tryz.func18, Tryz.ntmps18
  go_wp2_with fail
  refine (rule_any xs hx 3 (by omega) (by omega) 2 (by omega) _ mb at_ nodes HM0.out (by omega) (by omega)).mono ?_
  rintro e w1 ⟨ns, v, a1, n1, rfl, hl1, hl2, hmr, hwi, hru, hm1, ha1, hn1, hk1⟩
  rw [World.size_alloc] at hru
  obtain ⟨gr, cr, rfl, hgr1, hgr2, -⟩ := hru.form (by intro e; rw [e] at hl1; exact absurd hl1 (Nat.lt_irrefl _))
  have HRU := Lib.hid hru
  have HMR := Lib.hid hmr
  have hm1lt : mb < w1.heap.size := hm1.lt
  have G0 : Hid (GS 30 zSerC w mb xs a1 n1 w.heap.size w1.heap.size #[.slice (some ⟨gr, 0, none⟩) ns.length cr, I 0, I 0, .string ⟨#[]⟩, I 0, I 0, .slice none 0 0] (w1.alloc (.cells #[.slice (some ⟨gr, 0, none⟩) ns.length cr, I 0, I 0, .string ⟨#[]⟩, I 0, I 0, .slice none 0 0] 30))) := Lib.hid (GS.start hm1 hml hk1)
  have KP := Lib.hid (MKeep.of_below (mb := mb) (below_var w1 (.cells #[.slice (some ⟨gr, 0, none⟩) ns.length cr, I 0, I 0, .string ⟨#[]⟩, I 0, I 0, .slice none 0 0] 30)))
  have hns : ns.length ≤ 16 := hl2
  have ha1' : a1 ≤ 101000 := by omega
  have HA1 : Hid (a1 ≤ at_ + 320) := Lib.hid ha1
  have HN1 : Hid (n1 ≤ nodes + 16) := Lib.hid hn1
  have HWI : Hid (Within 2002 ns) := Lib.hid hwi
  clear hru hmr hwi hm1 hk1 hl2 ha1 hn1
  go_wp2_with fail
  refine (G0.out.pick hx 1440 (by omega) (by omega) (by omega)).mono ?_
  rintro e w2 ⟨mi, rfl, mi1, mi2, G1k, G1s⟩
  have G1c := G1s.cell
  have G1f := G1s.froz
  have G1 := Lib.hid (G1s.store 1 (I mi))
  have KP := Lib.hid ((KP.out.trans G1k).putNew w1.heap.size 1 (I mi) (Nat.le_refl _))
  clear G1k G1s
  go_wp2_with fail
  clear G1c G1f
  refine (G1.out.pick hx 200 (by omega) (by omega) (by omega)).mono ?_
  rintro e w3 ⟨le, rfl, le1, le2, G2k, G2s⟩
  have G2c := G2s.cell
  have G2f := G2s.froz
  have G2 := Lib.hid (G2s.store 2 (I (1 + le)))
  have KP := Lib.hid ((KP.out.trans G2k).putNew w1.heap.size 2 (I (1 + le)) (Nat.le_refl _))
  clear G2k G2s
  go_wp2_with fail
  clear G2c G2f
  have HZR := Lib.hid (Row.new (w3.setCell ⟨w1.heap.size, 2, none⟩ (I (1 + le))) #[.string ⟨#[122]⟩, .string ⟨#[69, 97, 114, 116, 104, 47, 78, 111, 114, 116, 104]⟩, .string ⟨#[117, 116, 99, 45, 50]⟩, .string ⟨#[120, 32, 121]⟩] 9)
  have GZ := Lib.hid (G2.out.step (G2.out.mkr.grow (below_var _ (.cells #[.string ⟨#[122]⟩, .string ⟨#[69, 97, 114, 116, 104, 47, 78, 111, 114, 116, 104]⟩, .string ⟨#[117, 116, 99, 45, 50]⟩, .string ⟨#[120, 32, 121]⟩] 9))) (MKeep.of_below (below_var _ (.cells #[.string ⟨#[122]⟩, .string ⟨#[69, 97, 114, 116, 104, 47, 78, 111, 114, 116, 104]⟩, .string ⟨#[117, 116, 99, 45, 50]⟩, .string ⟨#[120, 32, 121]⟩] 9))))
  have KP := Lib.hid (KP.out.trans (MKeep.of_below (below_var _ (.cells #[.string ⟨#[122]⟩, .string ⟨#[69, 97, 114, 116, 104, 47, 78, 111, 114, 116, 104]⟩, .string ⟨#[117, 116, 99, 45, 50]⟩, .string ⟨#[120, 32, 121]⟩] 9))))
  refine (GZ.out.pick hx 4 (by omega) (by omega) (by omega)).mono ?_
  rintro e w4 ⟨zi, rfl, z1, z2, G3k, G3s⟩
  obtain ⟨zn, rfl⟩ := Int.eq_ofNat_of_zero_le z1
  have hzn : zn < 4 := by omega
  have hsz3 : (w3.setCell ⟨w1.heap.size, 2, none⟩ (I (1 + le))).heap.size = w3.heap.size := by simp [World.setCell]
  rw [hsz3] at HZR
  have hz3 : mb < w3.heap.size := by have := G2.out.mkr.lt; rw [hsz3] at this; exact this
  obtain ⟨zv, hzv, hzok⟩ : ∃ zv, (#[.string ⟨#[122]⟩, .string ⟨#[69, 97, 114, 116, 104, 47, 78, 111, 114, 116, 104]⟩, .string ⟨#[117, 116, 99, 45, 50]⟩, .string ⟨#[120, 32, 121]⟩] : Array Value)[zn]? = some (.string zv) ∧ ZoneOK zv := by
    match zn, hzn with
    | 0, _ => exact ⟨_, rfl, .inl rfl⟩
    | 1, _ => exact ⟨_, rfl, .inr (.inl rfl)⟩
    | 2, _ => exact ⟨_, rfl, .inr (.inr (.inl rfl))⟩
    | 3, _ => exact ⟨_, rfl, .inr (.inr (.inr rfl))⟩
  have hzc : w4.cell? ⟨w3.heap.size, zn, none⟩ = some (.string zv) := (World.cell?_of_block (a := ⟨w3.heap.size, zn, none⟩) (G3k.block _ HZR.out.1 (by show w3.heap.size ≠ mb; omega))).trans ((HZR.out.2 zn).trans hzv)
  have hznI : (zn : Int) < 4 := by omega
  have HZOK := Lib.hid hzok
  have G3c := G3s.cell
  have G3f := G3s.froz
  have G3 := Lib.hid (G3s.store 3 (.string zv))
  have KP := Lib.hid ((KP.out.trans G3k).putNew w1.heap.size 3 (.string zv) (Nat.le_refl _))
  clear G3k G3s hzv hzok hsz3 HZR z1 z2
  go_wp2_with fail
  clear G3c G3f hzc
  refine (G3.out.pick hx 3 (by omega) (by omega) (by omega)).mono ?_
  rintro e w5 ⟨gp, rfl, gp1, gp2, G4k, G4s⟩
  have G4c := G4s.cell
  have G4f := G4s.froz
  have G4 := Lib.hid (G4s.store 4 (I gp))
  have KP := Lib.hid ((KP.out.trans G4k).putNew w1.heap.size 4 (I gp) (Nat.le_refl _))
  clear G4k G4s
  go_wp2_with fail
  clear G4c G4f
  refine (G4.out.pick hx 3 (by omega) (by omega) (by omega)).mono ?_
  rintro e w6 ⟨fo, rfl, fo1, fo2, G5k, G5s⟩
  have G5c := G5s.cell
  have G5f := G5s.froz
  have G5 := Lib.hid (G5s.store 5 (I fo))
  have KP := Lib.hid ((KP.out.trans G5k).putNew w1.heap.size 5 (I fo) (Nat.le_refl _))
  clear G5k G5s
  go_wp2_with fail
  clear G5c G5f
  refine (G5.out.pick hx 20 (by omega) (by omega) (by omega)).mono ?_
  rintro e w7 ⟨dy, rfl, dy1, dy2, G6k, G6s⟩
  have G6 := Lib.hid G6s
  have KP := Lib.hid (KP.out.trans G6k)
  clear G6k G6s
  go_wp2_with fail
  refine (G6.out.pick hx 3 (by omega) (by omega) (by omega)).mono ?_
  rintro e w8 ⟨kk, rfl, kk1, kk2, G7k, G7s⟩
  have G7 := Lib.hid G7s
  have KP := Lib.hid (KP.out.trans G7k)
  clear G7k G7s
  go_wp2_with fail
  have hg7 : w1.heap.size + 1 ≤ w8.heap.size := G7.out.lt
  have GL : Hid (GS 30 zSerC w mb xs _ n1 w.heap.size w1.heap.size (serA (.slice (some ⟨gr, 0, none⟩) ns.length cr) mi le zv gp fo (.slice none 0 0)) w8) := Lib.hid G7.out
  clear G0 G1 G2 GZ G3 G4 G5 G6 G7 HM0
  go_loopw [5, 7] (fun d i wr => MsRel w w1 mb xs n1 (a1 + 20) (.slice (some ⟨gr, 0, none⟩) ns.length cr) mi le zv gp fo kk d i wr) (fun _ i _ => (kk - intOf i).toNat)
  case atStart => exact ⟨0, dy, [], _, .slice none 0 0, by omega, rfl, rfl, dy1, by omega, rfl, ⟨(fun m hm => nomatch hm), List.Pairwise.nil⟩, by omega, GL.out, World.ownsRow_nil _ _ _ _, KP.out⟩
  case round =>
    obtain ⟨j, dd, ms, a', vm, hj, rfl, rfl, hd1, hd2, hms, hmok, ha', hgs, hown, hkp⟩ := hrel
    have HG := Lib.hid hgs
    have HO := Lib.hid hown
    have HKP := Lib.hid hkp
    have HOK := Lib.hid hmok
    have hc := hgs.cell
    have hlt6 := hgs.lt
    have hml2 : ms.length ≤ 2 := by omega
    have HMS := Lib.hid hms
    clear hgs hown hkp hmok GL KP hms
    by_cases hlt : (j : Int) < kk
    · have hc6 : wr.cell? ⟨w1.heap.size, 6, none⟩ = some vm := hc 6
      clear hc
      have HGD : Hid (GS 30 zSerC w mb xs a' n1 w.heap.size w1.heap.size (serA (.slice (some ⟨gr, 0, none⟩) ns.length cr) mi le zv gp fo vm) wr.drew) := Lib.hid ⟨HG.out.hm, HG.out.mkr, HG.out.keep.draw, HG.out.lo, HG.out.ne, HG.out.res, HG.out.var⟩
      have HOD : Hid (wr.drew.ownsRow (w1.heap.size + 1) 25 5 vm ms.length (mvsCells ms)) := Lib.hid HO.out
      have HKD := Lib.hid HKP.out.draw
      go_wp2_with fail
      clear HG HO HKP
      go_region_law (first
        | (refine step_append_lies _ (by rfl) _ _ _ (by rfl) (w1.heap.size + 1) 25 i0 (.agg zMove) 5 40 Tryz.underlying28 hi hz0 hz1 hz2 rfl (by omega) vm ms.length (mvsCells ms) (by rfl) (HO5.out.alloc _) ⟨w5.heap.size, 0, none⟩ 1 1 (mvCells m).toList (by rfl) rfl (cells_newM m) (moves_ok m) (by omega) (by unfold maxLen; omega) (by omega) (by simp; omega) _ rfl ?_; intro gg cap w6 hown6 hgrow6 hat6 hlt6'; have HG6 := Lib.hid (HS5.out.grown HO5.out (Nat.lt_succ_self _) hgrow6); have HK6 := Lib.hid (mkeep_grown HK5.out (ownsRow_base' HO5.out (Nat.le_succ _)) hgrow6); have HO6 := Lib.hid hown6; have hc66 : w6.cell? ⟨w1.heap.size, 6, none⟩ = some vm := HG6.out.cell 6; have hf66 := HG6.out.froz 6; clear hown6 hgrow6 hat6)
        | (go_simp; go_at_call 53; refine (madeMove_any _ mb xs a' n1 dd HGD.out.mkr hx (by omega)).mono ?_; rintro e w5 ⟨m, a5, rfl, hmv, hm5, ha5, hk5⟩; have HS5 := Lib.hid (HGD.out.step hm5 hk5); have hc5 : w5.cell? ⟨w1.heap.size, 6, none⟩ = some vm := HS5.out.cell 6; have hl5 := HS5.out.lt; have HO5 := Lib.hid (ownsRow_mkeep HOD.out hk5 (by omega)); have HK5 := Lib.hid (HKD.out.trans hk5); have HMV := Lib.hid hmv; have HA5 := Lib.hid ha5; clear hmv hm5 ha5 hk5))
      all_goals
        go_wp2_with fail
        have HG7 := Lib.hid (HG6.out.store 6 (.slice (some ⟨gg, 0, none⟩) (ms.length + 1) cap))
        have HK7 := Lib.hid (HK6.out.putNew w1.heap.size 6 (.slice (some ⟨gg, 0, none⟩) (ms.length + 1) cap) (Nat.le_refl _))
        have HO7 := Lib.hid (ownsRow_setCell_below (a := ⟨w1.heap.size, 6, none⟩) HO6.out (Nat.lt_succ_self _) (.slice (some ⟨gg, 0, none⟩) (ms.length + 1) cap))
        refine (HG7.out.pick hx 9 (by have := HA5.out; omega) (by omega) (by omega)).mono ?_
        rintro e w9 ⟨r, rfl, hr1, hr2, hk9, hg9⟩
        have HG9 := Lib.hid hg9
        have HO9 := Lib.hid (ownsRow_mkeep HO7.out hk9 (by omega))
        have HK9 := Lib.hid (HK7.out.trans hk9)
        clear hk9 hg9
        go_wp2_with fail
        go_roundw
        case rel => exact ⟨j + 1, _, ms ++ [m], a5 + 1, _, by omega, by go_num, by first | rfl | go_num, by omega, by push_cast; omega, by rw [List.length_append, HMS.out]; rfl, HOK.out.more HMV.out hd1 hr1, by have := HA5.out; omega, HG9.out, by rw [mvsCells_snoc, List.length_append]; exact HO9.out, HK9.out⟩
        case measure => simp [intOf]; omega
    · obtain ⟨Am, mm, cm, rfl⟩ := own_slice HO.out
      have HRW := Lib.hid HG.out.row
      go_wp2_with (first
        | (with_reducible refine g_load 30 ?_; refine wpList_load_Row rfl _ _ rfl w1.heap.size rfl (serA (.slice (some ⟨gr, 0, none⟩) ns.length cr) mi le zv gp fo (.slice Am mm cm)) HRW.out _ Tryz.underlying30 rfl (ser_size _ _ _ _ _ _ _) ?_)
        | (with_reducible refine g_store 30 ?_; refine wpList_store_row rfl _ _ _ rfl w.heap.size (serA (.slice (some ⟨gr, 0, none⟩) ns.length cr) mi le zv gp fo (.slice Am mm cm)) rfl rfl 30 zSerC HG.out.res (ser_size _ _ _ _ _ _ _) rfl (ser_one _ _ _ _ _ _ _ _ _ _ _) ?_))
      have hsz := HKP.out.size
      have hsm : SerMade w ns ms mi (1 + le) zv gp fo (.slice (some ⟨gr, 0, none⟩) ns.length cr) (.slice Am mm cm) (wr.setRow w.heap.size (serA (.slice (some ⟨gr, 0, none⟩) ns.length cr) mi le zv gp fo (.slice Am mm cm))) :=
        { rule := (HRU.out.mkeep HKP.out (by omega)).of_blocks (by simp) fun k hk _ => setRow_other _ _ k _ (by omega)
          made := HMR.out, len := hns, within := HWI.out
          moves := ownsRow_base' (ownsRow_blocks HO.out fun k hk _ => setRow_other _ _ k _ (by omega)) (by omega)
          mok := ⟨dd, by omega, HOK.out⟩, mlen := by omega, min := ⟨mi1, mi2⟩, lng := ⟨by omega, by omega⟩, zone := HZOK.out, gap := ⟨gp1, gp2⟩, fold := ⟨fo1, fo2⟩ }
      exact bodyPost_ret (v := .agg (serA (.slice (some ⟨gr, 0, none⟩) ns.length cr) mi le zv gp fo (.slice Am mm cm))) (results_cell_row rfl _ _ w.heap.size _ (serA (.slice (some ⟨gr, 0, none⟩) ns.length cr) mi le zv gp fo (.slice Am mm cm)) (0, 0) _ rfl (setRow_heap _ _ _ _ _ _ HG.out.res) Tryz.underlying30 rfl (ser_size _ _ _ _ _ _ _)) rfl ⟨ns, ms, mi, 1 + le, zv, gp, fo, _, _, a', n1, rfl, hsm, HG.out.fin.1, by have := HA1.out; omega, HN1.out, HG.out.fin.2⟩
end Go.Proofs.YtenbgpcdoljkgaaGreatDoor

/- Equality of lists of numbers: kalendsref20.SameInts, slices.Equal. -/
namespace Go.Proofs.YtenbgpcdoljkgaaGreatDoor
open Go Go.RowKit

theorem beq_takeI (xs ys : List Int) (hl : xs.length = ys.length) : (∀ j, j < xs.length → xs[j]?.getD 0 = ys[j]?.getD 0) ↔ xs = ys := by
  constructor
  · intro h
    apply List.ext_getElem hl
    intro i h1 h2
    have := h i h1
    simpa [h1, h2] using this
  · rintro rfl _ _; rfl
def SameRelI (n : Nat) (xs ys : List Int) (i : Value) : Prop := ∃ k : Nat, k ≤ n ∧ i = .int .i64 k ∧ ∀ j, j < k → xs[j]?.getD 0 = ys[j]?.getD 0
theorem ints_ne {x y : Int} (h : x ≠ y) : (x != y) = true := by rw [neq_dec]; exact decide_eq_true h
theorem ints_same (x : Int) : (x != x) = false := by rw [neq_dec]; exact decide_eq_false (by omega)
set_option maxRecDepth 10000 in
set_option maxHeartbeats 1000000 in
theorem sameInts_ne (A B : Option Addr) (n m c d : Nat) (w : World) (h : n ≠ m) :
    Calls Tryz.prog 45 #[.slice A n c, .slice B m d] w fun e w' => e = .returned (.bool false) ∧ w = w' := by
  have hb : ((n : Int) != (m : Int)) = true := by rw [neq_dec]; exact decide_eq_true (by omega)
  go_enter Tryz.func45, Tryz.ntmps45
  go_wp2
  go_ret
  exact ⟨rfl, rfl⟩
set_option maxRecDepth 10000 in
set_option maxHeartbeats 1000000 in
theorem sameInts_some (b1 o1 b2 o2 n c d : Nat) (xs ys : List Int) (hx : xs.length = n) (hy : ys.length = n) (w : World) (hA : ∀ j, j < n → w.cell? ⟨b1, o1 + j, none⟩ = some (I (xs[j]?.getD 0))) (hB : ∀ j, j < n → w.cell? ⟨b2, o2 + j, none⟩ = some (I (ys[j]?.getD 0))) (hn : n ≤ 140737488355328) :
    Calls Tryz.prog 45 #[.slice (some ⟨b1, o1, none⟩) n c, .slice (some ⟨b2, o2, none⟩) n d] w (Gives (.bool (xs == ys)) w) := by
  have hb : ((n : Int) != (n : Int)) = false := by rw [neq_dec]; exact decide_eq_false (by omega)
  have HX := Lib.hid hx
  have HY := Lib.hid hy
  have HA := Lib.hid hA
  have HB := Lib.hid hB
  clear hx hy hA hB
  go_enter Tryz.func45, Tryz.ntmps45
  go_wp2
  go_loopw [5] (fun i wr => SameRelI n xs ys i ∧ ∃ q, wr = w.drewN q) (fun i _ => n - (intOf i).toNat)
  case atStart => exact ⟨⟨0, Nat.zero_le _, rfl, fun j hj => absurd hj (by omega)⟩, 0, rfl⟩
  case round =>
    obtain ⟨⟨k, hk, rfl, hall⟩, q, rfl⟩ := hrel
    have HL := Lib.hid hall
    clear hall
    by_cases hlt : k < n
    · have h1 := HA.out k hlt
      have h2 := HB.out k hlt
      obtain ⟨x, hx⟩ : ∃ x, xs[k]?.getD 0 = x := ⟨_, rfl⟩
      obtain ⟨y, hy⟩ : ∃ y, ys[k]?.getD 0 = y := ⟨_, rfl⟩
      rw [hx] at h1
      rw [hy] at h2
      have HX1 := Lib.hid hx
      have HY1 := Lib.hid hy
      clear hx hy
      have i0 : (0 : Int) ≤ (k : Int) := by omega
      have i1 : (k : Int) < (n : Int) := by omega
      by_cases hxy : x = y
      · subst hxy
        have hne := ints_same x
        go_wp2
        go_quiet (fail)
        go_wp2
        go_roundw
        case rel => exact ⟨⟨k + 1, by omega, by go_num, fun j hj => by
            rcases Nat.lt_succ_iff_lt_or_eq.1 hj with h | h
            · exact HL.out j h
            · subst h; rw [HX1.out, HY1.out]⟩, _, rfl⟩
        case measure => simp [intOf]; omega
      · have hne := ints_ne hxy
        have HXY := Lib.hid hxy
        clear hxy
        go_wp2
        go_quiet (fail)
        go_wp2
        go_ret
        refine ⟨ret_bool ?_, ?_⟩
        · symm; rw [beq_eq_false_iff_ne]; intro e; exact HXY.out (by rw [← HX1.out, ← HY1.out, e])
        · first | exact below_drewN' _ _ | (rw [World.drewN_drewN]; exact below_drewN' _ _)
    · have he : xs = ys := (beq_takeI xs ys (HX.out.trans HY.out.symm)).1 (fun j hj => HL.out j (by have := HX.out; omega))
      have HE := Lib.hid he
      clear he
      go_wp2
      go_ret
      exact ⟨ret_bool (by rw [HE.out]; simp), below_drewN' _ _⟩
set_option maxRecDepth 10000 in
set_option maxHeartbeats 1000000 in
theorem sameInts_none (A B : Option Addr) (c d : Nat) (w : World) :
    Calls Tryz.prog 45 #[.slice A 0 c, .slice B 0 d] w (Gives (.bool true) w) := by
  go_enter Tryz.func45, Tryz.ntmps45
  go_wp2
  go_loop [5] (fun i => i = .int .i64 0) (fun _ => 0)
  case atStart => rfl
  case round =>
    subst hrel
    go_wp2
    go_ret
    exact ⟨rfl, Below.refl _ _⟩
theorem sameInts_any (A B : Option Addr) (c d : Nat) (xs ys : List Int) (w : World) (hA : IntsAt w w.heap.size A xs) (hB : IntsAt w w.heap.size B ys) (hn : xs.length ≤ 140737488355328) :
    Calls Tryz.prog 45 #[.slice A xs.length c, .slice B ys.length d] w (Gives (.bool (xs == ys)) w) := by
  by_cases h : xs.length = ys.length
  · by_cases h0 : xs.length = 0
    · have h1 : ys.length = 0 := by omega
      have e1 := List.eq_nil_of_length_eq_zero h0
      have e2 := List.eq_nil_of_length_eq_zero h1
      subst e1 e2
      exact sameInts_none A B c d w
    · rcases hA with hA | ⟨b1, o1, rfl, _, hc1⟩
      · exact absurd hA h0
      · rcases hB with hB | ⟨b2, o2, rfl, _, hc2⟩
        · omega
        · rw [← h]
          exact sameInts_some b1 o1 b2 o2 _ c d xs ys rfl h.symm w hc1 (fun j hj => hc2 j (by omega)) hn
  · have e : (xs == ys) = false := beq_eq_false_iff_ne.2 (fun e => h (by rw [e]))
    rw [e]
    exact (sameInts_ne A B _ _ c d w h).mono fun e w' ⟨he, hw⟩ => ⟨he, by rw [← hw]; exact Below.refl _ _⟩
set_option maxRecDepth 10000 in
set_option maxHeartbeats 1000000 in
theorem eqInts_ne (A B : Option Addr) (n m c d : Nat) (w : World) (h : n ≠ m) :
    Calls Tryz.prog 37 #[.slice A n c, .slice B m d] w fun e w' => e = .returned (.bool false) ∧ w = w' := by
  have hb : ((n : Int) != (m : Int)) = true := by rw [neq_dec]; exact decide_eq_true (by omega)
  go_enter Tryz.func37, Tryz.ntmps37
  go_wp2
  go_ret
  exact ⟨rfl, rfl⟩
set_option maxRecDepth 10000 in
set_option maxHeartbeats 1000000 in
theorem eqInts_some (b1 o1 b2 o2 n c d : Nat) (xs ys : List Int) (hx : xs.length = n) (hy : ys.length = n) (w : World) (hA : ∀ j, j < n → w.cell? ⟨b1, o1 + j, none⟩ = some (I (xs[j]?.getD 0))) (hB : ∀ j, j < n → w.cell? ⟨b2, o2 + j, none⟩ = some (I (ys[j]?.getD 0))) (hn : n ≤ 140737488355328) :
    Calls Tryz.prog 37 #[.slice (some ⟨b1, o1, none⟩) n c, .slice (some ⟨b2, o2, none⟩) n d] w (Gives (.bool (xs == ys)) w) := by
  have hb : ((n : Int) != (n : Int)) = false := by rw [neq_dec]; exact decide_eq_false (by omega)
  have HX := Lib.hid hx
  have HY := Lib.hid hy
  have HA := Lib.hid hA
  have HB := Lib.hid hB
  clear hx hy hA hB
  go_enter Tryz.func37, Tryz.ntmps37
  go_wp2
  go_loopw [13] (fun i wr => SameRelI n xs ys i ∧ ∃ q, wr = w.drewN q) (fun i _ => n - (intOf i).toNat)
  case atStart => exact ⟨⟨0, Nat.zero_le _, rfl, fun j hj => absurd hj (by omega)⟩, 0, rfl⟩
  case round =>
    obtain ⟨⟨k, hk, rfl, hall⟩, q, rfl⟩ := hrel
    have HL := Lib.hid hall
    clear hall
    by_cases hlt : k < n
    · have h1 := HA.out k hlt
      have h2 := HB.out k hlt
      obtain ⟨x, hx⟩ : ∃ x, xs[k]?.getD 0 = x := ⟨_, rfl⟩
      obtain ⟨y, hy⟩ : ∃ y, ys[k]?.getD 0 = y := ⟨_, rfl⟩
      rw [hx] at h1
      rw [hy] at h2
      have HX1 := Lib.hid hx
      have HY1 := Lib.hid hy
      clear hx hy
      have i0 : (0 : Int) ≤ (k : Int) := by omega
      have i1 : (k : Int) < (n : Int) := by omega
      by_cases hxy : x = y
      · subst hxy
        have hne := ints_same x
        go_wp2
        go_quiet (fail)
        go_wp2
        go_roundw
        case rel => exact ⟨⟨k + 1, by omega, by go_num, fun j hj => by
            rcases Nat.lt_succ_iff_lt_or_eq.1 hj with h | h
            · exact HL.out j h
            · subst h; rw [HX1.out, HY1.out]⟩, _, rfl⟩
        case measure => simp [intOf]; omega
      · have hne := ints_ne hxy
        have HXY := Lib.hid hxy
        clear hxy
        go_wp2
        go_quiet (fail)
        go_wp2
        go_ret
        refine ⟨ret_bool ?_, ?_⟩
        · symm; rw [beq_eq_false_iff_ne]; intro e; exact HXY.out (by rw [← HX1.out, ← HY1.out, e])
        · first | exact below_drewN' _ _ | (rw [World.drewN_drewN]; exact below_drewN' _ _)
    · have he : xs = ys := (beq_takeI xs ys (HX.out.trans HY.out.symm)).1 (fun j hj => HL.out j (by have := HX.out; omega))
      have HE := Lib.hid he
      clear he
      go_wp2
      go_ret
      exact ⟨ret_bool (by rw [HE.out]; simp), below_drewN' _ _⟩
set_option maxRecDepth 10000 in
set_option maxHeartbeats 1000000 in
theorem eqInts_none (A B : Option Addr) (c d : Nat) (w : World) :
    Calls Tryz.prog 37 #[.slice A 0 c, .slice B 0 d] w (Gives (.bool true) w) := by
  go_enter Tryz.func37, Tryz.ntmps37
  go_wp2
  go_loop [13] (fun i => i = .int .i64 0) (fun _ => 0)
  case atStart => rfl
  case round =>
    subst hrel
    go_wp2
    go_ret
    exact ⟨rfl, Below.refl _ _⟩
theorem eqInts_any (A B : Option Addr) (c d : Nat) (xs ys : List Int) (w : World) (hA : IntsAt w w.heap.size A xs) (hB : IntsAt w w.heap.size B ys) (hn : xs.length ≤ 140737488355328) :
    Calls Tryz.prog 37 #[.slice A xs.length c, .slice B ys.length d] w (Gives (.bool (xs == ys)) w) := by
  by_cases h : xs.length = ys.length
  · by_cases h0 : xs.length = 0
    · have h1 : ys.length = 0 := by omega
      have e1 := List.eq_nil_of_length_eq_zero h0
      have e2 := List.eq_nil_of_length_eq_zero h1
      subst e1 e2
      exact eqInts_none A B c d w
    · rcases hA with hA | ⟨b1, o1, rfl, _, hc1⟩
      · exact absurd hA h0
      · rcases hB with hB | ⟨b2, o2, rfl, _, hc2⟩
        · omega
        · rw [← h]
          exact eqInts_some b1 o1 b2 o2 _ c d xs ys rfl h.symm w hc1 (fun j hj => hc2 j (by omega)) hn
  · have e : (xs == ys) = false := beq_eq_false_iff_ne.2 (fun e => h (by rw [e]))
    rw [e]
    exact (eqInts_ne A B _ _ c d w h).mono fun e w' ⟨he, hw⟩ => ⟨he, by rw [← hw]; exact Below.refl _ _⟩
end Go.Proofs.YtenbgpcdoljkgaaGreatDoor

/- kalendsref20.made: what it makes of a letter, and the letter under way. -/
namespace Go.Proofs.YtenbgpcdoljkgaaGreatDoor
open Go Go.RowKit

/-- The letter's lists, in memory that is not older than block lo. -/
structure LtMem (lo : Nat) (w : World) (l : Lt) (s : Sl) (ns : List NdV) : Prop where
  rule : RuleIs lo w (.slice s.A l.series.rule.length s.c) ns
  names : l.series.rule = ns.map (·.d)
  moves : w.ownsRow lo 25 5 (.slice s.B l.series.moves.length s.d) l.series.moves.length (mvsCells l.series.moves)
  cells : w.ownsRow lo 3 1 (.slice s.C l.cells.length s.e) l.cells.length (l.cells.map I)
theorem LtMem.mkeep {lo mb : Nat} {w w' : World} {l : Lt} {s : Sl} {ns : List NdV} (h : LtMem lo w l s ns) (hk : MKeep mb w w') (hm : mb < lo) : LtMem lo w' l s ns :=
  ⟨h.rule.mkeep hk hm, h.names, ownsRow_mkeep h.moves hk hm, ownsRow_mkeep h.cells hk hm⟩
/-- A series that was made. -/
structure SerOK (ns : List NdV) (s : Ser) : Prop where
  names : s.rule = ns.map (·.d)
  made : MRule 3 ns
  len : ns.length ≤ 16
  within : Within 2002 ns
  mok : ∃ dd, dd ≤ 100 ∧ MvsOK s.moves dd
  mlen : s.moves.length ≤ 2
  min : 0 ≤ s.minute ∧ s.minute < 1440
  lng : 1 ≤ s.length ∧ s.length ≤ 200
  zone : ZoneOK s.zone
  gap : 0 ≤ s.gap ∧ s.gap < 3
  fold : 0 ≤ s.fold ∧ s.fold < 3
structure CellsOK (zs : List Int) : Prop where
  ne : 1 ≤ zs.length
  len : zs.length ≤ 5
  rng : ∀ z ∈ zs, 0 ≤ z ∧ z ≤ 15
  up : zs.Pairwise (· < ·)
/-- What one field becomes. -/
def MadeF (l : Lt) (ns : List NdV) (f : Nat) (l' : Lt) (ns' : List NdV) : Prop :=
  (numB f = true ∧ ∃ x, (bnd l.kind f).1 ≤ x ∧ x ≤ (bnd l.kind f).2 ∧ x < (bnd l.kind f).1 + 40 ∧ l' = setNum l f x ∧ ns' = ns) ∨
  (f = 9 ∧ ns' = ns ∧ (((l.kind = 4 ∨ l.scope = 1) ∧ ∃ m, l' = { l with move := m } ∧ MoveOK m.day m ∧ ((l.kind = 4 ∧ 0 ≤ m.day ∧ m.day < 40) ∨ (l.kind ≠ 4 ∧ m.day = l.day))) ∨ (l.kind ≠ 4 ∧ l.scope ≠ 1 ∧ l' = l))) ∨
  (f = 10 ∧ (((l.kind ≠ 6 ∨ l.scope ≠ 1) ∧ ∃ se, l' = { l with series := se } ∧ SerOK ns' se) ∨ (l.kind = 6 ∧ l.scope = 1 ∧ l' = l ∧ ns' = ns))) ∨
  (f = 14 ∧ ns' = ns ∧ ∃ a b, -1000 ≤ a ∧ a ≤ b ∧ b ≤ 9000 ∧ l' = { l with wfrom := a, wto := b }) ∨
  (f = 15 ∧ ns' = ns ∧ ∃ zs, l' = { l with cells := zs } ∧ CellsOK zs) ∨
  (f = 16 ∧ ns' = ns ∧ ∃ r, r.length = 32 ∧ l' = { l with ref := r })
def MadeP (w : World) (lo mb : Nat) (xs : List Int) (at_ nodes : Nat) (l : Lt) (s : Sl) (ns : List NdV) (f : Nat) (e : Ending) (w' : World) : Prop :=
  ∃ l' s' ns' a' n', e = .returned (.agg (ltVal l' s')) ∧ MadeF l ns f l' ns' ∧ LtMem lo w' l' s' ns' ∧ (f ≠ 15 → s'.C = s.C ∧ s'.e = s.e) ∧ MkSt w' mb xs a' n' ∧ a' ≤ at_ + 400 ∧ n' ≤ nodes + 16 ∧ MKeep mb w w'
/-- The letter's variable and the result's, beside the maker. -/
structure TS (w0 : World) (mb : Nat) (xs : List Int) (a nd : Nat) (cs : Array Value) (W : World) : Prop where
  hm : mb < w0.heap.size
  mkr : MkSt W mb xs a nd
  keep : MKeep mb w0 W
  var : W.heap[w0.heap.size]? = some (.cells cs 36 (0, 0))
  res : W.heap[w0.heap.size + 1]? = some (.cells (ltVal zLt zSl) 36 (0, 0))
section
variable {w0 W W' : World} {mb a a' nd nd' : Nat} {xs : List Int} {cs : Array Value}
theorem TS.lt (h : TS w0 mb xs a nd cs W) : w0.heap.size + 1 < W.heap.size := (Array.getElem?_eq_some_iff.1 h.res).1
theorem TS.cell (h : TS w0 mb xs a nd cs W) : ∀ i, W.cell? ⟨w0.heap.size, i, none⟩ = cs[i]? := fun i => cell_of_row W _ i _ _ _ h.var
theorem TS.froz (h : TS w0 mb xs a nd cs W) : ∀ i, W.frozen? ⟨w0.heap.size, i, none⟩ = false := fun i => frozen_of_row W _ i _ _ h.var
theorem TS.row (h : TS w0 mb xs a nd cs W) : Row W w0.heap.size cs := ⟨by have := h.lt; omega, h.cell⟩
theorem TS.step (h : TS w0 mb xs a nd cs W) (hm : MkSt W' mb xs a' nd') (hk : MKeep mb W W') : TS w0 mb xs a' nd' cs W' :=
  have h1 := h.hm
  have h4 := h.lt
  ⟨h.hm, hm, h.keep.trans hk, (hk.block _ (by omega) (by omega)).trans h.var, (hk.block _ (by omega) (by omega)).trans h.res⟩
theorem TS.below (h : TS w0 mb xs a nd cs W) (hb : Below W.heap.size W W') : TS w0 mb xs a nd cs W' := h.step (h.mkr.grow hb) (MKeep.of_below hb)
theorem TS.drew (h : TS w0 mb xs a nd cs W) : TS w0 mb xs a nd cs W.drew := ⟨h.hm, h.mkr, h.keep.draw, h.var, h.res⟩
theorem TS.pick (h : TS w0 mb xs a nd cs W) (hx : XsOK xs) (n : Int) (ha : a ≤ 1000000000) (hn : 0 < n) (hn2 : n ≤ 1000000000000000000) :
    Calls Tryz.prog 26 #[pt mb, I n] W fun e W' => ∃ r, e = .returned (I r) ∧ 0 ≤ r ∧ r < n ∧ MKeep mb W W' ∧ TS w0 mb xs (a + 1) nd cs W' :=
  (pick_any W mb xs a nd n h.mkr hx ha hn hn2).mono fun _ _ ⟨r, h1, h2, h3, h4, h5⟩ => ⟨r, h1, h2, h3, h5, h.step h4 h5⟩
theorem TS.store (h : TS w0 mb xs a nd cs W) (o : Nat) (v : Value) : TS w0 mb xs a nd (cs.setIfInBounds o v) (W.setCell ⟨w0.heap.size, o, none⟩ v) := by
  have h1 := h.hm
  have hb : Below w0.heap.size W (W.setCell ⟨w0.heap.size, o, none⟩ v) := (Below.refl _ W).setCell (p := ⟨w0.heap.size, o, none⟩) (Nat.le_refl _) _
  refine ⟨h.hm, h.mkr.far _ _ h1, ?_, heap_setCell_same W _ o _ _ _ h.var, (heap_setCell_other W _ _ v (by show w0.heap.size + 1 ≠ w0.heap.size; omega)).trans h.res⟩
  exact ⟨hb.os.trans h.keep.os, hb.tape.trans h.keep.tape, hb.output.trans h.keep.output, Nat.le_trans h.keep.size hb.size, fun k hk hn => (hb.block k (by omega)).trans (h.keep.block k hk hn)⟩
theorem TS.start {w : World} (hm : MkSt w mb xs a nd) : TS w mb xs a nd cs ((w.alloc (.cells cs 36)).alloc (.cells (ltVal zLt zSl) 36)) := by
  have hl := hm.lt
  have hb := below_trans (below_var w (.cells cs 36)) (below_var _ (.cells (ltVal zLt zSl) 36))
  exact ⟨hl, hm.grow hb, MKeep.of_below hb, heap_alloc2_old w _ _, heap_alloc2_new w _ _⟩
/-- Behind the store of the result. -/
theorem TS.fin (h : TS w0 mb xs a nd cs W) (ds : Array Value) : MkSt (W.setRow (w0.heap.size + 1) ds) mb xs a nd ∧ MKeep mb w0 (W.setRow (w0.heap.size + 1) ds) := by
  have h1 := h.hm
  have hb : Below w0.heap.size W (W.setRow (w0.heap.size + 1) ds) := below_setRow (Below.refl _ W) (Nat.le_succ _) _
  refine ⟨?_, ?_⟩
  · obtain ⟨A', c', g1, g2⟩ := h.mkr
    exact ⟨A', c', (setRow_other W _ mb _ (by omega)).trans g1, g2.keep (hb.mono (by omega))⟩
  · exact ⟨hb.os.trans h.keep.os, hb.tape.trans h.keep.tape, hb.output.trans h.keep.output, Nat.le_trans h.keep.size hb.size, fun k hk hn => (hb.block k (by omega)).trans (h.keep.block k hk hn)⟩
end
/-- A letter whose lists are those that came in. -/
theorem TS.done {w0 W : World} {lo mb a nd at_ nodes : Nat} {xs : List Int} {cs : Array Value} {l l' : Lt} {s s' : Sl} {ns ns' : List NdV} {f : Nat} (h : TS w0 mb xs a nd cs W) (hf : MadeF l ns f l' ns') (hmem : LtMem lo (W.setRow (w0.heap.size + 1) (ltVal l' s')) l' s' ns') (hC : f ≠ 15 → s'.C = s.C ∧ s'.e = s.e) (ha : a ≤ at_ + 400) (hn : nd ≤ nodes + 16) :
    MadeP w0 lo mb xs at_ nodes l s ns f (.returned (.agg (ltVal l' s'))) (W.setRow (w0.heap.size + 1) (ltVal l' s')) :=
  ⟨l', s', ns', a, nd, rfl, hf, hmem, hC, (h.fin _).1, ha, hn, (h.fin _).2⟩
theorem TS.done_same {w0 W : World} {lo mb a nd at_ nodes : Nat} {xs : List Int} {cs : Array Value} {l l' : Lt} {s : Sl} {ns : List NdV} {f : Nat} (h : TS w0 mb xs a nd cs W) (hf : MadeF l ns f l' ns) (hmem : LtMem lo w0 l s ns) (hlo : mb < lo) (hs : l'.series = l.series) (hc : l'.cells = l.cells) (ha : a ≤ at_ + 400) (hn : nd ≤ nodes + 16) :
    MadeP w0 lo mb xs at_ nodes l s ns f (.returned (.agg (ltVal l' s))) (W.setRow (w0.heap.size + 1) (ltVal l' s)) :=
  h.done hf (by
    have := hmem.mkeep (h.fin (ltVal l' s)).2 hlo
    exact ⟨by rw [hs]; exact this.rule, by rw [hs]; exact this.names, by rw [hs]; exact this.moves, by rw [hc]; exact this.cells⟩) (fun _ => ⟨rfl, rfl⟩) ha hn
end Go.Proofs.YtenbgpcdoljkgaaGreatDoor

/- kalendsref20.made for a field that is a number. -/
namespace Go.Proofs.YtenbgpcdoljkgaaGreatDoor
open Go Go.RowKit

theorem yieldsIf_min {P : Program} {ops : Array Oper} {S : World → Prop} {op : Oper} {a : Act} (hw : Region.wanted op (yielded ops a.tmps) = true) (x : Operand) (c : Int) (ho : op.op = .call { callee := .builtin .min, args := #[x, .const (I c)], argTypes := #[3, 3] })
    (n : Int) (hx : a.eval x = I n) : YieldsIf P ops S op (I (if c < n then c else n)) a :=
  .inl ⟨hw, fun w _ => by
    have hc : a.eval (.const (I c)) = I c := rfl
    unfold execOp
    simp [ho, resolve, invoke, builtin, Builtin.min_, Builtin.min2, hx, hc]⟩
theorem Row.of_block {w w' : World} {b : Nat} {cs : Array Value} (h : Row w b cs) (hb : w'.heap[b]? = w.heap[b]?) : Row w' b cs :=
  ⟨by have h1 := Array.getElem?_eq_getElem h.1; rw [← hb] at h1; exact (Array.getElem?_eq_some_iff.1 h1).1, fun i => (World.cell?_of_block (a := ⟨b, i, none⟩) hb).trans (h.2 i)⟩
attribute [local go_sem] ltVal_get lt_get0
set_option maxRecDepth 10000 in
set_option maxHeartbeats 4000000 in
theorem made_num (w : World) (lo mb : Nat) (xs : List Int) (at_ nodes : Nat) (l : Lt) (s : Sl) (ns : List NdV) (f : Nat) (h : MkSt w mb xs at_ nodes) (hx : XsOK xs) (hat : at_ ≤ 100000) (hmem : LtMem lo w l s ns) (hlo : mb < lo) (hr : l.ref.length = 32) (hf : f < 17) (hnum : numB f = true) :
    Calls Tryz.prog 27 #[pt mb, .agg (ltVal l s), I f] w (MadeP w lo mb xs at_ nodes l s ns f) := by
  have G0 : Hid (TS w mb xs at_ nodes (ltVal l s) ((w.alloc (.cells (ltVal l s) 36)).alloc (.cells (ltVal zLt zSl) 36))) := Lib.hid (TS.start h)
  have hml := h.lt
  have HM := Lib.hid hmem
  have HN := Lib.hid hnum
  have HR := Lib.hid hr
  clear h hmem hr hnum
  go_enter Tryz.func27, Tryz.ntmps27
  go_wp2_with (with_reducible refine g_alloc 36 ?_; refine wpList_alloc_as rfl _ rfl (ltVal zLt zSl) lt_zero ?_)
  refine (numeric_any f _).mono ?_
  rintro e w1 ⟨rfl, rfl⟩
  rw [HN.out]
  go_wp2_with fail
  refine (bounds_any l.kind f hf _).mono ?_
  rintro e w1 ⟨rfl, rfl⟩
  have hbo := bnd_ok l.kind f
  obtain ⟨low, hlow⟩ : ∃ x, (bnd l.kind f).1 = x := ⟨_, rfl⟩
  obtain ⟨hi, hhi⟩ : ∃ x, (bnd l.kind f).2 = x := ⟨_, rfl⟩
  rw [hlow, hhi] at hbo ⊢
  obtain ⟨hb1, hb2, hb3⟩ := hbo
  have HLO := Lib.hid hlow
  have HHI := Lib.hid hhi
  clear hlow hhi
  go_wp2_with fail
  have hw1 : IntKind.i64.wrap (hi - low) = hi - low := by rw [IntKind.wrap_i64]; omega
  have hw2 : IntKind.i64.wrap (hi - low + 1) = hi - low + 1 := by rw [IntKind.wrap_i64]; omega
  refine wp_region_held_drew (S := fun w' => Row w' w.heap.size (ltVal l s)) (by kernel_rfl) G0.out.drew.row (fun hH0 => ?_)
  refine wpAnyH_take_dst (i := 0) (v := _) (d := 23) rfl rfl (by kernel_rfl) (by kernel_rfl) (by kernel_rfl) (fun _ _ _ h => h) (yieldsIf_load_Row (by rfl) _ _ rfl w.heap.size rfl (ltVal l s) _ (fun w' h => h) Tryz.underlying36 rfl (size62 _ _ HR.out)) (by assumption) ?r0
  try simp only [Act.put, List.setIfInBounds_toArray, List.set_cons_zero, List.set_cons_succ]
  refine wpAnyH_take_dst (i := 1) (v := ?v1) (d := 24) rfl rfl (by kernel_rfl) (by kernel_rfl) (by kernel_rfl) (fun _ _ _ h => h) (Or.inl ⟨by rfl, ?hy1⟩) (by assumption) ?r1
  case hy1 => intro w' hSw; first | (go_simp; done) | (go_simp; with_reducible rfl)
  try simp only [Act.put, List.setIfInBounds_toArray, List.set_cons_zero, List.set_cons_succ]
  refine wpAnyH_take_dst (i := 2) (v := ?v2) (d := 25) rfl rfl (by kernel_rfl) (by kernel_rfl) (by kernel_rfl) (fun _ _ _ h => h) (Or.inl ⟨by rfl, ?hy2⟩) (by assumption) ?r2
  case hy2 => intro w' hSw; first | (go_simp; done) | (go_simp; with_reducible rfl)
  try simp only [Act.put, List.setIfInBounds_toArray, List.set_cons_zero, List.set_cons_succ]
  refine wpAnyH_take_dst (i := 3) (v := ?v3) (d := 26) rfl rfl (by kernel_rfl) (by kernel_rfl) (by kernel_rfl) (fun _ _ _ h => h) (Or.inl ⟨by rfl, ?hy3⟩) (by assumption) ?r3
  case hy3 => intro w' hSw; first | (go_simp; done) | (go_simp; with_reducible rfl)
  try simp only [Act.put, List.setIfInBounds_toArray, List.set_cons_zero, List.set_cons_succ]
  refine wpAnyH_take_dst (i := 4) (v := ?v4) (d := 27) rfl rfl (by kernel_rfl) (by kernel_rfl) (by kernel_rfl) (fun _ _ _ h => h) (Or.inl ⟨by rfl, ?hy4⟩) (by assumption) ?r4
  case hy4 => intro w' hSw; first | (go_simp; done) | (go_simp; with_reducible rfl)
  try simp only [Act.put, List.setIfInBounds_toArray, List.set_cons_zero, List.set_cons_succ]
  refine wpAnyH_take_dst (i := 5) (v := ?v5) (d := 28) rfl rfl (by kernel_rfl) (by kernel_rfl) (by kernel_rfl) (fun _ _ _ h => h) (Or.inl ⟨by rfl, ?hy5⟩) (by assumption) ?r5
  case hy5 => intro w' hSw; first | (go_simp; done) | (go_simp; with_reducible rfl)
  try simp only [Act.put, List.setIfInBounds_toArray, List.set_cons_zero, List.set_cons_succ]
  refine wpAnyH_take_dst (i := 6) (v := ?v6) (d := 29) rfl rfl (by kernel_rfl) (by kernel_rfl) (by kernel_rfl) (fun _ _ _ h => h) (Or.inl ⟨by rfl, ?hy6⟩) (by assumption) ?r6
  case hy6 => intro w' hSw; first | (go_simp; done) | (go_simp; with_reducible rfl)
  try simp only [Act.put, List.setIfInBounds_toArray, List.set_cons_zero, List.set_cons_succ]
  refine wpAnyH_take_dst (i := 7) (v := ?v7) (d := 30) rfl rfl (by kernel_rfl) (by kernel_rfl) (by kernel_rfl) (fun _ _ _ h => h) (Or.inl ⟨by rfl, ?hy7⟩) (by assumption) ?r7
  case hy7 => intro w' hSw; first | (go_simp; done) | (go_simp; with_reducible rfl)
  try simp only [Act.put, List.setIfInBounds_toArray, List.set_cons_zero, List.set_cons_succ]
  refine wpAnyH_take_dst (i := 8) (v := _) (d := 31) rfl rfl (by kernel_rfl) (by kernel_rfl) (by kernel_rfl) (fun _ _ _ h => h) (yieldsIf_min (by rfl) _ 40 rfl (hi - low + 1) rfl) (by assumption) ?r8
  try simp only [Act.put, List.setIfInBounds_toArray, List.set_cons_zero, List.set_cons_succ]
  refine wpAnyH_ready (rs := [9]) (by kernel_rfl) (by simp) ?_
  refine AllReadyH.cons rfl (fun K hK => ?_) AllReadyH.nil
  go_simp
  refine (G0.out.drew.pick hx _ (by omega) (by split <;> omega) (by split <;> omega)).mono ?_
  rintro e w2 ⟨r, rfl, hr1, hr2, -, g2⟩
  have G2 := Lib.hid g2
  clear g2
  have hS2 := G2.out.row
  have hr3 : low + r ≤ hi := by split at hr2 <;> omega
  have hr4 : r < 40 := by split at hr2 <;> omega
  have hw3 : IntKind.i64.wrap (low + r) = low + r := by rw [IntKind.wrap_i64]; omega
  refine hK.out _ _ G2.out.row (fun hHeld => ?_)
  clear hHeld
  clear hK K
  try simp only [Act.put, List.setIfInBounds_toArray, List.set_cons_zero, List.set_cons_succ]
  refine wpAnyH_take_dst (i := 10) (v := ?v10) (d := 33) rfl rfl (by kernel_rfl) (by kernel_rfl) (by kernel_rfl) (fun _ _ _ h => h) (Or.inl ⟨by rfl, ?hy10⟩) (by assumption) ?r10
  case hy10 => intro w' hSw; first | (go_simp; done) | (go_simp; with_reducible rfl)
  try simp only [Act.put, List.setIfInBounds_toArray, List.set_cons_zero, List.set_cons_succ]
  refine wpAnyH_ready (rs := [11]) (by kernel_rfl) (by simp) ?_
  refine AllReadyH.cons rfl (fun K hK => ?_) AllReadyH.nil
  go_simp
  refine (setNumber_any l s f hf (low + r) _ HR.out).mono ?_
  rintro e w3 ⟨rfl, hb3⟩
  have G3 := Lib.hid (G2.out.below hb3)
  clear hb3
  have hS3 := G3.out.row
  refine hK.out _ _ G3.out.row (fun hHeld => ?_)
  clear hHeld
  clear hK K
  try simp only [Act.put, List.setIfInBounds_toArray, List.set_cons_zero, List.set_cons_succ]
  refine wpAnyH_ready (rs := [12]) (by kernel_rfl) (by simp) ?_
  refine AllReadyH.cons rfl (fun K hK => ?_) AllReadyH.nil
  have HRF : Hid ((setNum l f (low + r)).ref.length = 32) := Lib.hid (by rw [setNum_ref]; exact HR.out)
  rw [if_pos (by rfl)]
  refine wp_store_row _ _ _ rfl (w.heap.size + 1) (ltVal (setNum l f (low + r)) s) rfl rfl _ (ltVal zLt zSl) G3.out.res (size62 _ _ HRF.out) (sz_eq _ _ HRF.out) (ltVal_one _ _) ?_
  refine hK.out _ _ (hS3.of_block (setRow_other _ _ _ _ (by omega))) (fun hHeld => ?_)
  clear hHeld hK K
  refine wpAnyH_done (by kernel_rfl) ?_ _
  clear hr2
  go_wp2_with fail
  all_goals exact bodyPost_ret (v := .agg (ltVal (setNum l f (low + r)) s)) (results_cell_row rfl _ _ (w.heap.size + 1) _ (ltVal (setNum l f (low + r)) s) (0, 0) _ rfl (setRow_heap _ _ _ _ _ _ G3.out.res) Tryz.underlying36 rfl (size62 _ _ HRF.out)) rfl (G3.out.done_same (.inl ⟨HN.out, low + r, by rw [HLO.out]; omega, by rw [HHI.out]; omega, by rw [HLO.out]; omega, rfl, rfl⟩) HM.out hlo (setNum_series _ _ _) (setNum_cellsL _ _ _) (by omega) (by omega))
end Go.Proofs.YtenbgpcdoljkgaaGreatDoor

/- kalendsref20.made for the fields move, series and window. -/
namespace Go.Proofs.YtenbgpcdoljkgaaGreatDoor
open Go Go.RowKit

def putAll (cs : Array Value) (o : Nat) : List Value → Array Value
  | [] => cs
  | v :: r => putAll (cs.setIfInBounds o v) (o + 1) r
theorem TS.storeAll {w0 : World} {mb a nd : Nat} {xs : List Int} : ∀ (vs : List Value) (o : Nat) (cs : Array Value) (W : World), TS w0 mb xs a nd cs W → TS w0 mb xs a nd (putAll cs o vs) (W.setCells w0.heap.size o vs)
  | [], _, _, _, h => h
  | v :: r, o, _, _, h => TS.storeAll r (o + 1) _ _ (h.store o v)
theorem TS.there {w0 W : World} {mb a nd : Nat} {xs : List Int} {cs : Array Value} (h : TS w0 mb xs a nd cs W) (o n : Nat) (hn : o + n ≤ cs.size) : W.there w0.heap.size o n := by
  intro j hj
  refine ⟨?_, h.froz _⟩
  rw [h.cell, Array.getElem?_eq_getElem (by omega)]; rfl
theorem put_move (l : Lt) (s : Sl) (m : Mv) : putAll (ltVal l s) 12 (mvCells m).toList = ltVal { l with move := m } s := by
  simp [putAll, ltVal, ltCells, mvCells]
def seC (se : Ser) (A B : Option Addr) (c d : Nat) : Array Value := #[.slice A se.rule.length c, I se.minute, I se.length, .string se.zone, I se.gap, I se.fold, .slice B se.moves.length d]
theorem put_series (l : Lt) (s : Sl) (A B : Option Addr) (c d : Nat) (se : Ser) : putAll (ltVal l s) 17 (seC se A B c d).toList = ltVal { l with series := se } { s with A := A, c := c, B := B, d := d } := by
  simp [putAll, ltVal, ltCells, seC]
theorem put_wfrom (l : Lt) (s : Sl) (x : Int) : (ltVal l s).setIfInBounds 27 (I x) = ltVal { l with wfrom := x } s := by
  simp [ltVal, ltCells]
theorem put_wto (l : Lt) (s : Sl) (x : Int) : (ltVal l s).setIfInBounds 28 (I x) = ltVal { l with wto := x } s := by
  simp [ltVal, ltCells]
theorem se_size (se : Ser) (A B : Option Addr) (c d : Nat) : (Tryz.prog.info? 30).map (·.size) = some (seC se A B c d).size := by kernel_rfl
theorem se_one (se : Ser) (A B : Option Addr) (c d : Nat) : (seC se A B c d).all (·.oneCell') = true := by kernel_rfl
theorem ltVal_size (l : Lt) (s : Sl) (h : l.ref.length = 32) : (ltVal l s).size = 62 := lt_size _ _ _ _ h
theorem own_formA {w : World} {base e size n : Nat} {v : Value} {xs : List Value} (h : w.ownsRow base e size v n xs) : ∃ A c, v = .slice A n c := by
  rcases h.2 with ⟨rfl, rfl⟩ | ⟨g, cap, cur, rfl, _⟩
  · exact ⟨_, _, rfl⟩
  · exact ⟨_, _, rfl⟩
theorem LtMem.step {lo mb : Nat} {w w' : World} {l l' : Lt} {s s' : Sl} {ns ns' : List NdV} (hr : RuleIs lo w' (.slice s'.A l'.series.rule.length s'.c) ns') (hn : l'.series.rule = ns'.map (·.d)) (hm : w'.ownsRow lo 25 5 (.slice s'.B l'.series.moves.length s'.d) l'.series.moves.length (mvsCells l'.series.moves))
    (h : LtMem lo w l s ns) (hk : MKeep mb w w') (hb : mb < lo) (hc : l'.cells = l.cells) (hC : s'.C = s.C) (he : s'.e = s.e) : LtMem lo w' l' s' ns' :=
  ⟨hr, hn, hm, by rw [hc, hC, he]; exact (h.mkeep hk hb).cells⟩
theorem setCells_other : ∀ (vs : List Value) (w : World) (b o k : Nat), k ≠ b → (w.setCells b o vs).heap[k]? = w.heap[k]?
  | [], _, _, _, _, _ => rfl
  | v :: r, w, b, o, k, h => (setCells_other r _ b (o + 1) k h).trans (heap_setCell_other w _ k v h)
theorem setCells_size : ∀ (vs : List Value) (w : World) (b o : Nat), (w.setCells b o vs).heap.size = w.heap.size
  | [], _, _, _ => rfl
  | v :: r, w, b, o => (setCells_size r _ b (o + 1)).trans (by simp [World.setCell])
theorem made_ser_done {w w3 : World} {lo mb a3 n3 at_ nodes : Nat} {xs : List Int} {l : Lt} {s : Sl} {ns ns' : List NdV} {ms : List Mv} {mi ln : Int} {zv : ByteArray} {gp fo : Int} {A B : Option Addr} {cr cm : Nat} {se : Ser}
    (hmem : LtMem lo w l s ns) (hlo : mb < lo) (hlw : lo ≤ w.heap.size) (hse : se = ⟨ns'.map (·.d), mi, ln, zv, gp, fo, ms⟩)
    (g : TS w mb xs a3 n3 (ltVal { l with series := se } { s with A := A, c := cr, B := B, d := cm }) (w3.setCells w.heap.size 17 (seC se A B cr cm).toList))
    (hsm : SerMade ((w.alloc (.cells (ltVal l s) 36)).alloc (.cells (ltVal zLt zSl) 36)) ns' ms mi ln zv gp fo (.slice A ns'.length cr) (.slice B ms.length cm) w3)
    (_hk3 : MKeep mb ((w.alloc (.cells (ltVal l s) 36)).alloc (.cells (ltVal zLt zSl) 36)) w3) (hks : l.kind ≠ 6 ∨ l.scope ≠ 1) (ha : a3 ≤ at_ + 400) (hn : n3 ≤ nodes + 16) :
    MadeP w lo mb xs at_ nodes l s ns 10 (.returned (.agg (ltVal { l with series := se } { s with A := A, c := cr, B := B, d := cm }))) ((w3.setCells w.heap.size 17 (seC se A B cr cm).toList).setRow (w.heap.size + 1) (ltVal { l with series := se } { s with A := A, c := cr, B := B, d := cm })) := by
  have hB : ∀ k, w.heap.size + 2 ≤ k → ((w3.setCells w.heap.size 17 (seC se A B cr cm).toList).setRow (w.heap.size + 1) (ltVal { l with series := se } { s with A := A, c := cr, B := B, d := cm })).heap[k]? = w3.heap[k]? := fun k hk => by
    rw [setRow_other _ _ k _ (by omega)]
    exact setCells_other _ _ _ _ k (by omega)
  have hsz : w3.heap.size ≤ ((w3.setCells w.heap.size 17 (seC se A B cr cm).toList).setRow (w.heap.size + 1) (ltVal { l with series := se } { s with A := A, c := cr, B := B, d := cm })).heap.size := by
    rw [show ∀ (W : World) b ds, (W.setRow b ds).heap.size = W.heap.size from fun W b ds => by simp]
    rw [setCells_size]; exact Nat.le_refl _
  subst hse
  have h2 : ((w.alloc (.cells (ltVal l s) 36)).alloc (.cells (ltVal zLt zSl) 36)).heap.size = w.heap.size + 2 := by simp
  have hr := hsm.rule
  have hmv := hsm.moves
  rw [h2] at hr hmv
  refine g.done (.inr (.inr (.inl ⟨rfl, .inl ⟨hks, _, rfl, ⟨rfl, hsm.made, hsm.len, hsm.within, hsm.mok, hsm.mlen, hsm.min, hsm.lng, hsm.zone, hsm.gap, hsm.fold⟩⟩⟩))) ?_ (fun _ => ⟨rfl, rfl⟩) ha hn
  refine LtMem.step ?_ rfl ?_ hmem (g.fin _).2 hlo rfl rfl rfl
  · show RuleIs _ _ (.slice A (ns'.map (·.d)).length cr) _
    rw [List.length_map]
    exact (hr.of_blocks hsz fun k hk _ => hB k (by omega)).lower (by omega)
  · exact ownsRow_base' (ownsRow_blocks hmv fun k hk _ => hB k (by omega)) (by omega)
attribute [local go_sem] ltVal_get lt_get0 lt_get10 lt_get11 lt_get27
set_option maxRecDepth 10000 in
set_option maxHeartbeats 4000000 in
theorem made_move (w : World) (lo mb : Nat) (xs : List Int) (at_ nodes : Nat) (l : Lt) (s : Sl) (ns : List NdV) (h : MkSt w mb xs at_ nodes) (hx : XsOK xs) (hat : at_ ≤ 100000) (hmem : LtMem lo w l s ns) (hlo : mb < lo) (_hlw : lo ≤ w.heap.size) (hr : l.ref.length = 32) :
    Calls Tryz.prog 27 #[pt mb, .agg (ltVal l s), I 9] w (MadeP w lo mb xs at_ nodes l s ns 9) := by
  have G0 : Hid (TS w mb xs at_ nodes (ltVal l s) ((w.alloc (.cells (ltVal l s) 36)).alloc (.cells (ltVal zLt zSl) 36))) := Lib.hid (TS.start h)
  have hml := h.lt
  have HM := Lib.hid hmem
  have HR := Lib.hid hr
  have HZ := Lib.hid (ltVal_size l s hr)
  clear h hmem hr
  by_cases hk4 : l.kind = 4
  · go_enter Tryz.func27, Tryz.ntmps27
    go_wp2_with (with_reducible refine g_alloc 36 ?_; refine wpList_alloc_as rfl _ rfl (ltVal zLt zSl) lt_zero ?_)
    refine (numeric_any 9 _).mono ?_
    rintro e w1 ⟨rfl, rfl⟩
    rw [show numB 9 = false from rfl]
    go_wp2_with fail
    refine (G0.out.pick hx 40 (by omega) (by omega) (by omega)).mono ?_
    rintro e w2 ⟨dy, rfl, d1, d2, -, g2⟩
    have g2c := g2.cell
    have G2 := Lib.hid g2
    clear g2
    go_wp2_with fail
    refine (madeMove_any _ mb xs _ nodes dy G2.out.mkr hx (by omega)).mono ?_
    rintro e w3 ⟨m, a3, rfl, hmv, hm3, ha3, hk3⟩
    have G3 := Lib.hid (G2.out.step hm3 hk3)
    have HT : Hid (w3.there w.heap.size 12 (mvCells m).size) := Lib.hid (G3.out.there 12 5 (by rw [HZ.out]; omega))
    have G4 : Hid (TS w mb xs a3 nodes (ltVal { l with move := m } s) (w3.setCells w.heap.size 12 (mvCells m).toList)) := Lib.hid (by have := G3.out.storeAll (mvCells m).toList 12; rw [put_move] at this; exact this)
    have HMV := Lib.hid hmv
    clear hm3 hk3 hmv
    clear g2c
    go_wp2_with (first
      | (with_reducible refine g_store 25 ?_; refine wpList_store_mid rfl _ _ _ rfl w.heap.size 12 (mvCells m) rfl rfl HT.out (mv_size _) (mv_one _) ?_)
      | (with_reducible refine g_load 36 ?_; refine wpList_load_Row rfl _ _ rfl w.heap.size rfl (ltVal { l with move := m } s) G4.out.row _ Tryz.underlying36 rfl (size62 _ _ HR.out) ?_)
      | (with_reducible refine g_store 36 ?_; refine wpList_store_row rfl _ _ _ rfl (w.heap.size + 1) (ltVal { l with move := m } s) rfl rfl 36 (ltVal zLt zSl) G4.out.res (size62 _ _ HR.out) (sz_eq _ _ HR.out) (ltVal_one _ _) ?_))
    exact bodyPost_ret (v := .agg (ltVal { l with move := m } s)) (results_cell_row rfl _ _ (w.heap.size + 1) _ (ltVal { l with move := m } s) (0, 0) _ rfl (setRow_heap _ _ _ _ _ _ G4.out.res) Tryz.underlying36 rfl (size62 _ _ HR.out)) rfl (G4.out.done_same (at_ := at_) (nodes := nodes) (.inr (.inl ⟨rfl, rfl, .inl ⟨.inl hk4, m, rfl, by rw [HMV.out.1]; exact HMV.out, .inl ⟨hk4, by rw [HMV.out.1]; exact d1, by rw [HMV.out.1]; exact d2⟩⟩⟩)) HM.out hlo rfl rfl (by omega) (by omega))
  by_cases hs1 : l.scope = 1
  · go_enter Tryz.func27, Tryz.ntmps27
    go_wp2_with (with_reducible refine g_alloc 36 ?_; refine wpList_alloc_as rfl _ rfl (ltVal zLt zSl) lt_zero ?_)
    refine (numeric_any 9 _).mono ?_
    rintro e w1 ⟨rfl, rfl⟩
    rw [show numB 9 = false from rfl]
    go_wp2_with fail
    refine (madeMove_any _ mb xs _ nodes l.day G0.out.mkr hx (by omega)).mono ?_
    rintro e w3 ⟨m, a3, rfl, hmv, hm3, ha3, hk3⟩
    have G3 := Lib.hid (G0.out.step hm3 hk3)
    have HT : Hid (w3.there w.heap.size 12 (mvCells m).size) := Lib.hid (G3.out.there 12 5 (by rw [HZ.out]; omega))
    have G4 : Hid (TS w mb xs a3 nodes (ltVal { l with move := m } s) (w3.setCells w.heap.size 12 (mvCells m).toList)) := Lib.hid (by have := G3.out.storeAll (mvCells m).toList 12; rw [put_move] at this; exact this)
    have HMV := Lib.hid hmv
    clear hm3 hk3 hmv
    go_wp2_with (first
      | (with_reducible refine g_store 25 ?_; refine wpList_store_mid rfl _ _ _ rfl w.heap.size 12 (mvCells m) rfl rfl HT.out (mv_size _) (mv_one _) ?_)
      | (with_reducible refine g_load 36 ?_; refine wpList_load_Row rfl _ _ rfl w.heap.size rfl (ltVal { l with move := m } s) G4.out.row _ Tryz.underlying36 rfl (size62 _ _ HR.out) ?_)
      | (with_reducible refine g_store 36 ?_; refine wpList_store_row rfl _ _ _ rfl (w.heap.size + 1) (ltVal { l with move := m } s) rfl rfl 36 (ltVal zLt zSl) G4.out.res (size62 _ _ HR.out) (sz_eq _ _ HR.out) (ltVal_one _ _) ?_))
    exact bodyPost_ret (v := .agg (ltVal { l with move := m } s)) (results_cell_row rfl _ _ (w.heap.size + 1) _ (ltVal { l with move := m } s) (0, 0) _ rfl (setRow_heap _ _ _ _ _ _ G4.out.res) Tryz.underlying36 rfl (size62 _ _ HR.out)) rfl (G4.out.done_same (at_ := at_) (nodes := nodes) (.inr (.inl ⟨rfl, rfl, .inl ⟨.inr hs1, m, rfl, by rw [HMV.out.1]; exact HMV.out, .inr ⟨hk4, HMV.out.1⟩⟩⟩)) HM.out hlo rfl rfl (by omega) (by omega))
  · go_enter Tryz.func27, Tryz.ntmps27
    go_wp2_with (with_reducible refine g_alloc 36 ?_; refine wpList_alloc_as rfl _ rfl (ltVal zLt zSl) lt_zero ?_)
    refine (numeric_any 9 _).mono ?_
    rintro e w1 ⟨rfl, rfl⟩
    rw [show numB 9 = false from rfl]
    go_wp2_with (first
      | (with_reducible refine g_load 36 ?_; refine wpList_load_Row rfl _ _ rfl w.heap.size rfl (ltVal l s) G0.out.row _ Tryz.underlying36 rfl (size62 _ _ HR.out) ?_)
      | (with_reducible refine g_store 36 ?_; refine wpList_store_row rfl _ _ _ rfl (w.heap.size + 1) (ltVal l s) rfl rfl 36 (ltVal zLt zSl) G0.out.res (size62 _ _ HR.out) (sz_eq _ _ HR.out) (ltVal_one _ _) ?_))
    exact bodyPost_ret (v := .agg (ltVal l s)) (results_cell_row rfl _ _ (w.heap.size + 1) _ (ltVal l s) (0, 0) _ rfl (setRow_heap _ _ _ _ _ _ G0.out.res) Tryz.underlying36 rfl (size62 _ _ HR.out)) rfl (G0.out.done_same (at_ := at_) (nodes := nodes) (.inr (.inl ⟨rfl, rfl, .inr ⟨hk4, hs1, rfl⟩⟩)) HM.out hlo rfl rfl (by omega) (by omega))
set_option maxRecDepth 10000 in
set_option maxHeartbeats 4000000 in
theorem made_series (w : World) (lo mb : Nat) (xs : List Int) (at_ nodes : Nat) (l : Lt) (s : Sl) (ns : List NdV) (h : MkSt w mb xs at_ nodes) (hx : XsOK xs) (hat : at_ ≤ 100000) (hnd : nodes ≤ 100000) (hmem : LtMem lo w l s ns) (hlo : mb < lo) (hlw : lo ≤ w.heap.size) (hr : l.ref.length = 32) :
    Calls Tryz.prog 27 #[pt mb, .agg (ltVal l s), I 10] w (MadeP w lo mb xs at_ nodes l s ns 10) := by
  have G0 : Hid (TS w mb xs at_ nodes (ltVal l s) ((w.alloc (.cells (ltVal l s) 36)).alloc (.cells (ltVal zLt zSl) 36))) := Lib.hid (TS.start h)
  have hml := h.lt
  have HM := Lib.hid hmem
  have HR := Lib.hid hr
  have HZ := Lib.hid (ltVal_size l s hr)
  clear h hmem hr
  by_cases hks : l.kind = 6 ∧ l.scope = 1
  · obtain ⟨hk6, hs1⟩ := hks
    go_enter Tryz.func27, Tryz.ntmps27
    go_wp2_with (with_reducible refine g_alloc 36 ?_; refine wpList_alloc_as rfl _ rfl (ltVal zLt zSl) lt_zero ?_)
    refine (numeric_any 10 _).mono ?_
    rintro e w1 ⟨rfl, rfl⟩
    rw [show numB 10 = false from rfl]
    go_wp2_with (first
      | (with_reducible refine g_load 36 ?_; refine wpList_load_Row rfl _ _ rfl w.heap.size rfl (ltVal l s) G0.out.row _ Tryz.underlying36 rfl (size62 _ _ HR.out) ?_)
      | (with_reducible refine g_store 36 ?_; refine wpList_store_row rfl _ _ _ rfl (w.heap.size + 1) (ltVal l s) rfl rfl 36 (ltVal zLt zSl) G0.out.res (size62 _ _ HR.out) (sz_eq _ _ HR.out) (ltVal_one _ _) ?_))
    exact bodyPost_ret (v := .agg (ltVal l s)) (results_cell_row rfl _ _ (w.heap.size + 1) _ (ltVal l s) (0, 0) _ rfl (setRow_heap _ _ _ _ _ _ G0.out.res) Tryz.underlying36 rfl (size62 _ _ HR.out)) rfl (G0.out.done_same (at_ := at_) (nodes := nodes) (.inr (.inr (.inl ⟨rfl, .inr ⟨hk6, hs1, rfl, rfl⟩⟩))) HM.out hlo rfl rfl (by omega) (by omega))
  have HKS : Hid (l.kind ≠ 6 ∨ l.scope ≠ 1) := Lib.hid (by omega)
  by_cases hk : l.kind = 6
  · have hs1 : l.scope ≠ 1 := fun e => hks ⟨hk, e⟩
    clear hks
    go_enter Tryz.func27, Tryz.ntmps27
    go_wp2_with (with_reducible refine g_alloc 36 ?_; refine wpList_alloc_as rfl _ rfl (ltVal zLt zSl) lt_zero ?_)
    refine (numeric_any 10 _).mono ?_
    rintro e w1 ⟨rfl, rfl⟩
    rw [show numB 10 = false from rfl]
    go_wp2_with fail
    refine (madeSeries_any _ mb xs at_ nodes G0.out.mkr hx hat hnd).mono ?_
    rintro e w3 ⟨ns', ms, mi, ln, zv, gp, fo, vr, vm, a3, n3, rfl, hsm, hm3, ha3, hn3, hk3⟩
    obtain ⟨B, cm, rfl⟩ := own_formA hsm.moves
    obtain ⟨A, cr, rfl⟩ := own_formA hsm.rule.row
    obtain ⟨se, hse⟩ : ∃ se : Ser, se = ⟨ns'.map (·.d), mi, ln, zv, gp, fo, ms⟩ := ⟨_, rfl⟩
    have hv : #[.slice A ns'.length cr, I mi, I ln, .string zv, I gp, I fo, .slice B ms.length cm] = seC se A B cr cm := by subst hse; simp [seC]
    rw [hv]
    have G3 := Lib.hid (G0.out.step hm3 hk3)
    have HT : Hid (w3.there w.heap.size 17 (seC se A B cr cm).size) := Lib.hid (G3.out.there 17 7 (by rw [HZ.out]; omega))
    have HSM := Lib.hid hsm
    have HSE := Lib.hid hse
    have G4 : Hid (TS w mb xs a3 n3 (ltVal { l with series := se } { s with A := A, c := cr, B := B, d := cm }) (w3.setCells w.heap.size 17 (seC se A B cr cm).toList)) := Lib.hid (by have := G3.out.storeAll (seC se A B cr cm).toList 17; rw [put_series] at this; exact this)
    have HK3 := Lib.hid hk3
    clear hm3 hk3 hsm hse hv
    go_wp2_with (first
      | (with_reducible refine g_store 30 ?_; refine wpList_store_mid rfl _ _ _ rfl w.heap.size 17 (seC se A B cr cm) rfl rfl HT.out (se_size _ _ _ _ _) (se_one _ _ _ _ _) ?_)
      | (with_reducible refine g_load 36 ?_; refine wpList_load_Row rfl _ _ rfl w.heap.size rfl (ltVal { l with series := se } { s with A := A, c := cr, B := B, d := cm }) G4.out.row _ Tryz.underlying36 rfl (size62 _ _ HR.out) ?_)
      | (with_reducible refine g_store 36 ?_; refine wpList_store_row rfl _ _ _ rfl (w.heap.size + 1) (ltVal { l with series := se } { s with A := A, c := cr, B := B, d := cm }) rfl rfl 36 (ltVal zLt zSl) G4.out.res (size62 _ _ HR.out) (sz_eq _ _ HR.out) (ltVal_one _ _) ?_))
    exact bodyPost_ret (v := .agg (ltVal { l with series := se } { s with A := A, c := cr, B := B, d := cm })) (results_cell_row rfl _ _ (w.heap.size + 1) _ (ltVal { l with series := se } { s with A := A, c := cr, B := B, d := cm }) (0, 0) _ rfl (setRow_heap _ _ _ _ _ _ G4.out.res) Tryz.underlying36 rfl (size62 _ _ HR.out)) rfl (made_ser_done HM.out hlo hlw HSE.out G4.out HSM.out HK3.out HKS.out (by omega) (by omega))
  · clear hks
    go_enter Tryz.func27, Tryz.ntmps27
    go_wp2_with (with_reducible refine g_alloc 36 ?_; refine wpList_alloc_as rfl _ rfl (ltVal zLt zSl) lt_zero ?_)
    refine (numeric_any 10 _).mono ?_
    rintro e w1 ⟨rfl, rfl⟩
    rw [show numB 10 = false from rfl]
    go_wp2_with fail
    refine (madeSeries_any _ mb xs at_ nodes G0.out.mkr hx hat hnd).mono ?_
    rintro e w3 ⟨ns', ms, mi, ln, zv, gp, fo, vr, vm, a3, n3, rfl, hsm, hm3, ha3, hn3, hk3⟩
    obtain ⟨B, cm, rfl⟩ := own_formA hsm.moves
    obtain ⟨A, cr, rfl⟩ := own_formA hsm.rule.row
    obtain ⟨se, hse⟩ : ∃ se : Ser, se = ⟨ns'.map (·.d), mi, ln, zv, gp, fo, ms⟩ := ⟨_, rfl⟩
    have hv : #[.slice A ns'.length cr, I mi, I ln, .string zv, I gp, I fo, .slice B ms.length cm] = seC se A B cr cm := by subst hse; simp [seC]
    rw [hv]
    have G3 := Lib.hid (G0.out.step hm3 hk3)
    have HT : Hid (w3.there w.heap.size 17 (seC se A B cr cm).size) := Lib.hid (G3.out.there 17 7 (by rw [HZ.out]; omega))
    have HSM := Lib.hid hsm
    have HSE := Lib.hid hse
    have G4 : Hid (TS w mb xs a3 n3 (ltVal { l with series := se } { s with A := A, c := cr, B := B, d := cm }) (w3.setCells w.heap.size 17 (seC se A B cr cm).toList)) := Lib.hid (by have := G3.out.storeAll (seC se A B cr cm).toList 17; rw [put_series] at this; exact this)
    have HK3 := Lib.hid hk3
    clear hm3 hk3 hsm hse hv
    go_wp2_with (first
      | (with_reducible refine g_store 30 ?_; refine wpList_store_mid rfl _ _ _ rfl w.heap.size 17 (seC se A B cr cm) rfl rfl HT.out (se_size _ _ _ _ _) (se_one _ _ _ _ _) ?_)
      | (with_reducible refine g_load 36 ?_; refine wpList_load_Row rfl _ _ rfl w.heap.size rfl (ltVal { l with series := se } { s with A := A, c := cr, B := B, d := cm }) G4.out.row _ Tryz.underlying36 rfl (size62 _ _ HR.out) ?_)
      | (with_reducible refine g_store 36 ?_; refine wpList_store_row rfl _ _ _ rfl (w.heap.size + 1) (ltVal { l with series := se } { s with A := A, c := cr, B := B, d := cm }) rfl rfl 36 (ltVal zLt zSl) G4.out.res (size62 _ _ HR.out) (sz_eq _ _ HR.out) (ltVal_one _ _) ?_))
    exact bodyPost_ret (v := .agg (ltVal { l with series := se } { s with A := A, c := cr, B := B, d := cm })) (results_cell_row rfl _ _ (w.heap.size + 1) _ (ltVal { l with series := se } { s with A := A, c := cr, B := B, d := cm }) (0, 0) _ rfl (setRow_heap _ _ _ _ _ _ G4.out.res) Tryz.underlying36 rfl (size62 _ _ HR.out)) rfl (made_ser_done HM.out hlo hlw HSE.out G4.out HSM.out HK3.out HKS.out (by omega) (by omega))
end Go.Proofs.YtenbgpcdoljkgaaGreatDoor

/- kalendsref20.made for the window. -/
namespace Go.Proofs.YtenbgpcdoljkgaaGreatDoor
open Go Go.RowKit

attribute [local go_sem] ltVal_get lt_get27
set_option maxRecDepth 10000 in
set_option maxHeartbeats 4000000 in
theorem made_window (w : World) (lo mb : Nat) (xs : List Int) (at_ nodes : Nat) (l : Lt) (s : Sl) (ns : List NdV) (h : MkSt w mb xs at_ nodes) (hx : XsOK xs) (hat : at_ ≤ 100000) (hmem : LtMem lo w l s ns) (hlo : mb < lo) (_hlw : lo ≤ w.heap.size) (hr : l.ref.length = 32) :
    Calls Tryz.prog 27 #[pt mb, .agg (ltVal l s), I 14] w (MadeP w lo mb xs at_ nodes l s ns 14) := by
  have G0 : Hid (TS w mb xs at_ nodes (ltVal l s) ((w.alloc (.cells (ltVal l s) 36)).alloc (.cells (ltVal zLt zSl) 36))) := Lib.hid (TS.start h)
  have hml := h.lt
  have HM := Lib.hid hmem
  have HR := Lib.hid hr
  have HZ := Lib.hid (ltVal_size l s hr)
  clear h hmem hr
  go_enter Tryz.func27, Tryz.ntmps27
  go_wp2_with (with_reducible refine g_alloc 36 ?_; refine wpList_alloc_as rfl _ rfl (ltVal zLt zSl) lt_zero ?_)
  refine (numeric_any 14 _).mono ?_
  rintro e w1 ⟨rfl, rfl⟩
  rw [show numB 14 = false from rfl]
  go_wp2_with fail
  refine (G0.out.pick hx 5000 (by omega) (by omega) (by omega)).mono ?_
  rintro e w2 ⟨x, rfl, x1, x2, -, g2⟩
  have g2c := g2.cell
  have g2f := g2.froz
  have hw1 : IntKind.i64.wrap (x - 1000) = x - 1000 := by rw [IntKind.wrap_i64]; omega
  have G2 : Hid (TS w mb xs _ nodes (ltVal { l with wfrom := x - 1000 } s) (w2.setCell ⟨w.heap.size, 27, none⟩ (I (x - 1000)))) := Lib.hid (by have := g2.store 27 (I (x - 1000)); rw [put_wfrom] at this; exact this)
  clear g2
  go_wp2_with fail
  clear g2c g2f
  have HGD : Hid (TS w mb xs (at_ + 1) nodes (ltVal { l with wfrom := x - 1000 } s) (w2.setCell ⟨w.heap.size, 27, none⟩ (I (x - 1000))).drew) := Lib.hid G2.out.drew
  have hc27 : (w2.setCell ⟨w.heap.size, 27, none⟩ (I (x - 1000))).cell? ⟨w.heap.size, 27, none⟩ = some (I (x - 1000)) := HGD.out.cell 27
  go_region_law (go_simp; go_at_call 26; refine (HGD.out.pick hx 5000 (by omega) (by omega) (by omega)).mono ?_; rintro e w5 ⟨y, rfl, y1, y2, -, g5⟩; have hc5 : w5.cell? ⟨w.heap.size, 27, none⟩ = some (I (x - 1000)) := g5.cell 27; have hc58 : w5.cell? ⟨w.heap.size, 28, none⟩ = some (I l.wto) := g5.cell 28; have hf58 := g5.froz 28; have hw2 : IntKind.i64.wrap (x - 1000 + y) = x - 1000 + y := (by rw [IntKind.wrap_i64]; omega); have G5 : Hid (TS w mb xs (at_ + 1 + 1) nodes (ltVal { l with wfrom := x - 1000, wto := x - 1000 + y } s) (w5.setCell ⟨w.heap.size, 28, none⟩ (I (x - 1000 + y)))) := Lib.hid (by have := g5.store 28 (I (x - 1000 + y)); rw [put_wto] at this; exact this); clear g5)
  all_goals
    go_wp2_with (first
      | (with_reducible refine g_load 36 ?_; refine wpList_load_Row rfl _ _ rfl w.heap.size rfl (ltVal { l with wfrom := x - 1000, wto := x - 1000 + y } s) G5.out.row _ Tryz.underlying36 rfl (size62 _ _ HR.out) ?_)
      | (with_reducible refine g_store 36 ?_; refine wpList_store_row rfl _ _ _ rfl (w.heap.size + 1) (ltVal { l with wfrom := x - 1000, wto := x - 1000 + y } s) rfl rfl 36 (ltVal zLt zSl) G5.out.res (size62 _ _ HR.out) (sz_eq _ _ HR.out) (ltVal_one _ _) ?_))
    exact bodyPost_ret (v := .agg (ltVal { l with wfrom := x - 1000, wto := x - 1000 + y } s)) (results_cell_row rfl _ _ (w.heap.size + 1) _ (ltVal { l with wfrom := x - 1000, wto := x - 1000 + y } s) (0, 0) _ rfl (setRow_heap _ _ _ _ _ _ G5.out.res) Tryz.underlying36 rfl (size62 _ _ HR.out)) rfl (G5.out.done_same (at_ := at_) (nodes := nodes) (.inr (.inr (.inr (.inl ⟨rfl, rfl, x - 1000, x - 1000 + y, by omega, by omega, by omega, rfl⟩)))) HM.out hlo rfl rfl (by omega) (by omega))
end Go.Proofs.YtenbgpcdoljkgaaGreatDoor

/- kalendsref20.made for the cells. -/
namespace Go.Proofs.YtenbgpcdoljkgaaGreatDoor
open Go Go.RowKit

theorem put_cells (l : Lt) (s : Sl) (zs : List Int) (C : Option Addr) (n e : Nat) (hn : zs.length = n) : (ltVal l s).setIfInBounds 29 (.slice C n e) = ltVal { l with cells := zs } { s with C := C, e := e } := by
  subst hn
  simp [ltVal, ltCells]
theorem TS.grown {w0 W w' : World} {mb a nd base e size n : Nat} {xs : List Int} {cs : Array Value} {v : Value} {ys : List Value} {o : Obj} (h : TS w0 mb xs a nd cs W) (hown : W.ownsRow base e size v n ys) (hb : w0.heap.size + 1 < base) (hg : (W.alloc o).grownBy w' v.ownBlock) : TS w0 mb xs a nd cs w' := by
  have h1 := h.hm
  have h4 := h.lt
  have hs := h.keep.size
  have hB : ∀ k, k < W.heap.size → k < base → w'.heap[k]? = W.heap[k]? := fun k hk hkb => by rw [hg.block k (by simp; omega) (own_ge hown k hkb), Below.heap_alloc W o k hk]
  exact ⟨h.hm, (mk_grown h.mkr hown (by omega) hg).1, ⟨hg.os.trans h.keep.os, hg.tape.trans h.keep.tape, hg.output.trans h.keep.output, by have := hg.size; simp at this; omega, fun k hk hn => (hB k (by omega) (by omega)).trans (h.keep.block k hk hn)⟩, (hB _ (by omega) (by omega)).trans h.var, (hB _ (by omega) (by omega)).trans h.res⟩
structure CP (nn : Int) (j : Nat) (zs : List Int) : Prop where
  len : zs.length = j
  rng : ∀ z ∈ zs, 0 ≤ z ∧ z < nn
  up : zs.Pairwise (· < ·)
  lo : 0 ≤ nn
  hi : nn ≤ 3 + 2 * j
  top : ∀ z ∈ zs, z ≤ 1 + 2 * (j : Int)
theorem CP.more {nn : Int} {j : Nat} {zs : List Int} (h : CP nn j zs) {r : Int} (h0 : 0 ≤ r) (h1 : r < 2) : CP (nn + 1 + r) (j + 1) (zs ++ [nn]) := by
  have hl := h.lo
  have hh := h.hi
  refine ⟨by rw [List.length_append, h.len]; rfl, fun z hz => ?_, ?_, by omega, by push_cast; omega, fun z hz => ?_⟩
  · rcases List.mem_append.1 hz with hz | hz
    · have := h.rng z hz; omega
    · rw [List.mem_singleton.1 hz]; omega
  · rw [List.pairwise_append]
    exact ⟨h.up, List.pairwise_singleton _ _, fun a ha b hb => by rw [List.mem_singleton.1 hb]; exact (h.rng a ha).2⟩
  · rcases List.mem_append.1 hz with hz | hz
    · have := h.top z hz; push_cast; omega
    · rw [List.mem_singleton.1 hz]; push_cast; omega
def ClRel (w : World) (mb : Nat) (xs : List Int) (a0 nodes : Nat) (l : Lt) (s : Sl) (kk : Int) (n i : Value) (wr : World) : Prop :=
  ∃ (j : Nat) (nn : Int) (zs : List Int) (a' : Nat) (C : Option Addr) (e : Nat), (j : Int) ≤ kk ∧ i = I j ∧ n = I nn ∧ CP nn j zs ∧ a' ≤ a0 + j ∧
    TS w mb xs a' nodes (ltVal { l with cells := zs } { s with C := C, e := e }) wr ∧ wr.ownsRow (w.heap.size + 2) 3 1 (.slice C j e) j (zs.map I)
theorem cells_done {w wr : World} {lo mb a nodes at_ j e : Nat} {xs : List Int} {l : Lt} {s : Sl} {ns : List NdV} {zs : List Int} {nn : Int} {C : Option Addr} (hm : LtMem lo w l s ns) (hlo : mb < lo) (hlw : lo ≤ w.heap.size) (h : TS w mb xs a nodes (ltVal { l with cells := zs } { s with C := C, e := e }) wr)
    (ho : wr.ownsRow (w.heap.size + 2) 3 1 (.slice C j e) j (zs.map I)) (hp : CP nn j zs) (h1 : 1 ≤ j) (h5 : j ≤ 5) (ha : a ≤ at_ + 400) :
    MadeP w lo mb xs at_ nodes l s ns 15 (.returned (.agg (ltVal { l with cells := zs } { s with C := C, e := e }))) (wr.setRow (w.heap.size + 1) (ltVal { l with cells := zs } { s with C := C, e := e })) := by
  have hml := h.hm
  have hl := hp.len
  have hpl := hp.lo
  have hhi := hp.hi
  refine h.done (.inr (.inr (.inr (.inr (.inl ⟨rfl, rfl, zs, rfl, ⟨by omega, by omega, fun z hz => ?_, hp.up⟩⟩))))) ?_ (fun h => absurd rfl h) ha (by omega)
  · refine ⟨(hp.rng z hz).1, ?_⟩
    have := hp.top z hz
    omega
  · have k := hm.mkeep (h.fin (ltVal { l with cells := zs } { s with C := C, e := e })).2 hlo
    refine ⟨k.rule, k.names, k.moves, ?_⟩
    show World.ownsRow _ _ _ _ (.slice C zs.length e) zs.length _
    rw [hl]
    exact ownsRow_base' (ownsRow_blocks ho fun k hk _ => setRow_other _ _ k _ (by omega)) (by omega)
attribute [local go_sem] ltVal_get lt_get29
set_option maxRecDepth 10000 in
set_option maxHeartbeats 4000000 in
theorem made_cells (w : World) (lo mb : Nat) (xs : List Int) (at_ nodes : Nat) (l : Lt) (s : Sl) (ns : List NdV) (h : MkSt w mb xs at_ nodes) (hx : XsOK xs) (hat : at_ ≤ 100000) (hc0 : l.cells = []) (hC : s.C = none) (he : s.e = 0) (hmem : LtMem lo w l s ns) (hlo : mb < lo) (hlw : lo ≤ w.heap.size) (hr : l.ref.length = 32) :
    Calls Tryz.prog 27 #[pt mb, .agg (ltVal l s), I 15] w (MadeP w lo mb xs at_ nodes l s ns 15) := by
  have G0 : Hid (TS w mb xs at_ nodes (ltVal l s) ((w.alloc (.cells (ltVal l s) 36)).alloc (.cells (ltVal zLt zSl) 36))) := Lib.hid (TS.start h)
  have hml := h.lt
  have HM := Lib.hid hmem
  have HR := Lib.hid hr
  have HZ := Lib.hid (ltVal_size l s hr)
  clear h hmem hr
  go_enter Tryz.func27, Tryz.ntmps27
  go_wp2_with (with_reducible refine g_alloc 36 ?_; refine wpList_alloc_as rfl _ rfl (ltVal zLt zSl) lt_zero ?_)
  refine (numeric_any 15 _).mono ?_
  rintro e w1 ⟨rfl, rfl⟩
  rw [show numB 15 = false from rfl]
  go_wp2_with fail
  refine (G0.out.pick hx 4 (by omega) (by omega) (by omega)).mono ?_
  rintro e w2 ⟨n0, rfl, n1, n2, -, g2⟩
  have G2 := Lib.hid g2
  clear g2
  go_wp2_with fail
  refine (G2.out.pick hx 5 (by omega) (by omega) (by omega)).mono ?_
  rintro e w3 ⟨k0, rfl, k1, k2, -, g3⟩
  have G3 := Lib.hid g3
  clear g3
  go_wp2_with fail
  have GL : Hid (TS w mb xs (at_ + 1 + 1) nodes (ltVal { l with cells := [] } { s with C := none, e := 0 }) w3) := Lib.hid (by have := G3.out; rw [show ltVal { l with cells := [] } { s with C := none, e := 0 } = ltVal l s by unfold ltVal; rw [hc0, hC, he]; rfl]; exact this)
  clear G0 G2 G3 hc0 hC he
  go_loopw [10, 12] (fun n i wr => ClRel w mb xs (at_ + 2) nodes l s (1 + k0) n i wr) (fun _ i _ => (1 + k0 - intOf i).toNat)
  case atStart => exact ⟨0, n0, [], _, none, 0, by omega, rfl, rfl, ⟨rfl, (fun z hz => nomatch hz), List.Pairwise.nil, n1, by omega, (fun z hz => nomatch hz)⟩, by omega, GL.out, World.ownsRow_nil _ _ _ _⟩
  case round =>
    obtain ⟨j, nn, zs, a', C, e, hj, rfl, rfl, hcp, ha', hts, hown⟩ := hrel
    have HG := Lib.hid hts
    have HO := Lib.hid hown
    have HP := Lib.hid hcp
    have hlt1 := hts.lt
    have hpl := hcp.lo
    have hhi := hcp.hi
    have hc29 : wr.cell? ⟨w.heap.size, 29, none⟩ = some (.slice C j e) := by rw [hts.cell, ← hcp.len]; rfl
    clear hts hown hcp GL
    by_cases hlt : (j : Int) < 1 + k0
    · go_wp2_with (at_builtin; refine wpList_app_int rfl _ _ rfl (w.heap.size + 2) _ j (zs.map I) rfl HO.out nn rfl (by omega) (by omega) ?_)
      intro v' w4 hown' hgrow
      obtain ⟨gg, cap, rfl⟩ := ownsRow_succ hown'
      have hg4 := HG.out.grown HO.out (by omega) hgrow
      have hc4 : w4.cell? ⟨w.heap.size, 29, none⟩ = some (.slice C zs.length e) := hg4.cell 29
      have hf4 := hg4.froz 29
      have G4 : Hid (TS w mb xs a' nodes (ltVal { l with cells := zs ++ [nn] } { s with C := some ⟨gg, 0, none⟩, e := cap }) (w4.setCell ⟨w.heap.size, 29, none⟩ (.slice (some ⟨gg, 0, none⟩) (j + 1) cap))) := Lib.hid (by have := hg4.store 29 (.slice (some ⟨gg, 0, none⟩) (j + 1) cap); rw [put_cells _ _ (zs ++ [nn]) _ _ _ (by rw [List.length_append, HP.out.len]; rfl)] at this; exact this)
      have HO4 := Lib.hid (ownsRow_setCell_below (a := ⟨w.heap.size, 29, none⟩) hown' (by show w.heap.size < _; omega) (.slice (some ⟨gg, 0, none⟩) (j + 1) cap))
      clear hown' hgrow hg4 hc29
      go_wp2_with fail
      refine (G4.out.pick hx 2 (by omega) (by omega) (by omega)).mono ?_
      rintro e w5 ⟨r, rfl, r1, r2, hk5, g5⟩
      have G5 := Lib.hid g5
      have HO5 := Lib.hid (ownsRow_mkeep HO4.out hk5 (by omega))
      clear hk5 g5 hc4 hf4
      go_wp2_with fail
      go_roundw
      case rel => exact ⟨j + 1, _, zs ++ [nn], _, _, _, by omega, by go_num, by first | rfl | go_num, HP.out.more r1 r2, by omega, G5.out, by rw [List.map_append]; exact HO5.out⟩
      case measure => simp [intOf]; omega
    · go_wp2_with (first
        | (with_reducible refine g_load 36 ?_; refine wpList_load_Row rfl _ _ rfl w.heap.size rfl (ltVal { l with cells := zs } { s with C := C, e := e }) HG.out.row _ Tryz.underlying36 rfl (size62 _ _ HR.out) ?_)
        | (with_reducible refine g_store 36 ?_; refine wpList_store_row rfl _ _ _ rfl (w.heap.size + 1) (ltVal { l with cells := zs } { s with C := C, e := e }) rfl rfl 36 (ltVal zLt zSl) HG.out.res (size62 _ _ HR.out) (sz_eq _ _ HR.out) (ltVal_one _ _) ?_))
      exact bodyPost_ret (v := .agg (ltVal { l with cells := zs } { s with C := C, e := e })) (results_cell_row rfl _ _ (w.heap.size + 1) _ (ltVal { l with cells := zs } { s with C := C, e := e }) (0, 0) _ rfl (setRow_heap _ _ _ _ _ _ HG.out.res) Tryz.underlying36 rfl (size62 _ _ HR.out)) rfl (cells_done HM.out hlo hlw HG.out HO.out HP.out (by omega) (by omega) (by omega))
end Go.Proofs.YtenbgpcdoljkgaaGreatDoor

/- kalendsref20.made for the digest; made for every field. -/
namespace Go.Proofs.YtenbgpcdoljkgaaGreatDoor
open Go Go.RowKit

theorem put_ref (l : Lt) (s : Sl) (o : Nat) (x : Int) (h0 : 0 ≤ x) (h1 : x < 256) : ∃ b : UInt8, (ltVal l s).setIfInBounds (30 + o) (.int .u8 x) = ltVal { l with ref := l.ref.set o b } s := by
  obtain ⟨n, rfl⟩ := Int.eq_ofNat_of_zero_le h0
  refine ⟨UInt8.ofNat n, ?_⟩
  have hb : Extern.Stop.cell (UInt8.ofNat n) = .int .u8 (n : Int) := by
    unfold Extern.Stop.cell
    simp
    omega
  unfold ltVal ltCells refCells
  rw [List.setIfInBounds_toArray, List.set_append_right _ _ (by simp), List.map_set, hb]
  simp
def RfRel (w : World) (mb : Nat) (xs : List Int) (a0 nodes : Nat) (l : Lt) (s : Sl) (i : Value) (wr : World) : Prop :=
  ∃ (j : Nat) (r : List UInt8) (a' : Nat), j ≤ 4 ∧ i = I j ∧ r.length = 32 ∧ a' ≤ a0 + j ∧ TS w mb xs a' nodes (ltVal { l with ref := r } s) wr
attribute [local go_sem] ltVal_get
set_option maxRecDepth 10000 in
set_option maxHeartbeats 4000000 in
theorem made_ref (w : World) (lo mb : Nat) (xs : List Int) (at_ nodes : Nat) (l : Lt) (s : Sl) (ns : List NdV) (h : MkSt w mb xs at_ nodes) (hx : XsOK xs) (hat : at_ ≤ 100000) (hmem : LtMem lo w l s ns) (hlo : mb < lo) (_hlw : lo ≤ w.heap.size) (hr : l.ref.length = 32) :
    Calls Tryz.prog 27 #[pt mb, .agg (ltVal l s), I 16] w (MadeP w lo mb xs at_ nodes l s ns 16) := by
  have G0 : Hid (TS w mb xs at_ nodes (ltVal l s) ((w.alloc (.cells (ltVal l s) 36)).alloc (.cells (ltVal zLt zSl) 36))) := Lib.hid (TS.start h)
  have hml := h.lt
  have HM := Lib.hid hmem
  have HR := Lib.hid hr
  have HZ := Lib.hid (ltVal_size l s hr)
  clear h hmem hr
  go_enter Tryz.func27, Tryz.ntmps27
  go_wp2_with (with_reducible refine g_alloc 36 ?_; refine wpList_alloc_as rfl _ rfl (ltVal zLt zSl) lt_zero ?_)
  refine (numeric_any 16 _).mono ?_
  rintro e w1 ⟨rfl, rfl⟩
  rw [show numB 16 = false from rfl]
  go_wp2_with fail
  clear HZ
  go_loopw [13] (fun i wr => RfRel w mb xs at_ nodes l s i wr) (fun i _ => (4 - intOf i).toNat)
  case atStart => exact ⟨0, l.ref, _, by omega, rfl, HR.out, by omega, G0.out⟩
  case round =>
    obtain ⟨j, r, a', hj, rfl, hrl, ha', hts⟩ := hrel
    have HG := Lib.hid hts
    have HRL := Lib.hid hrl
    have hlt1 := hts.lt
    clear hts hrl G0
    by_cases hlt : (j : Int) < 4
    · have hj4 : j = 0 ∨ j = 1 ∨ j = 2 ∨ j = 3 := by omega
      rcases hj4 with rfl | rfl | rfl | rfl
      · go_wp2_with fail
        refine (HG.out.pick hx 256 (by omega) (by omega) (by omega)).mono ?_
        rintro e w2 ⟨x, rfl, x1, x2, -, g2⟩
        have hcx : ∃ v, w2.cell? ⟨w.heap.size, 30, none⟩ = some v := ⟨_, (g2.cell 30).trans (Array.getElem?_eq_getElem (by rw [ltVal_size _ _ HRL.out]; omega))⟩
        obtain ⟨v0, hc2⟩ := hcx
        have hf2 := g2.froz 30
        have hwx : IntKind.u8.wrap x = x := by rw [IntKind.wrap_u8]; omega
        obtain ⟨b, hb⟩ := put_ref { l with ref := r } s 0 x x1 x2
        have G3 : Hid (TS w mb xs (a' + 1) nodes (ltVal { l with ref := r.set 0 b } s) (w2.setCell ⟨w.heap.size, 30, none⟩ (.int .u8 x))) := Lib.hid (by have := g2.store 30 (.int .u8 x); rw [show 30 = 30 + 0 from rfl, hb] at this; exact this)
        have HLN : Hid ((r.set 0 b).length = 32) := Lib.hid (by rw [List.length_set]; exact HRL.out)
        clear g2 hb
        go_wp2_with fail
        go_roundw
        case rel => exact ⟨1, _, _, by omega, by go_num, HLN.out, by omega, G3.out⟩
        case measure => simp [intOf]
      · go_wp2_with fail
        refine (HG.out.pick hx 256 (by omega) (by omega) (by omega)).mono ?_
        rintro e w2 ⟨x, rfl, x1, x2, -, g2⟩
        have hcx : ∃ v, w2.cell? ⟨w.heap.size, 38, none⟩ = some v := ⟨_, (g2.cell 38).trans (Array.getElem?_eq_getElem (by rw [ltVal_size _ _ HRL.out]; omega))⟩
        obtain ⟨v0, hc2⟩ := hcx
        have hf2 := g2.froz 38
        have hwx : IntKind.u8.wrap x = x := by rw [IntKind.wrap_u8]; omega
        obtain ⟨b, hb⟩ := put_ref { l with ref := r } s 8 x x1 x2
        have G3 : Hid (TS w mb xs (a' + 1) nodes (ltVal { l with ref := r.set 8 b } s) (w2.setCell ⟨w.heap.size, 38, none⟩ (.int .u8 x))) := Lib.hid (by have := g2.store 38 (.int .u8 x); rw [show 38 = 30 + 8 from rfl, hb] at this; exact this)
        have HLN : Hid ((r.set 8 b).length = 32) := Lib.hid (by rw [List.length_set]; exact HRL.out)
        clear g2 hb
        go_wp2_with fail
        go_roundw
        case rel => exact ⟨2, _, _, by omega, by go_num, HLN.out, by omega, G3.out⟩
        case measure => simp [intOf]
      · go_wp2_with fail
        refine (HG.out.pick hx 256 (by omega) (by omega) (by omega)).mono ?_
        rintro e w2 ⟨x, rfl, x1, x2, -, g2⟩
        have hcx : ∃ v, w2.cell? ⟨w.heap.size, 46, none⟩ = some v := ⟨_, (g2.cell 46).trans (Array.getElem?_eq_getElem (by rw [ltVal_size _ _ HRL.out]; omega))⟩
        obtain ⟨v0, hc2⟩ := hcx
        have hf2 := g2.froz 46
        have hwx : IntKind.u8.wrap x = x := by rw [IntKind.wrap_u8]; omega
        obtain ⟨b, hb⟩ := put_ref { l with ref := r } s 16 x x1 x2
        have G3 : Hid (TS w mb xs (a' + 1) nodes (ltVal { l with ref := r.set 16 b } s) (w2.setCell ⟨w.heap.size, 46, none⟩ (.int .u8 x))) := Lib.hid (by have := g2.store 46 (.int .u8 x); rw [show 46 = 30 + 16 from rfl, hb] at this; exact this)
        have HLN : Hid ((r.set 16 b).length = 32) := Lib.hid (by rw [List.length_set]; exact HRL.out)
        clear g2 hb
        go_wp2_with fail
        go_roundw
        case rel => exact ⟨3, _, _, by omega, by go_num, HLN.out, by omega, G3.out⟩
        case measure => simp [intOf]
      · go_wp2_with fail
        refine (HG.out.pick hx 256 (by omega) (by omega) (by omega)).mono ?_
        rintro e w2 ⟨x, rfl, x1, x2, -, g2⟩
        have hcx : ∃ v, w2.cell? ⟨w.heap.size, 54, none⟩ = some v := ⟨_, (g2.cell 54).trans (Array.getElem?_eq_getElem (by rw [ltVal_size _ _ HRL.out]; omega))⟩
        obtain ⟨v0, hc2⟩ := hcx
        have hf2 := g2.froz 54
        have hwx : IntKind.u8.wrap x = x := by rw [IntKind.wrap_u8]; omega
        obtain ⟨b, hb⟩ := put_ref { l with ref := r } s 24 x x1 x2
        have G3 : Hid (TS w mb xs (a' + 1) nodes (ltVal { l with ref := r.set 24 b } s) (w2.setCell ⟨w.heap.size, 54, none⟩ (.int .u8 x))) := Lib.hid (by have := g2.store 54 (.int .u8 x); rw [show 54 = 30 + 24 from rfl, hb] at this; exact this)
        have HLN : Hid ((r.set 24 b).length = 32) := Lib.hid (by rw [List.length_set]; exact HRL.out)
        clear g2 hb
        go_wp2_with fail
        go_roundw
        case rel => exact ⟨4, _, _, by omega, by go_num, HLN.out, by omega, G3.out⟩
        case measure => simp [intOf]
    · have HR0 := HR
      clear HR
      have HR : Hid (r.length = 32) := HRL
      go_wp2_with (first
        | (with_reducible refine g_load 36 ?_; refine wpList_load_Row rfl _ _ rfl w.heap.size rfl (ltVal { l with ref := r } s) HG.out.row _ Tryz.underlying36 rfl (size62 _ _ HR.out) ?_)
        | (with_reducible refine g_store 36 ?_; refine wpList_store_row rfl _ _ _ rfl (w.heap.size + 1) (ltVal { l with ref := r } s) rfl rfl 36 (ltVal zLt zSl) HG.out.res (size62 _ _ HR.out) (sz_eq _ _ HR.out) (ltVal_one _ _) ?_))
      exact bodyPost_ret (v := .agg (ltVal { l with ref := r } s)) (results_cell_row rfl _ _ (w.heap.size + 1) _ (ltVal { l with ref := r } s) (0, 0) _ rfl (setRow_heap _ _ _ _ _ _ HG.out.res) Tryz.underlying36 rfl (size62 _ _ HR.out)) rfl (HG.out.done_same (at_ := at_) (nodes := nodes) (.inr (.inr (.inr (.inr (.inr ⟨rfl, rfl, r, HR.out, rfl⟩))))) HM.out hlo rfl rfl (by omega) (by omega))
theorem made_any (w : World) (lo mb : Nat) (xs : List Int) (at_ nodes : Nat) (l : Lt) (s : Sl) (ns : List NdV) (f : Nat) (h : MkSt w mb xs at_ nodes) (hx : XsOK xs) (hat : at_ ≤ 100000) (hnd : nodes ≤ 100000) (hmem : LtMem lo w l s ns) (hlo : mb < lo) (hlw : lo ≤ w.heap.size) (hr : l.ref.length = 32) (hf : f < 17)
    (hC : f = 15 → l.cells = [] ∧ s.C = none ∧ s.e = 0) : Calls Tryz.prog 27 #[pt mb, .agg (ltVal l s), I f] w (MadeP w lo mb xs at_ nodes l s ns f) := by
  cases hn : numB f with
  | true => exact made_num w lo mb xs at_ nodes l s ns f h hx hat hmem hlo hr hf hn
  | false =>
    have h5 : f = 9 ∨ f = 10 ∨ f = 14 ∨ f = 15 ∨ f = 16 := by simp [numB] at hn; omega
    rcases h5 with rfl | rfl | rfl | rfl | rfl
    · exact made_move w lo mb xs at_ nodes l s ns h hx hat hmem hlo hlw hr
    · exact made_series w lo mb xs at_ nodes l s ns h hx hat hnd hmem hlo hlw hr
    · exact made_window w lo mb xs at_ nodes l s ns h hx hat hmem hlo hlw hr
    · obtain ⟨h1, h2, h3⟩ := hC rfl
      exact made_cells w lo mb xs at_ nodes l s ns h hx hat h1 h2 h3 hmem hlo hlw hr
    · exact made_ref w lo mb xs at_ nodes l s ns h hx hat hmem hlo hlw hr
end Go.Proofs.YtenbgpcdoljkgaaGreatDoor
