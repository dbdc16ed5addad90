/- The texts UnW, SvS, RsQ, RsR, RdL, RdI, RdW, RdM, RdT, in this order. -/
import Derived.Test.YtenbgpcdoljkgaaGreatDoorG04
import Derived.Test.YtenbgpcdoljkgaaGreatDoorG08
import Derived.Test.YtenbgpcdoljkgaaGreatDoorSan
import Derived.Test.YtenbgpcdoljkgaaGreatDoorG07
import Derived.Defers
import Derived.Recover
import Derived.Lib.ByteType
import Derived.Deep.RegionHeld3
import Derived.Test.YtenbgpcdoljkgaaGreatDoorReadW
/- The letters' functions at a letter that was made and its neighbour with another number: Same, kalendsref20.Same; Valid, Bytes where the number is not used; kalendsref20.Mod. -/
namespace Go.Proofs.YtenbgpcdoljkgaaGreatDoor
open Go Go.RowKit

theorem LtMem.grow {lo : Nat} {w w' : World} {l : Lt} {s : Sl} {ns : List NdV} (h : LtMem lo w l s ns) (hb : Below w.heap.size w w') (hlo : 0 < lo) : LtMem lo w' l s ns := h.mkeep (MKeep.of_below (mb := 0) hb) hlo
theorem sameL_num (l : Lt) (s : Sl) (ns : List NdV) (lo k : Nat) (x : Int) (W : World) (hm : MadeLt l ns) (mem : LtMem lo W l s ns) (hlo : 0 < lo) :
    Calls Tryz.prog 12 #[.agg (ltVal l s), .agg (ltVal (setNum l k x) s)] W (Gives (.bool (numsEq l (setNum l k x))) W) := by
  have hl := hm.lens
  have h := same_any l (setNum l k x) s s W hm.ok (hm.ok.num k x) true true true
    (fun w' hb => by
      have m' := mem.grow hb hlo
      have := eqInts_any s.C s.C s.e s.e l.cells l.cells w' m'.ints m'.ints (by omega)
      rw [beq_self_eq_true] at this
      rw [setNum_cellsL]; exact this)
    (fun w' hb => by
      have m' := mem.grow hb hlo
      rw [setNum_series]
      exact eqMoves_eq s.B s.B s.d s.d l.series.moves w' m'.mvs m'.mvs (by omega) _ rfl)
    (fun w' hb => by
      have m' := mem.grow hb hlo
      rw [setNum_series]
      exact eqRule_eq s.A s.A s.c s.c ns ns w' rfl (m'.rules hl.2.2.2) (m'.rules hl.2.2.2) (by have h1 := hl.1; rw [mem.names, List.length_map] at h1; omega) _ (by rw [mem.names, List.length_map]))
  rw [headEq_num, setNum_series, serEq_same] at h
  simpa using h
theorem refSame_num (l : Lt) (s : Sl) (ns : List NdV) (lo k : Nat) (x : Int) (W : World) (hm : MadeLt l ns) (mem : LtMem lo W l s ns) (hlo : 0 < lo) :
    Calls Tryz.prog 16 #[.agg (ltVal l s), .agg (ltVal (setNum l k x) s)] W (Gives (.bool (numsEq l (setNum l k x))) W) := by
  have hl := hm.lens
  refine refSame_twin l (setNum l k x) s s W ⟨(setNum_kind _ _ _).symm, (setNum_src _ _ _).symm, (setNum_dst _ _ _).symm, (setNum_move _ _ _).symm, (setNum_wfrom _ _ _).symm, (setNum_wto _ _ _).symm, (setNum_ref _ _ _).symm, (setNum_cellsL _ _ _).symm, (setNum_series _ _ _).symm, hm.ref⟩
    (fun w' hb => ?_) (fun w' hb => ?_)
  · have m' := mem.grow hb hlo
    have := sameInts_any s.C s.C s.e s.e l.cells l.cells w' m'.ints m'.ints (by omega)
    rw [beq_self_eq_true] at this
    rw [setNum_cellsL]; exact this
  · have m' := mem.grow hb hlo
    rw [setNum_series]
    exact refSeries_eq l.series s.A s.A s.B s.B s.c s.c s.d s.d ns ns w' mem.names mem.names (m'.rules hl.2.2.2) (m'.rules hl.2.2.2) m'.mvs m'.mvs (by omega) (by omega)
theorem valid_bad (m : Lt) (s : Sl) (W : World) (hok : LtOK m) (hi : IntsAt W W.heap.size s.C m.cells) (hh : headOK m = true) (hb : bodyOK m = false) : Calls Tryz.prog 17 #[.agg (ltVal m s)] W (Gives (I 1) W) := by
  have h := valid_nos m s W hok hi hh (fun h => by rw [hb] at h; cases h)
  have e : vCode m 0 = 1 := by unfold vCode; rw [hh, hb]; rfl
  rw [e] at h
  exact h
theorem bytes_bad (m : Lt) (s : Sl) (W : World) (hok : LtOK m) (hi : IntsAt W W.heap.size s.C m.cells) (hh : headOK m = true) (hb : bodyOK m = false) : Calls Tryz.prog 8 #[.agg (ltVal m s)] W (Gives (.tuple #[.slice none 0 0, I 1]) W) :=
  (bytes_no m s [] W 1 hok.ref rfl (fun w' hb' => valid_bad m s w' hok ((hi.keep hb').more hb'.size) hh hb)).mono fun _ _ h => ⟨h.1, h.2⟩
set_option maxRecDepth 10000 in
theorem refMod_any (a b : Int) (w : World) (hb : 0 < b) (hb2 : b ≤ 1000000000000000000) (ha : fits a) : Calls Tryz.prog 13 #[I a, I b] w fun e w' => e = .returned (I (a % b)) ∧ w' = w := by
  have HM := Lib.hid (mod_any a b w hb hb2 ha)
  clear ha hb hb2
  go_enter Tryz.func13, Tryz.ntmps13
  go_wp2_with fail
  refine HM.out.mono ?_
  rintro e w1 ⟨rfl, rfl⟩
  go_wp2_with fail
  go_ret
  exact ⟨rfl, rfl⟩
end Go.Proofs.YtenbgpcdoljkgaaGreatDoor

/- letter.Valid of a letter that was made: yes. -/
namespace Go.Proofs.YtenbgpcdoljkgaaGreatDoor
open Go Go.RowKit

theorem valid_made (l : Lt) (s : Sl) (ns : List NdV) (lo : Nat) (w : World) (hl : MadeLt l ns) (hm : LtMem lo w l s ns) (hlo : 0 < lo) : Calls Tryz.prog 17 #[.agg (ltVal l s)] w (Gives (I 0) w) := by
  have hv := hl.v
  have hlen := hl.lens
  cases hn : noSerB l with
  | true =>
    have h := valid_nos l s w hl.ok hm.ints hl.head (fun _ _ => hn)
    have e : vCode l 0 = 0 := by unfold vCode; rw [hl.head, hv.body, hn, if_neg (by decide), if_neg (by decide), if_neg (by omega), if_pos rfl]
    rw [e] at h
    exact h
  | false =>
    obtain ⟨hu, hz⟩ := noSerB_no hn
    rcases hv.ser with h | ⟨_, hnz, hs⟩
    · rw [hn] at h; cases h
    · refine valid_ser l s w 0 hl.ok hm.ints hl.head hv.body (by omega) hu hz (fun w' cb cc xs hb hc => ?_)
      have m' := hm.grow hb hlo
      exact seriesValid_yes l.series s.A s.B s.c s.d l.series.rule.length l.series.moves.length cb cc ns xs w' (m'.rules hlen.2.2.2) (by rw [m'.names, List.length_map]) hs.rulesOK m'.mvs rfl hs.good hc
end Go.Proofs.YtenbgpcdoljkgaaGreatDoor

/- series.Read: its deferred closure, the series under way. -/
namespace Go.Proofs.YtenbgpcdoljkgaaGreatDoor
open Go Go.RowKit

/-- Numbers in memory that is neither older than lo nor the row's own. -/
def LN (lo : Nat) (w : World) (v : Value) (A : Option Addr) (zs : List Int) : Prop :=
  zs.length = 0 ∨ ∃ b off, A = some ⟨b, off, none⟩ ∧ lo ≤ b ∧ b < w.heap.size ∧ some b ≠ v.ownBlock ∧ ∀ j, j < zs.length → w.cell? ⟨b, off + j, none⟩ = some (I (zs[j]?.getD 0))
structure RdL (rb : Nat) (w : World) (v : Value) (ns : List NdV) : Prop where
  row : w.ownsRow (rb + 1) 85 8 v ns.length (rcells ns)
  lists : ∀ x ∈ ns, LN (rb + 1) w v x.A x.d.list
theorem RdL.of_blocks {rb : Nat} {w w' : World} {v : Value} {ns : List NdV} (h : RdL rb w v ns) (hs : w.heap.size ≤ w'.heap.size) (hb : ∀ k, rb + 1 ≤ k → k < w.heap.size → w'.heap[k]? = w.heap[k]?) : RdL rb w' v ns :=
  ⟨ownsRow_blocks h.row hb, fun x hx => by
    rcases h.lists x hx with h1 | ⟨b, off, h1, h2, h3, h4, h5⟩
    · exact .inl h1
    · exact .inr ⟨b, off, h1, h2, Nat.lt_of_lt_of_le h3 hs, h4, fun j hj => (World.cell?_of_block (a := ⟨b, off + j, none⟩) (hb b h2 h3)).trans (h5 j hj)⟩⟩
theorem RdL.mkeep {rb : Nat} {w w' : World} {v : Value} {ns : List NdV} (h : RdL rb w v ns) (hk : MKeep rb w w') : RdL rb w' v ns :=
  h.of_blocks hk.size fun k h1 h2 => hk.block k h2 (by omega)
theorem RdL.rule {rb lo : Nat} {w : World} {v : Value} {ns : List NdV} (h : RdL rb w v ns) (hlo : lo ≤ rb + 1) : RuleIs lo w v ns :=
  ⟨ownsRow_base' h.row hlo, fun x hx => by
    rcases h.lists x hx with h1 | ⟨b, off, h1, h2, h3, h4, h5⟩
    · exact .inl h1
    · exact .inr ⟨b, off, h1, by omega, h3, h5⟩⟩
theorem RdL.nil (rb : Nat) (w : World) : RdL rb w (.slice none 0 0) [] := ⟨World.ownsRow_nil _ _ _ _, fun _ hx => nomatch hx⟩
theorem RdL.snoc {rb : Nat} {w w1 w2 : World} {v v' : Value} {ns : List NdV} {o : Obj} (h : RdL rb w v ns) (hk : MKeep rb w w1) (hrb : rb < w.heap.size) (x : NdV) (hx : LI w.heap.size w1 x.A x.d.list)
    (hown : w2.ownsRow (rb + 1) 85 8 v' (ns.length + 1) (rcells ns ++ x.cells)) (hg : (w1.alloc o).grownBy w2 v.ownBlock) (hat : v'.ownBlock = v.ownBlock ∨ ∃ b, v'.ownBlock = some b ∧ w1.heap.size ≤ b) : RdL rb w2 v' (ns ++ [x]) := by
  have hsz := hg.size
  rw [World.size_alloc] at hsz
  have hne : ∀ b, b < w1.heap.size → some b ≠ v.ownBlock → some b ≠ v'.ownBlock := fun b hb h1 => by
    rcases hat with e | ⟨c, e, hc⟩
    · rw [e]; exact h1
    · rw [e]; intro e'; injection e' with e'; omega
  have hbl : ∀ b, b < w1.heap.size → some b ≠ v.ownBlock → w2.heap[b]? = w1.heap[b]? := fun b hb h1 => by
    rw [hg.block b (by simp; omega) h1, Below.heap_alloc w1 o b hb]
  refine ⟨by rw [List.length_append, rcells_app, rcells_one]; exact hown, fun y hy => ?_⟩
  rcases List.mem_append.1 hy with hy | hy
  · rcases (h.mkeep hk).lists y hy with h1 | ⟨b, off, h1, h2, h3, h4, h5⟩
    · exact .inl h1
    · exact .inr ⟨b, off, h1, h2, by omega, hne b h3 h4, fun j hj => (World.cell?_of_block (a := ⟨b, off + j, none⟩) (hbl b h3 h4)).trans (h5 j hj)⟩
  · rw [List.mem_singleton.1 hy]
    rcases hx with h1 | ⟨b, off, h1, h2, h3, h5⟩
    · exact .inl h1
    · have h4 : some b ≠ v.ownBlock := fun e => by have := own_lt h.row b e.symm; omega
      exact .inr ⟨b, off, h1, by omega, by omega, hne b h3 h4, fun j hj => (World.cell?_of_block (a := ⟨b, off + j, none⟩) (hbl b h3 h4)).trans (h5 j hj)⟩
def serP (v : Value) (mi le : Int) (zo : ByteArray) (ga fo : Int) (vm : Value) : Array Value := #[v, I mi, I le, .string zo, I ga, I fo, vm]
theorem nb_ser (A A' : Option Addr) (n c n' c' : Nat) (mi le : Int) (zo : ByteArray) (ga fo : Int) : NB (serP (.slice A n c) mi le zo ga fo (.slice A' n' c')) := by unfold NB; kernel_rfl
theorem serP_size (v : Value) (mi le : Int) (zo : ByteArray) (ga fo : Int) (vm : Value) : (serP v mi le zo ga fo vm).size = 7 := rfl
/-- The series' variable at block w.heap.size, the code's behind it. -/
structure SdS (w : World) (rb : Nat) (R : List UInt8) (cs : Array Value) (W : World) : Prop where
  rd : SRd W rb R
  keep : Below w.heap.size w W
  hi : w.heap.size + 1 < rb
  var : W.heap[w.heap.size]? = some (.cells cs 30 (0, 0))
  code : W.heap[w.heap.size + 1]? = some (.cells #[I 0] 39 (0, 0))
section
variable {w W W' : World} {rb : Nat} {R R' : List UInt8} {cs cs' : Array Value}
theorem SdS.cell (h : SdS w rb R cs W) : ∀ i, W.cell? ⟨w.heap.size, i, none⟩ = cs[i]? := fun i => cell_of_row W _ i _ _ _ h.var
theorem SdS.froz (h : SdS w rb R cs W) : ∀ i, W.frozen? ⟨w.heap.size, i, none⟩ = false := fun i => frozen_of_row W _ i _ _ h.var
theorem SdS.lt (h : SdS w rb R cs W) : rb < W.heap.size := h.rd.lt
theorem SdS.row (h : SdS w rb R cs W) : Row W w.heap.size cs := ⟨by have := h.lt; have := h.hi; omega, h.cell⟩
theorem SdS.turn (h : SdS w rb R cs W) (hr : SRd W' rb R') (h1 : W'.os = W.os) (h2 : W'.tape = W.tape) (h3 : W'.output = W.output) (h4 : W.heap.size ≤ W'.heap.size) (h5 : ∀ k, k < rb → k ≠ w.heap.size → W'.heap[k]? = W.heap[k]?) (h6 : W'.heap[w.heap.size]? = some (.cells cs' 30 (0, 0))) : SdS w rb R' cs' W' :=
  have h7 := h.hi
  ⟨hr, ⟨h1.trans h.keep.os, h2.trans h.keep.tape, h3.trans h.keep.output, Nat.le_trans h.keep.size h4, fun k hk => (h5 k (by omega) (by omega)).trans (h.keep.block k hk)⟩, h.hi, h6, (h5 _ (by omega) (by omega)).trans h.code⟩
theorem SdS.step (h : SdS w rb R cs W) (hr : SRd W' rb R') (hk : MKeep rb W W') : SdS w rb R' cs W' :=
  have h1 := h.hi
  have h2 := h.lt
  h.turn hr hk.os hk.tape hk.output hk.size (fun k h3 _ => hk.block k (by omega) (by omega)) ((hk.block _ (by omega) (by omega)).trans h.var)
theorem SdS.more (h : SdS w rb R cs W) (o : Obj) : SdS w rb R cs (W.alloc o) := h.step (h.rd.below (below_var W o) h.lt) (MKeep.of_below (below_var W o))
theorem SdS.drew (h : SdS w rb R cs W) : SdS w rb R cs W.drew := ⟨h.rd, ⟨h.keep.os, h.keep.tape, h.keep.output, h.keep.size, h.keep.block⟩, h.hi, h.var, h.code⟩
theorem SdS.store (h : SdS w rb R cs W) (hnb : NB cs) (o : Nat) (v : Value) : SdS w rb R (cs.setIfInBounds o v) (W.setCell ⟨w.heap.size, o, none⟩ v) :=
  have h1 := h.hi
  h.turn (h.rd.put h.var hnb (by omega) o v) rfl rfl rfl (by simp [World.setCell]) (fun k _ h3 => heap_setCell_other W _ k v h3) (heap_setCell_same W _ o _ _ _ h.var)
theorem FPut.others {l : List ((Nat × Nat) × Int)} {o : Obj} {s0 : Nat} (hp : FPut (W.alloc o) rb l W') (hl : ∀ p ∈ l, p.1.1 = s0) (k : Nat) (hk : k < W.heap.size) (h1 : k ≠ rb) (h2 : k ≠ s0) : W'.heap[k]? = W.heap[k]? := by
  rw [hp.block k (by simp; omega) h1, putsB_none k l (fun p hpm => by rw [hl p hpm]; exact fun e => h2 e.symm), Below.heap_alloc W o k hk]
theorem SdS.filled {l : List ((Nat × Nat) × Int)} {o : Obj} (h : SdS w rb R cs W) (hr : SRd W' rb R') (hp : FPut (W.alloc o) rb l W') (hl : ∀ p ∈ l, p.1.1 = w.heap.size) (hcs : putsB w.heap.size l (some (.cells cs 30 (0, 0))) = some (.cells cs' 30 (0, 0))) : SdS w rb R' cs' W' := by
  have h1 := h.hi
  have h2 := h.lt
  refine h.turn hr hp.os hp.tape hp.output (by have := hp.size; rw [World.size_alloc] at this; omega) (fun k h3 h4 => hp.others hl k (by omega) (by omega) h4) ?_
  rw [hp.block _ (by simp; omega) (by omega), (h.more o).var, hcs]
theorem SdS.tgt (h : SdS w rb R cs W) (o : Obj) (i ab : Nat) (hab : W.heap.size = ab) (hi : i < cs.size) (hnb : NB cs) : TgtOK (W.alloc o) rb ab (w.heap.size, i) := by
  subst hab
  have h1 := h.hi
  have h2 := h.lt
  exact ⟨by show w.heap.size ≠ rb; omega, by show w.heap.size ≠ W.heap.size; omega, cs, _, (h.more o).var, hi, hnb⟩
theorem grown_low {base e size n : Nat} {v : Value} {ys : List Value} {o : Obj} (hown : W.ownsRow base e size v n ys) (hg : (W.alloc o).grownBy W' v.ownBlock) (k : Nat) (hk : k < W.heap.size) (hkb : k < base) : W'.heap[k]? = W.heap[k]? := by
  rw [hg.block k (by simp; omega) (own_ge hown k hkb), Below.heap_alloc W o k hk]
theorem SdS.grown {base e size n : Nat} {v : Value} {ys : List Value} {o : Obj} (h : SdS w rb R cs W) (hown : W.ownsRow base e size v n ys) (hb : rb < base) (hg : (W.alloc o).grownBy W' v.ownBlock) : SdS w rb R cs W' := by
  have h1 := h.hi
  have h2 := h.lt
  have hs : W.heap.size ≤ W'.heap.size := by have := hg.size; rw [World.size_alloc] at this; omega
  have hlow : Below (rb + 1) W W' := ⟨hg.os, hg.tape, hg.output, hs, fun k hk => grown_low hown hg k (by omega) (by omega)⟩
  exact h.turn (h.rd.below hlow (by omega)) hg.os hg.tape hg.output hs (fun k h3 _ => grown_low hown hg k (by omega) (by omega)) ((grown_low hown hg _ (by omega) (by omega)).trans h.var)
end
theorem rules_is {lo : Nat} {w : World} {A : Option Addr} {n c : Nat} {ns : List NdV} (h : RuleIs lo w (.slice A n c) ns) (hl : ∀ x ∈ ns, x.d.list.length ≤ 64) : RulesAt w w.heap.size A ns := by
  by_cases hn : ns = []
  · exact .inl (by rw [hn]; rfl)
  obtain ⟨g, cap, h1, h2, h3, h4⟩ := h.form hn
  injection h1 with h1 _ _
  refine .inr ⟨g, h1, h3, fun k x hx => ⟨fun j v hv => ?_, (h.lists x (List.mem_of_getElem? hx)).ints, by have := hl x (List.mem_of_getElem? hx); omega⟩⟩
  have hj : j < 8 := by have := (List.getElem?_eq_some_iff.1 hv).1; rw [x.len] at this; exact this
  exact h4 _ _ (by rw [rcells_get ns k j hj, hx]; exact hv)
theorem moves_is {lo n c m : Nat} {w : World} {B : Option Addr} {ms : List Mv} (h : w.ownsRow lo 25 5 (.slice B n c) m (mvsCells ms)) (hm : ms.length = m) : MovesAt w w.heap.size B ms := by
  subst hm
  obtain ⟨h0, ⟨_, h1⟩ | ⟨g, cap, cur, hv, hg, hb, h1, h2, h3, h4⟩⟩ := h
  · exact .inl h1
  injection hv with hv _ _
  refine .inr ⟨g, hv, (Array.getElem?_eq_some_iff.1 hb).1, fun k x hx j v hj => ?_⟩
  have h5 : j < 5 := (List.getElem?_eq_some_iff.1 hj).1
  rw [cell_of_row w g _ _ _ _ hb]
  have h6 : (mvsCells ms)[k * 5 + j]? = some v := by rw [mvs_get _ k j h5, hx]; exact hj
  rw [← h4, List.getElem?_take] at h6
  split at h6
  · simpa using h6
  · cases h6
set_option maxRecDepth 10000 in
theorem catch_idle (p q : Addr) (w : World) :
    CallsD Tryz.prog 111 #[.pointer (some p), .pointer (some q)] .returning w fun e u' w' => e = .returned (.tuple #[]) ∧ u' = .returning ∧ w' = w := by
  have hnn : ∀ w, (binOp .neq 20 .nilIface .nilIface).run Tryz.prog w = .ok (.bool false) w := fun w => Lib.run_neq_nil_nil w Tryz.underlying20
  refine callsD_of_wpS Tryz.func111 rfl fun c₀ cs hu => ?_
  apply wpS_seq
  apply wpS_region
  simp [wpOpsS, go_sem, recoverD, hu, Tryz.ntmps111, Exit.thenS]
  apply wpS_seq
  apply wpS_region
  simp [wpOpsS, go_sem, hnn, Exit.thenS]
  refine wpS_cond (t := false) (by simp [Act.eval, Array.replicate]) ?_
  simp only [Bool.false_eq_true, if_false]
  refine wpS_of_wp (wp_skip ?_)
  cases c₀
  simp_all [bodyPostS, results, Tryz.results111]
end Go.Proofs.YtenbgpcdoljkgaaGreatDoor

/- series.Read of a good series' bytes. -/
namespace Go.Proofs.YtenbgpcdoljkgaaGreatDoor
open Go Go.RowKit

attribute [local go_sem] ndCells mvCells
/-- What series.Read gives of a good series' bytes: the series, in memory of the call's own. -/
def SrPost (w : World) (se : Ser) (e : Ending) (w' : World) : Prop :=
  ∃ A n c B m ec ns, n = se.rule.length ∧ m = se.moves.length ∧ e = .returned (.tuple #[.agg (serP (.slice A n c) se.minute se.length se.zone se.gap se.fold (.slice B m ec)), I 0]) ∧ ns.map (·.d) = se.rule ∧ RuleIs w.heap.size w' (.slice A n c) ns ∧ w'.ownsRow w.heap.size 25 5 (.slice B m ec) m (mvsCells se.moves) ∧ Below w.heap.size w w'
def SrRel (w : World) (rb : Nat) (se : Ser) (R : List UInt8) (n : Nat) (i : Value) (wr : World) : Prop :=
  ∃ (k : Nat) (A : Option Addr) (c : Nat) (ns : List NdV), k ≤ n ∧ i = I k ∧ ns.length = k ∧ ns.map (·.d) = se.rule.take k ∧ SdS w rb (seRule (se.rule.drop k) ++ R) (serP (.slice A k c) 0 0 ⟨#[]⟩ 0 0 (.slice none 0 0)) wr ∧ RdL rb wr (.slice A k c) ns
def SrRel2 (w w2 : World) (rb : Nat) (se : Ser) (v : Value) (m : Nat) (i : Value) (wr : World) : Prop :=
  ∃ (k : Nat) (B : Option Addr) (ec : Nat), k ≤ m ∧ i = I k ∧ SdS w rb (seMoves (se.moves.drop k) ++ []) (serP v se.minute se.length se.zone se.gap se.fold (.slice B k ec)) wr ∧ wr.ownsRow w2.heap.size 25 5 (.slice B k ec) k (mvsCells (se.moves.take k)) ∧ w2.heap.size ≤ wr.heap.size ∧ ∀ j, rb + 1 ≤ j → j < w2.heap.size → wr.heap[j]? = w2.heap[j]?
def seTail (se : Ser) : List UInt8 := leAll [se.minute, se.length] ++ (textBytes se.zone ++ (leAll [se.gap, se.fold] ++ (le (se.moves.length : Int) 8 ++ (seMoves se.moves ++ []))))
theorem seBytes_split (se : Ser) : seBytes se = le (se.rule.length : Int) 8 ++ (seRule se.rule ++ seTail se) := by simp [seBytes, seHead, seMid, seTail, leAll]
theorem seRule_ge (ds : List Nd) : ds.length ≤ (seRule ds).length := by
  induction ds with
  | nil => exact Nat.le_refl _
  | cons d ds ih =>
    have h : 1 ≤ (ndBytes d).length := by
      unfold ndBytes
      rw [List.length_append, leAll_length]
      have h3 : (ndNums d).length = 7 := rfl
      omega
    unfold seRule at *
    rw [List.flatMap_cons, List.length_append, List.length_cons]
    omega
theorem srd_new {w1 : World} {base g cc N : Nat} {bs : List UInt8} (hown : w1.ownsRow base 5 1 (.slice (some ⟨g, 0, none⟩) N cc) N (bs.map Extern.Stop.cell)) (hN : bs.length = N) (h0 : 0 < N) : SRd (w1.alloc (.cells #[.slice (some ⟨g, 0, none⟩) N cc] 188)) w1.heap.size bs := by
  subst hN
  have hcl := hown
  obtain ⟨_, ⟨h1, _⟩ | ⟨g', cap, cur, hv, hg, hb, h1, h2, h3, h4⟩⟩ := hown
  · cases h1
  injection hv with hv _ hc
  injection hv with hv
  injection hv with hv
  subst hv hc
  have hgl := (Array.getElem?_eq_some_iff.1 hb).1
  refine ⟨g, 0, cc, heap_alloc_last w1 _, h1, by unfold maxLen at h2; omega, hgl, fun j hj => ?_⟩
  have h := hcl.cells (g := g) rfl j (Extern.Stop.cell (bs[j]?.getD 0)) (by rw [List.getElem?_map, List.getElem?_eq_getElem hj]; rfl)
  rw [addr_add] at h
  rw [Nat.zero_add]
  exact (World.cell?_of_block (a := ⟨g, j, none⟩) (Below.heap_alloc w1 _ g hgl)).trans h
theorem grown_size {w w' : World} {o : Obj} {r : Option Nat} (h : (w.alloc o).grownBy w' r) : w.heap.size ≤ w'.heap.size := by
  have h9 := h.size
  rw [World.size_alloc] at h9
  omega
theorem serP_info (v vm : Value) (mi le : Int) (zo : ByteArray) (ga fo : Int) : (Tryz.prog.info? 30).map (·.size) = some (serP v mi le zo ga fo vm).size := by kernel_rfl
theorem serP_one (A A' : Option Addr) (n c n' c' : Nat) (mi le : Int) (zo : ByteArray) (ga fo : Int) : (serP (.slice A n c) mi le zo ga fo (.slice A' n' c')).all (·.oneCell') = true := by kernel_rfl
theorem results_row_cell {P : Program} {fn : Func} {p q : Tmp} {t1 t2 : TypeId} (h : fn.results = #[.cell p t1, .cell q t2]) (tmps : Array Value) (w : World) (g g2 : Nat) (t : TypeId) (cs : Array Value) (fr : Nat × Nat) (d : TypeDesc) (v : Value)
    (hp : tmps.getD p undef = .pointer (some ⟨g, 0, none⟩)) (hg : w.heap[g]? = some (.cells cs t fr)) (hu : P.underlying t1 = some d) (hd : (match d with | .struct _ | .array _ _ => true | _ => false) = true) (hi : (P.info? t1).map (·.size) = some cs.size)
    (hq : tmps.getD q undef = .pointer (some ⟨g2, 0, none⟩)) (hv : (loadVar t2 ⟨g2, 0, none⟩).run P w = .ok v w) :
    (results fn tmps).run P w = .ok (.tuple #[.agg cs, v]) w := by
  have hp' : tmps[p]?.getD undef = .pointer (some ⟨g, 0, none⟩) := by simpa using hp
  have hq' : tmps[q]?.getD undef = .pointer (some ⟨g2, 0, none⟩) := by simpa using hq
  simp [results, h, hp', hq', asAddr, run_loadVar_row w g t t1 cs fr d hg hu hd hi, hv]
theorem load_errno (W : World) (b : Nat) (h : W.cell? ⟨b, 0, none⟩ = some (I 0)) : (loadVar 39 ⟨b, 0, none⟩).run Tryz.prog W = .ok (I 0) W := by
  simp [go_sem, h]
theorem cells_newN {w : World} {t : TypeId} (d : Nd) (A : Option Addr) (c : Nat) : ∀ j u, (NdV.cells ⟨d, A, c⟩)[j]? = some u → (w.alloc (.cells (ndCells d A c) t)).cell? ((⟨w.heap.size, 0, none⟩ : Addr).add j) = some u := by
  intro j u hu
  rw [addr_add, (Row.new w _ t).2 j]
  simpa [NdV.cells] using hu
theorem rone_ok (x : NdV) : ∀ u ∈ x.cells, u.oneCell' = true := by have h := rcells_ok [x]; rwa [rcells_one] at h
set_option maxRecDepth 10000 in
set_option maxHeartbeats 2000000 in
theorem seriesRead_yes (w : World) (se : Ser) (b off c n m N : Nat) (hn : se.rule.length = n) (hm : se.moves.length = m) (hn64 : n ≤ 64) (hg : SerGood se) (hok : ∀ ns : List NdV, ns.map (·.d) = se.rule → RuleOK ns) (hfit : ∀ d ∈ se.rule, NdFit d) (hmf2 : ∀ x ∈ se.moves, ∀ z ∈ mvNums x, fits z) (hN : (seBytes se).length = N) (hN0 : 0 < N) (hN2 : N ≤ 10000000) (hbl : b < w.heap.size)
    (hA : ∀ j, j < N → w.cell? ⟨b, off + j, none⟩ = some (Extern.Stop.cell ((seBytes se)[j]?.getD 0))) :
    Calls Tryz.prog 87 #[.slice (some ⟨b, off, none⟩) N c] w (SrPost w se) := by
  have hmf : ∀ (fn : Fn) (first cap : Array Value) (w : World), (Instr.makeFunc fn first cap).run Tryz.prog w = .ok (.func fn first cap) w := fun _ _ _ _ => rfl
  have HNN := Lib.hid hn
  have HMM := Lib.hid hm
  have HG := Lib.hid hg
  have HOK := Lib.hid hok
  have HF := Lib.hid hfit
  have HMF := Lib.hid hmf2
  have HN := Lib.hid hN
  have HA := Lib.hid hA
  clear hn hm hg hok hfit hmf2 hN hA
  have HB0 : Hid (Below w.heap.size w ((w.alloc (.cells zSerC 30)).alloc (.cells #[I 0] 39))) := Lib.hid (below_trans (below_var w _) (below_var _ _))
  have HC0 : Hid (∀ j, j < N → ((w.alloc (.cells zSerC 30)).alloc (.cells #[I 0] 39)).cell? ⟨b, off + j, none⟩ = some (Extern.Stop.cell ((seBytes se)[j]?.getD 0))) := Lib.hid fun j hj => (HB0.out.cell (p := ⟨b, off + j, none⟩) hbl).trans (HA.out j hj)
  go_enter_defers Tryz.func87, Tryz.ntmps87
  go_wp2_with fail
  refine (cloneB_some b off c (seBytes se) N _ HC0.out (by simp; omega) HN.out hN0 hN2).mono ?_
  rintro e w1 ⟨g, cc, rfl, hown, hb1⟩
  rw [HN.out] at hown ⊢
  have hs1 := hb1.size
  simp only [World.size_alloc] at hs1
  obtain ⟨rb, hrb⟩ : ∃ rb, w1.heap.size = rb := ⟨_, rfl⟩
  have HS1 : Hid (SdS w rb (le (n : Int) 8 ++ (seRule se.rule ++ seTail se)) zSerC (w1.alloc (.cells #[.slice (some ⟨g, 0, none⟩) N cc] 188))) := Lib.hid (by
    have hr := srd_new hown HN.out hN0
    rw [seBytes_split, HNN.out, hrb] at hr
    have hb := below_trans hb1 (below_var w1 (.cells #[.slice (some ⟨g, 0, none⟩) N cc] 188))
    refine ⟨hr, below_trans HB0.out hb, by omega, ?_, ?_⟩
    · exact (hb.block w.heap.size (by simp; omega)).trans (heap_alloc2_old w _ _)
    · exact (hb.block (w.heap.size + 1) (by simp)).trans (heap_alloc2_new w _ _))
  clear hown hb1 HC0 HB0
  go_wp2_with fail
  have HSE : Hid (n ≤ (seRule se.rule ++ seTail se).length) := Lib.hid (by have := seRule_ge se.rule; have := HNN.out; rw [List.length_append]; omega)
  refine (count_yes _ rb n _ HSE.out (by omega) HS1.out.rd).mono ?_
  rintro e w2 ⟨rfl, hr2, hk2⟩
  have HS2 := Lib.hid (HS1.out.step hr2 hk2)
  clear hr2 hk2 HS1 HSE
  go_wp2_with fail
  go_loopw [14] (fun i wr => SrRel w rb se (seTail se) n i wr) (fun i _ => n - (intOf i).toNat)
  case atStart => exact ⟨0, none, 0, [], Nat.zero_le _, rfl, rfl, rfl, HS2.out, RdL.nil _ _⟩
  case round =>
    obtain ⟨k, A, ca, ns, hk, rfl, hnl, hmap, hs, hrl⟩ := hrel
    have HS := Lib.hid hs
    have HL := Lib.hid hrl
    have HNL := Lib.hid hnl
    have HMAP := Lib.hid hmap
    clear hs hrl hnl hmap HS2
    by_cases hlt : (k : Int) < (n : Int)
    · have hkl : k < se.rule.length := by have := HNN.out; omega
      obtain ⟨d, hd⟩ : ∃ d, se.rule[k] = d := ⟨_, rfl⟩
      have hx : se.rule[k]? = some d := by rw [← hd]; exact List.getElem?_eq_getElem hkl
      have hdr : se.rule.drop k = d :: se.rule.drop (k + 1) := by rw [List.drop_eq_getElem_cons hkl, hd]
      have hs2 : SdS w rb (ndBytes d ++ (seRule (se.rule.drop (k + 1)) ++ seTail se)) (serP (.slice A k ca) 0 0 ⟨#[]⟩ 0 0 (.slice none 0 0)) wr := by
        have h := HS.out
        rw [hdr] at h
        simpa [seRule] using h
      have HSD := Lib.hid hs2.drew
      have HLD : Hid (RdL rb wr.drew (.slice A k ca) ns) := Lib.hid (HL.out.of_blocks (Nat.le_refl _) fun _ _ _ => rfl)
      have hc0 : wr.cell? ⟨w.heap.size, 0, none⟩ = some (.slice A k ca) := HS.out.cell 0
      have HFD : Hid (NdFit d) := Lib.hid (HF.out d (List.mem_of_getElem? hx))
      have HX := Lib.hid hx
      have hlt1 := HS.out.lt
      obtain ⟨i0, hi, hz0, hz1, hz2⟩ := info_parts info_node
      clear hkl hd hx hdr hs2 HS HL
      go_wp2_with fail
      refine wp_region_noPanic ?_
      go_region_law (first
        | (go_simp; go_at_call 114; refine (node_yes _ rb d _ HFD.out HSD.out.rd).mono ?_; rintro e w5 ⟨B5, c5, rfl, hli5, hr5, hk5⟩; have HS5 := Lib.hid (HSD.out.step hr5 hk5); have hc5 : w5.cell? ⟨w.heap.size, 0, none⟩ = some (.slice A k ca) := HS5.out.cell 0; have hl5 := HS5.out.lt; have hl5' : w.heap.size < w5.heap.size := Nat.lt_trans (Nat.lt_trans (Nat.lt_succ_self _) HS5.out.hi) hl5; have HO5 : Hid (w5.ownsRow (rb + 1) 85 8 (.slice A k ca) k (rcells ns)) := Lib.hid (by have h := (HLD.out.mkeep hk5).row; rw [HNL.out] at h; exact h); have HK5 := Lib.hid hk5; have HLI5 := Lib.hid hli5; clear hr5 hk5 hli5)
        | (refine step_append_lies _ (by rfl) _ _ _ (by rfl) (rb + 1) 85 i0 (.agg zNode) 8 88 Tryz.underlying27 hi hz0 hz1 hz2 rfl (by omega) (.slice A k ca) k (rcells ns) (by rfl) (HO5.out.alloc _) ⟨w5.heap.size, 0, none⟩ 1 1 (NdV.cells ⟨d, B5, c5⟩) (by rfl) rfl (cells_newN _ _ _) (rone_ok _) (by omega) (by unfold maxLen; omega) (by omega) (by first | (simp; done) | (simp; omega)) _ rfl ?_; intro gg cap w6 hown6 hgrow6 hat6 hlt6'; have HG6 := Lib.hid (HS5.out.grown HO5.out (Nat.lt_succ_self _) hgrow6); have HL6 := Lib.hid (HLD.out.snoc (v' := .slice (some ⟨gg, 0, none⟩) (k + 1) cap) HK5.out HSD.out.lt ⟨d, B5, c5⟩ HLI5.out (by rw [HNL.out]; exact hown6) hgrow6 (hat6.elim (fun e => .inl e.symm) (fun e => .inr ⟨gg, rfl, by rw [e]; simp⟩))); have hc66 : w6.cell? ⟨w.heap.size, 0, none⟩ = some (.slice A k ca) := HG6.out.cell 0; have hf66 := HG6.out.froz 0; clear hown6 hgrow6 hat6))
      all_goals
        refine NoPanic.normal ?_
        go_wp2_with fail
        go_roundw
        case rel =>
          have hn1 : (ns ++ [(⟨d, B5, c5⟩ : NdV)]).length = k + 1 := by rw [List.length_append, HNL.out]; rfl
          refine ⟨k + 1, some ⟨gg, 0, none⟩, cap, ns ++ [⟨d, B5, c5⟩], by omega, by go_num, hn1, by rw [List.map_append, HMAP.out, List.take_add_one, HX.out]; rfl, HG6.out.store (nb_ser _ _ _ _ _ _ _ _ _ _ _) 0 (.slice (some ⟨gg, 0, none⟩) (k + 1) cap), HL6.out.of_blocks (by simp [World.setCell]) fun j h1 _ => heap_setCell_other _ _ j _ (by have := HG6.out.hi; show j ≠ w.heap.size; omega)⟩
        case measure => simp [intOf]; omega
    · have hd0 : se.rule.drop k = [] := List.drop_of_length_le (by rw [HNN.out]; omega)
      have hs0 := HS.out
      rw [hd0] at hs0
      have HM0 : Hid (ns.map (·.d) = se.rule) := Lib.hid (by rw [HMAP.out, List.take_of_length_le (by rw [HNN.out]; omega)])
      have HS3 : Hid (SdS w rb (leAll [se.minute, se.length] ++ (textBytes se.zone ++ (leAll [se.gap, se.fold] ++ (le (se.moves.length : Int) 8 ++ (seMoves se.moves ++ []))))) (serP (.slice A k ca) 0 0 ⟨#[]⟩ 0 0 (.slice none 0 0)) wr) := Lib.hid hs0
      have hk64 : k ≤ 64 := by omega
      have hlt3 := HS3.out.lt
      have hhi := HS3.out.hi
      clear hd0 hs0 HS
      go_wp2_with fail
      refine (fill_yes _ rb wr.heap.size 2 2 [((w.heap.size, 1), se.minute), ((w.heap.size, 2), se.length)] (textBytes se.zone ++ (leAll [se.gap, se.fold] ++ (le (se.moves.length : Int) 8 ++ (seMoves se.moves ++ [])))) ?hr1 rfl (by omega) (by omega) (by simp) ?hA1 ?hT1 ?hf1).mono ?_
      case hr1 => exact (HS3.out.more _).rd
      case hA1 => exact ptrs_new _ _ rfl _ _ _ rfl
      case hT1 =>
        intro p hp
        simp only [List.mem_cons, List.not_mem_nil, or_false] at hp
        rcases hp with rfl | rfl <;> (refine HS3.out.tgt _ _ _ rfl ?_ (nb_ser _ _ _ _ _ _ _ _ _ _ _); rw [serP_size]; decide)
      case hf1 =>
        have h1 := HG.out.mi
        have h2 := HG.out.le
        intro p hp
        simp only [List.mem_cons, List.not_mem_nil, or_false] at hp
        unfold fits
        rcases hp with rfl | rfl <;> (dsimp only; omega)
      rintro e w3 ⟨rfl, hr3, hp3⟩
      have hl0 : ∀ p ∈ [((w.heap.size, 1), se.minute), ((w.heap.size, 2), se.length)], p.1.1 = w.heap.size := by
        intro p hp
        simp only [List.mem_cons, List.not_mem_nil, or_false] at hp
        rcases hp with rfl | rfl <;> rfl
      have HS4 : Hid (SdS w rb (textBytes se.zone ++ (leAll [se.gap, se.fold] ++ (le (se.moves.length : Int) 8 ++ (seMoves se.moves ++ [])))) (serP (.slice A k ca) se.minute se.length ⟨#[]⟩ 0 0 (.slice none 0 0)) w3) := Lib.hid (HS3.out.filled hr3 hp3 hl0 (by simp [putsB, setO, serP]))
      have HL4 : Hid (RdL rb w3 (.slice A k ca) ns) := Lib.hid (HL.out.of_blocks (by have := hp3.size; rw [World.size_alloc] at this; omega) fun j h1 h2 => hp3.others hl0 j h2 (by omega) (by omega))
      clear hr3 hp3 hl0 HS3 HL hlt3
      go_wp2_with fail
      refine (text_yes w3 rb se.zone _ (by have := HG.out.zo; omega) HS4.out.rd).mono ?_
      rintro e w4 ⟨rfl, hr4, hk4⟩
      have HS5 := Lib.hid (HS4.out.step hr4 hk4)
      have HL5 := Lib.hid (HL4.out.mkeep hk4)
      have hc5 := HS5.out.cell
      have hf5 := HS5.out.froz
      have HS6 : Hid (SdS w rb (leAll [se.gap, se.fold] ++ (le (se.moves.length : Int) 8 ++ (seMoves se.moves ++ []))) (serP (.slice A k ca) se.minute se.length se.zone 0 0 (.slice none 0 0)) (w4.setCell ⟨w.heap.size, 3, none⟩ (.string se.zone))) := Lib.hid (HS5.out.store (nb_ser _ _ _ _ _ _ _ _ _ _ _) 3 (.string se.zone))
      have HL6 : Hid (RdL rb (w4.setCell ⟨w.heap.size, 3, none⟩ (.string se.zone)) (.slice A k ca) ns) := Lib.hid (HL5.out.of_blocks (by simp [World.setCell]) fun j h1 _ => heap_setCell_other _ _ j _ (by show j ≠ w.heap.size; omega))
      have hlt4 := HS5.out.lt
      clear hr4 hk4 HS4 HL4 HS5 HL5
      go_wp2_with fail
      refine (fill_yes _ rb w4.heap.size 2 2 [((w.heap.size, 4), se.gap), ((w.heap.size, 5), se.fold)] (le (se.moves.length : Int) 8 ++ (seMoves se.moves ++ [])) ?hr2 rfl (by omega) (by omega) (by simp [World.setCell]) ?hA2 ?hT2 ?hf2).mono ?_
      case hr2 => exact (HS6.out.more _).rd
      case hA2 => exact ptrs_new _ _ (by simp [World.setCell]) _ _ _ rfl
      case hT2 =>
        intro p hp
        simp only [List.mem_cons, List.not_mem_nil, or_false] at hp
        rcases hp with rfl | rfl <;> (refine HS6.out.tgt _ _ _ (by simp [World.setCell]) ?_ (nb_ser _ _ _ _ _ _ _ _ _ _ _); rw [serP_size]; decide)
      case hf2 =>
        have h1 := HG.out.ga
        have h2 := HG.out.fo
        intro p hp
        simp only [List.mem_cons, List.not_mem_nil, or_false] at hp
        unfold fits
        rcases hp with rfl | rfl <;> (dsimp only; omega)
      rintro e w5 ⟨rfl, hr5, hp5⟩
      have hl1 : ∀ p ∈ [((w.heap.size, 4), se.gap), ((w.heap.size, 5), se.fold)], p.1.1 = w.heap.size := by
        intro p hp
        simp only [List.mem_cons, List.not_mem_nil, or_false] at hp
        rcases hp with rfl | rfl <;> rfl
      have HS7 : Hid (SdS w rb (le (se.moves.length : Int) 8 ++ (seMoves se.moves ++ [])) (serP (.slice A k ca) se.minute se.length se.zone se.gap se.fold (.slice none 0 0)) w5) := Lib.hid (HS6.out.filled hr5 hp5 hl1 (by simp [putsB, setO, serP]))
      have HL7 : Hid (RdL rb w5 (.slice A k ca) ns) := Lib.hid (HL6.out.of_blocks (by have := hp5.size; rw [World.size_alloc] at this; omega) fun j h1 h2 => hp5.others hl1 j h2 (by omega) (by omega))
      clear hr5 hp5 hl1 HS6 HL6 hlt4 hc5 hf5
      rw [HMM.out] at HS7
      go_wp2_with fail
      refine (count_yes w5 rb m _ (by have := seMoves_len se.moves; have := HMM.out; rw [List.length_append]; omega) (by have := HG.out.ml; have := HMM.out; omega) HS7.out.rd).mono ?_
      rintro e w7 ⟨rfl, hr7, hk7⟩
      have HS8 := Lib.hid (HS7.out.step hr7 hk7)
      have HL8 := Lib.hid (HL7.out.mkeep hk7)
      have hm64 : m ≤ 64 := by have := HG.out.ml; have := HMM.out; omega
      clear hr7 hk7 HS7 HL7
      go_wp2_with fail
      go_loopw [39] (fun i wr => SrRel2 w w7 rb se (.slice A k ca) m i wr) (fun i _ => m - (intOf i).toNat)
      case atStart => exact ⟨0, none, 0, Nat.zero_le _, rfl, HS8.out, World.ownsRow_nil _ _ _ _, Nat.le_refl _, fun _ _ _ => rfl⟩
      case round =>
        obtain ⟨j, B, eb, hj, rfl, hs, hown, hsz, hbl0⟩ := hrel
        have HS := Lib.hid hs
        have HO := Lib.hid hown
        have HBL := Lib.hid hbl0
        have hlt8 : rb < w7.heap.size := HS8.out.lt
        clear hs hown hbl0 HS8
        by_cases hlt2 : (j : Int) < (m : Int)
        · have hjl : j < se.moves.length := by have := HMM.out; omega
          obtain ⟨x, hxd⟩ : ∃ x, se.moves[j] = x := ⟨_, rfl⟩
          have hx : se.moves[j]? = some x := by rw [← hxd]; exact List.getElem?_eq_getElem hjl
          have hdr : se.moves.drop j = x :: se.moves.drop (j + 1) := by rw [List.drop_eq_getElem_cons hjl, hxd]
          have hs2 : SdS w rb (leAll (mvNums x) ++ (seMoves (se.moves.drop (j + 1)) ++ [])) (serP (.slice A k ca) se.minute se.length se.zone se.gap se.fold (.slice B j eb)) wr := by
            have h := HS.out
            rw [hdr] at h
            simpa [seMoves] using h
          have HSD := Lib.hid hs2.drew
          have HOD : Hid (wr.drew.ownsRow w7.heap.size 25 5 (.slice B j eb) j (mvsCells (se.moves.take j))) := Lib.hid HO.out
          have hc0 : wr.cell? ⟨w.heap.size, 6, none⟩ = some (.slice B j eb) := HS.out.cell 6
          have HFX : Hid (∀ z ∈ mvNums x, fits z) := Lib.hid (HMF.out x (List.mem_of_getElem? hx))
          have HX := Lib.hid hx
          have hlt1 := HS.out.lt
          obtain ⟨i0, hi, hz0, hz1, hz2⟩ := info_parts info_move
          clear hjl hxd hx hdr hs2 HS HO
          go_wp2_with fail
          refine wp_region_noPanic ?_
          go_region_law (first
            | (go_simp; go_at_call 117; refine (smove_yes _ rb x _ HFX.out HSD.out.rd).mono ?_; rintro e w5 ⟨rfl, hr5, hk5⟩; have HS5 := Lib.hid (HSD.out.step hr5 hk5); have hc5 : w5.cell? ⟨w.heap.size, 6, none⟩ = some (.slice B j eb) := HS5.out.cell 6; have hl5 := HS5.out.lt; have hl5' : w.heap.size < w5.heap.size := Nat.lt_trans (Nat.lt_trans (Nat.lt_succ_self _) HS5.out.hi) hl5; have hl5s : w7.heap.size ≤ w5.heap.size := Nat.le_trans hsz hk5.size; have HO5 := Lib.hid (ownsRow_mkeep HOD.out hk5 hlt8); have HB5 : Hid (∀ i, rb + 1 ≤ i → i < w7.heap.size → w5.heap[i]? = w7.heap[i]?) := Lib.hid (fun i h1 h2 => (hk5.block i (Nat.lt_of_lt_of_le h2 hsz) (Nat.ne_of_gt h1)).trans (HBL.out i h1 h2)); clear hr5 hk5)
            | (refine step_append_lies _ (by rfl) _ _ _ (by rfl) w7.heap.size 25 i0 (.agg zMove) 5 40 Tryz.underlying28 hi hz0 hz1 hz2 rfl (by omega) (.slice B j eb) j (mvsCells (se.moves.take j)) (by rfl) (HO5.out.alloc _) ⟨w5.heap.size, 0, none⟩ 1 1 (mvCells x).toList (by rfl) rfl (cells_newM x) (moves_ok x) (by omega) (by unfold maxLen; omega) (by omega) (by first | (simp; done) | (simp; omega)) _ rfl ?_; intro gg cap w6 hown6 hgrow6 hat6 hlt6'; have HG6 := Lib.hid (HS5.out.grown HO5.out hlt8 hgrow6); have HO6 := Lib.hid hown6; have hsz6 : w7.heap.size ≤ w6.heap.size := Nat.le_trans hl5s (grown_size hgrow6); have HB6 : Hid (∀ i, rb + 1 ≤ i → i < w7.heap.size → w6.heap[i]? = w7.heap[i]?) := Lib.hid (fun i h1 h2 => (grown_low HO5.out hgrow6 i (Nat.lt_of_lt_of_le h2 hl5s) h2).trans (HB5.out i h1 h2)); have hc66 : w6.cell? ⟨w.heap.size, 6, none⟩ = some (.slice B j eb) := HG6.out.cell 6; have hf66 := HG6.out.froz 6; clear hown6 hgrow6 hat6))
          all_goals
            refine NoPanic.normal ?_
            go_wp2_with fail
            go_roundw
            case rel =>
              refine ⟨j + 1, some ⟨gg, 0, none⟩, cap, by omega, by go_num, HG6.out.store (nb_ser _ _ _ _ _ _ _ _ _ _ _) 6 (.slice (some ⟨gg, 0, none⟩) (j + 1) cap), ?_, ?_, fun i h1 h2 => (heap_setCell_other _ _ i _ (by show i ≠ w.heap.size; omega)).trans (HB6.out i h1 h2)⟩
              · rw [take_next _ _ _ HX.out, mvsCells_snoc]; exact ownsRow_setCell_below (a := ⟨w.heap.size, 6, none⟩) HO6.out (by show w.heap.size < w7.heap.size; omega) _
              · simp only [World.setCell, Array.size_modify]; exact hsz6
            case measure => simp [intOf]; omega
        · have HJ : Hid (se.moves.length = j) := Lib.hid (by have := HMM.out; omega)
          have ho := HO.out
          rw [List.take_of_length_le (by rw [HJ.out]; exact Nat.le_refl _)] at ho
          have HO2 := Lib.hid ho
          have HLw : Hid (RdL rb wr (.slice A k ca) ns) := Lib.hid (HL8.out.of_blocks hsz fun i h1 h2 => HBL.out i h1 h2)
          have HRU : Hid (RuleIs w.heap.size wr (.slice A k ca) ns) := Lib.hid (HLw.out.rule (by omega))
          have HRW := Lib.hid HS.out.row
          have HRA : Hid (RulesAt wr wr.heap.size A ns) := Lib.hid (rules_is HRU.out (fun y hy => (HF.out y.d (by rw [← HM0.out]; exact List.mem_map_of_mem hy)).len))
          have HMA : Hid (MovesAt wr wr.heap.size B se.moves) := Lib.hid (moves_is HO2.out HJ.out)
          have HB : Hid (Below w.heap.size w wr) := Lib.hid HS.out.keep
          have HKN : Hid (k = se.rule.length) := Lib.hid (by have := HNN.out; omega)
          have hwl : w.heap.size + 1 < wr.heap.size := by have := HS.out.lt; omega
          clear ho HBL HL8 HO
          go_wp2_with (with_reducible refine g_load 30 ?_; refine wpList_load_Row rfl _ _ rfl w.heap.size rfl (serP (.slice A k ca) se.minute se.length se.zone se.gap se.fold (.slice B j eb)) HRW.out _ Tryz.underlying30 rfl (serP_info _ _ _ _ _ _ _) ?_)
          refine (sbytes_any se A B ca eb k j ns wr HRA.out HNL.out HM0.out.symm (fun d hd => HF.out d hd) hk64 HMA.out HJ.out HG.out ?hsd).mono ?_
          case hsd => intro w' hb; exact sound_yes se A B ca eb k j ns w' ((HRA.out.keep hb).more hb.size) HNL.out (HOK.out ns HM0.out) ((HMA.out.keep hb).more hb.size) HJ.out HG.out
          rintro e w9 ⟨vb, rfl, hownb, hbb⟩
          rw [HN.out] at hownb
          obtain ⟨gb, cb, rfl, hgb⟩ := own_form hownb hN0
          have hE1 : ∀ q, q < N → w9.cell? ⟨gb, 0 + q, none⟩ = some (Extern.Stop.cell ((seBytes se)[q]?.getD 0)) := fun q hq => by
            have h := hownb.cells (g := gb) rfl q (Extern.Stop.cell ((seBytes se)[q]?.getD 0)) (by rw [List.getElem?_map, List.getElem?_eq_getElem (by rw [HN.out]; exact hq)]; rfl)
            rw [addr_add] at h
            rw [Nat.zero_add]; exact h
          have HBA := Lib.hid (below_trans HB.out hbb)
          have hE2 : ∀ q, q < N → w9.cell? ⟨b, off + q, none⟩ = some (Extern.Stop.cell ((seBytes se)[q]?.getD 0)) := fun q hq => (HBA.out.cell (p := ⟨b, off + q, none⟩) hbl).trans (HA.out q hq)
          have HEQ : Hid (Calls Tryz.prog 118 #[.slice (some ⟨gb, 0, none⟩) N cb, .slice (some ⟨b, off, none⟩) N c] w9 (Gives (.bool true) w9)) := Lib.hid (eqBs_some gb 0 b off N cb c (seBytes se) HN.out w9 hE1 hE2 (by omega))
          have HBB := Lib.hid hbb
          clear hownb hE1 hE2 hbb
          go_wp2_with fail
          refine HEQ.out.mono ?_
          rintro e w10 ⟨rfl, hb10⟩
          have HW : Hid (Below wr.heap.size wr w10) := Lib.hid (below_trans HBB.out hb10)
          have HV : Hid (w10.heap[w.heap.size]? = some (.cells (serP (.slice A k ca) se.minute se.length se.zone se.gap se.fold (.slice B j eb)) 30 (0, 0))) := Lib.hid ((HW.out.block _ (by omega)).trans HS.out.var)
          have HCD : Hid (w10.heap[w.heap.size + 1]? = some (.cells #[I 0] 39 (0, 0))) := Lib.hid ((HW.out.block _ hwl).trans HS.out.code)
          have HRW10 : Hid (Row w10 w.heap.size (serP (.slice A k ca) se.minute se.length se.zone se.gap se.fold (.slice B j eb))) := Lib.hid (HRW.out.keep HW.out)
          have hsc : (w10.setRow w.heap.size (serP (.slice A k ca) se.minute se.length se.zone se.gap se.fold (.slice B j eb))).heap[w.heap.size + 1]? = some (.cells #[I 0] 39 (0, 0)) := (setRow_other _ _ _ _ (by omega)).trans HCD.out
          have hcc := cell_of_row _ (w.heap.size + 1) 0 _ _ _ hsc
          have hfc := frozen_of_row _ (w.heap.size + 1) 0 _ _ hsc
          have HSC := Lib.hid hsc
          clear hb10 hsc HBB HEQ HBA
          go_wp2_with (first
            | (with_reducible refine g_load 30 ?_; refine wpList_load_Row rfl _ _ rfl w.heap.size rfl (serP (.slice A k ca) se.minute se.length se.zone se.gap se.fold (.slice B j eb)) HRW10.out _ Tryz.underlying30 rfl (serP_info _ _ _ _ _ _ _) ?_)
            | (with_reducible refine g_store 30 ?_; refine wpList_store_row rfl _ _ _ rfl w.heap.size (serP (.slice A k ca) se.minute se.length se.zone se.gap se.fold (.slice B j eb)) rfl rfl 30 (serP (.slice A k ca) se.minute se.length se.zone se.gap se.fold (.slice B j eb)) HV.out (serP_info _ _ _ _ _ _ _) rfl (serP_one _ _ _ _ _ _ _ _ _ _ _) ?_))
          refine leaves_cons (f := 111) (args := #[.pointer (some ⟨w.heap.size, 0, none⟩), .pointer (some ⟨w.heap.size + 1, 0, none⟩)]) (by simp) (by simp [go_sem]) ?_
          refine (catch_idle _ _ _).mono ?_
          rintro e u' w11 ⟨rfl, rfl, rfl⟩
          have hbl11 : ∀ i, i ≠ w.heap.size → i ≠ w.heap.size + 1 → i < wr.heap.size → ((w10.setRow w.heap.size (serP (.slice A k ca) se.minute se.length se.zone se.gap se.fold (.slice B j eb))).setCell ⟨w.heap.size + 1, 0, none⟩ (I 0)).heap[i]? = wr.heap[i]? := fun i h1 h2 h3 =>
            (heap_setCell_other _ _ i _ h2).trans ((setRow_other _ _ i _ h1).trans (HW.out.block i h3))
          have hsz11 : wr.heap.size ≤ ((w10.setRow w.heap.size (serP (.slice A k ca) se.minute se.length se.zone se.gap se.fold (.slice B j eb))).setCell ⟨w.heap.size + 1, 0, none⟩ (I 0)).heap.size := by
            have h := HW.out.size
            simpa [World.setCell] using h
          have hv11 := (heap_setCell_other (w10.setRow w.heap.size (serP (.slice A k ca) se.minute se.length se.zone se.gap se.fold (.slice B j eb))) ⟨w.heap.size + 1, 0, none⟩ w.heap.size (I 0) (by show w.heap.size ≠ w.heap.size + 1; omega)).trans (setRow_heap _ _ _ (serP (.slice A k ca) se.minute se.length se.zone se.gap se.fold (.slice B j eb)) _ _ HV.out)
          have hc11 := cell_of_row _ (w.heap.size + 1) 0 _ _ _ (heap_setCell_same _ (w.heap.size + 1) 0 _ _ (I 0) HSC.out)
          refine ⟨_, results_row_cell rfl _ _ w.heap.size (w.heap.size + 1) _ (serP (.slice A k ca) se.minute se.length se.zone se.gap se.fold (.slice B j eb)) (0, 0) _ (I 0) rfl hv11 Tryz.underlying30 rfl (serP_info _ _ _ _ _ _ _) rfl (load_errno _ _ hc11), A, k, ca, B, j, eb, ns, HKN.out, HJ.out.symm, rfl, HM0.out, ?_, ?_, ?_⟩
          · exact (HLw.out.of_blocks hsz11 fun i h1 h2 => hbl11 i (by omega) (by omega) h2).rule (by omega)
          · exact ownsRow_base' (ownsRow_blocks HO2.out fun i h1 h2 => hbl11 i (by omega) (by omega) h2) (by omega)
          · exact (below_setRow (below_trans HB.out HW.out) (Nat.le_refl _) _).setCell (p := ⟨w.heap.size + 1, 0, none⟩) (Nat.le_succ _) _
end Go.Proofs.YtenbgpcdoljkgaaGreatDoor

/- The letter's reader: take, number, whatever the bytes' capacity (printed by gen_readerl.py from the texts Reader and ReadNum). -/
namespace Go.Proofs.YtenbgpcdoljkgaaGreatDoor
open Go Go.RowKit Go.Shelf
attribute [local go_sem] Oper.semAt_some

set_option maxRecDepth 10000 in
set_option maxHeartbeats 1000000 in
theorem take_okL (w : World) (N b bb off n c size : Nat) (hr : RBlk w N b (some ⟨bb, off, none⟩) n c false) (hs : size ≤ n) (hn : n ≤ c) (_hc : c ≤ 9223372036854775807) (hne : c ≠ size) :
    Calls Tryz.prog 84 #[I size, pt (N + 2), pt N] w (takeGot N w (.slice (some ⟨bb, off, none⟩) size c) fun w' => RBlk w' N b (some ⟨bb, off + size, none⟩) (n - size) (c - size) false) := by
  have c0 : w.cell? ⟨N, 0, none⟩ = some (.slice (some ⟨bb, off, none⟩) n c) := cell_of_row w N 0 _ _ _ hr.rest
  have f0 := frozen_of_row w N 0 _ _ hr.rest
  have c1 : w.cell? ⟨N + 1, 2, none⟩ = some (.bool false) := cell_of_row w (N + 1) 2 _ _ _ hr.rd
  have f1 := frozen_of_row w (N + 1) 2 _ _ hr.rd
  have c2 : w.cell? ⟨N + 2, 0, none⟩ = some (pt (N + 1)) := cell_of_row w (N + 2) 0 _ _ _ hr.var
  have hd : decide ((n : Int) < (size : Int)) = false := decide_eq_false (by omega)
  have HR := Lib.hid hr
  clear hr
  go_enter Tryz.func84, Tryz.ntmps84
  go_wp2
  go_still_tail 13, (by kernel_rfl)
  go_wp2
  go_ret
  exact ⟨rfl, ((HR.out.setBad false).setRest).draw, (((RKeep.refl N w).set (p := ⟨N + 1, 2, none⟩) (.inr rfl) _).set (p := ⟨N, 0, none⟩) (.inl rfl) _).draw⟩
set_option maxRecDepth 10000 in
set_option maxHeartbeats 1000000 in
theorem take_allL (w : World) (N b bb off size : Nat) (hr : RBlk w N b (some ⟨bb, off, none⟩) size size false) (_hc : size ≤ 9223372036854775807) :
    Calls Tryz.prog 84 #[I size, pt (N + 2), pt N] w (takeGot N w (.slice (some ⟨bb, off, none⟩) size size) fun w' => RBlk w' N b (some ⟨bb, off, none⟩) 0 0 false) := by
  have c0 : w.cell? ⟨N, 0, none⟩ = some (.slice (some ⟨bb, off, none⟩) size size) := cell_of_row w N 0 _ _ _ hr.rest
  have f0 := frozen_of_row w N 0 _ _ hr.rest
  have c1 : w.cell? ⟨N + 1, 2, none⟩ = some (.bool false) := cell_of_row w (N + 1) 2 _ _ _ hr.rd
  have f1 := frozen_of_row w (N + 1) 2 _ _ hr.rd
  have c2 : w.cell? ⟨N + 2, 0, none⟩ = some (pt (N + 1)) := cell_of_row w (N + 2) 0 _ _ _ hr.var
  have hd : decide ((size : Int) < (size : Int)) = false := decide_eq_false (by omega)
  have HR := Lib.hid hr
  clear hr
  go_enter Tryz.func84, Tryz.ntmps84
  go_wp2
  go_still_tail 13, (by kernel_rfl)
  go_wp2
  go_ret
  exact ⟨rfl, ((HR.out.setBad false).setRest).draw, (((RKeep.refl N w).set (p := ⟨N + 1, 2, none⟩) (.inr rfl) _).set (p := ⟨N, 0, none⟩) (.inl rfl) _).draw⟩
/-- The reader: what is left to be read, and whether it has failed; the bytes lie below block B. -/
def RStL (w : World) (N b B : Nat) (rest : List UInt8) (bad : Bool) : Prop :=
  ∃ A c, RBlk w N b A rest.length c bad ∧ rest.length ≤ c ∧ c ≤ 9223372036854775807 ∧ BytesAt w B A rest ∧ (A = none → c = 0)
def TakePostL (w : World) (N b B : Nat) (rest : List UInt8) (bad : Bool) (size : Nat) (e : Ending) (w' : World) : Prop :=
  if bad = true ∨ rest.length < size then e = .returned (.slice none 0 0) ∧ RStL w' N b B rest true ∧ RKeep N w w'
  else ∃ A c, e = .returned (.slice A size c) ∧ size ≤ c ∧ c ≤ 9223372036854775807 ∧ BytesAt w' B A (rest.take size) ∧ RStL w' N b B (rest.drop size) false ∧ RKeep N w w'
theorem take_anyL (w : World) (N b B : Nat) (rest : List UInt8) (bad : Bool) (size : Nat) (hB : B ≤ N) (hN : N < w.heap.size) (hr : RStL w N b B rest bad) :
    Calls Tryz.prog 84 #[I size, pt (N + 2), pt N] w (TakePostL w N b B rest bad size) := by
  obtain ⟨A, c, hb, hc1, hc2, hby, hnil⟩ := hr
  by_cases hs : rest.length < size
  · have hpos : bad = true ∨ rest.length < size := .inr hs
    cases bad with
    | true => exact (take_bad w N b A _ c size hb).mono fun e w' ⟨he, hw, hk⟩ => by unfold TakePostL; rw [if_pos hpos]; exact ⟨he, ⟨A, c, hw, hc1, hc2, hby.rkeep hk hB hN, hnil⟩, hk⟩
    | false => exact (take_short w N b A _ c size hb (by omega)).mono fun e w' ⟨he, hw, hk⟩ => by unfold TakePostL; rw [if_pos hpos]; exact ⟨he, ⟨A, c, hw, hc1, hc2, hby.rkeep hk hB hN, hnil⟩, hk⟩
  · cases bad with
    | true => exact (take_bad w N b A _ c size hb).mono fun e w' ⟨he, hw, hk⟩ => by unfold TakePostL; rw [if_pos (.inl rfl)]; exact ⟨he, ⟨A, c, hw, hc1, hc2, hby.rkeep hk hB hN, hnil⟩, hk⟩
    | false =>
      have hneg : ¬ (false = true ∨ rest.length < size) := by simp [hs]
      have htl : (rest.take size).length = size := by simp; omega
      have hdl : (rest.drop size).length = rest.length - size := by simp
      cases A with
      | none =>
        have h0 : c = 0 := hnil rfl
        have hl0 : rest.length = 0 := by omega
        have hs0 : size = 0 := by omega
        subst h0 hs0
        have hr0 := List.eq_nil_of_length_eq_zero hl0
        subst hr0
        refine (take_nil w N b hb).mono fun e w' ⟨he, hw, hk⟩ => ?_
        unfold TakePostL
        rw [if_neg hneg]
        exact ⟨none, 0, he, Nat.le_refl _, by omega, .inl rfl, ⟨none, 0, hw, Nat.le_refl _, by omega, .inl rfl, fun _ => rfl⟩, hk⟩
      | some a =>
        by_cases h0 : rest.length = 0
        · have hs0 : size = 0 := by omega
          subst hs0
          have hr0 := List.eq_nil_of_length_eq_zero h0
          subst hr0
          refine (take_zero w N b a c hb).mono fun e w' ⟨he, hw, hk⟩ => ?_
          unfold TakePostL
          rw [if_neg hneg]
          exact ⟨some a, c, he, Nat.zero_le _, hc2, .inl rfl, ⟨some a, c, hw, Nat.zero_le _, hc2, .inl rfl, fun h => by cases h⟩, hk⟩
        · rcases hby with h | ⟨bb, off, e, hbB, hcl⟩
          · exact absurd h h0
          · injection e with e
            subst e
            have got : ∀ w', RKeep N w w' → BytesAt w' B (some ⟨bb, off, none⟩) (rest.take size) := fun w' hk =>
              BytesAt.rkeep (.inr ⟨bb, off, rfl, hbB, fun j hj => by rw [hcl j (by omega)]; rw [List.getElem?_take_of_lt (by omega)]⟩) hk hB hN
            by_cases hcs : c = size
            · have hls : rest.length = size := by omega
              subst hcs
              rw [hls] at hb
              refine (take_allL w N b bb off c hb hc2).mono fun e w' ⟨he, hw, hk⟩ => ?_
              unfold TakePostL
              rw [if_neg hneg]
              have hd0 : (rest.drop c).length = 0 := by omega
              exact ⟨_, c, he, Nat.le_refl _, hc2, got w' hk, ⟨some ⟨bb, off, none⟩, 0, by rw [hd0]; exact hw, by omega, by omega, .inl hd0, fun h => by cases h⟩, hk⟩
            · refine (take_okL w N b bb off _ c size hb (by omega) hc1 hc2 hcs).mono fun e w' ⟨he, hw, hk⟩ => ?_
              unfold TakePostL
              rw [if_neg hneg]
              refine ⟨_, c, he, by omega, hc2, got w' hk, ⟨some ⟨bb, off + size, none⟩, c - size, by rw [hdl]; exact hw, by omega, by omega, ?_, fun h => by cases h⟩, hk⟩
              exact BytesAt.rkeep (.inr ⟨bb, off + size, rfl, hbB, fun j hj => by rw [show off + size + j = off + (size + j) by omega, hcl (size + j) (by omega), List.getElem?_drop]⟩) hk hB hN
theorem RStL.below {M : Nat} {w w' : World} {N b B : Nat} {rest : List UInt8} {bad : Bool} (h : RStL w N b B rest bad) (hb : Below M w w') (hB : B ≤ N) (hN : N + 2 < M) : RStL w' N b B rest bad := by
  obtain ⟨A, c, hr, h1, h2, h3, h4⟩ := h
  exact ⟨A, c, ⟨(hb.block N (by omega)).trans hr.rest, (hb.block (N + 1) (by omega)).trans hr.rd, (hb.block (N + 2) (by omega)).trans hr.var⟩, h1, h2, h3.keep (hb.mono (by omega)), h4⟩
theorem take_genL (w : World) (N b B : Nat) (rest : List UInt8) (bad : Bool) (size : Nat) (hB : B ≤ N) (hN : N < w.heap.size) (hr : RStL w N b B rest bad) :
    Calls Tryz.prog 84 #[I size, pt (N + 2), pt N] w fun e w' => ∃ A c, e = .returned (.slice A (tk rest bad size).length c) ∧ BytesAt w' B A (tk rest bad size) ∧ RStL w' N b B (tkR rest bad size) (tkB rest bad size) ∧ RKeep N w w' := by
  refine (take_anyL w N b B rest bad size hB hN hr).mono fun e w' h => ?_
  unfold TakePostL at h
  by_cases ht : bad = true ∨ rest.length < size
  · rw [if_pos ht] at h
    have e1 : tkB rest bad size = true := by unfold tkB; simpa using ht
    have e2 : tk rest bad size = [] := by unfold tk; rw [if_pos e1]
    have e3 : tkR rest bad size = rest := by unfold tkR; rw [if_pos e1]
    rw [e1, e2, e3]
    exact ⟨none, 0, h.1, .inl rfl, h.2.1, h.2.2⟩
  · rw [if_neg ht] at h
    have e1 : tkB rest bad size = false := by unfold tkB; simpa using ht
    have e2 : tk rest bad size = rest.take size := by unfold tk; rw [e1]; simp
    have e3 : tkR rest bad size = rest.drop size := by unfold tkR; rw [e1]; simp
    have e4 : (rest.take size).length = size := by have := not_or.1 ht; simp; omega
    rw [e1, e2, e3, e4]
    obtain ⟨A, c, h1, _, _, h4, h5, h6⟩ := h
    exact ⟨A, c, h1, h4, h5, h6⟩
def NumGotL (w : World) (N b B : Nat) (rest : List UInt8) (bad : Bool) (size : Nat) (e : Ending) (w' : World) : Prop :=
  e = .returned (I (rdN rest bad size)) ∧ RStL w' N b B (tkR rest bad size) (tkB rest bad size) ∧ RKeep N w w'
set_option maxRecDepth 100000 in
set_option maxHeartbeats 2000000 in
theorem rnumber_anyL (w : World) (N b B size : Nat) (rest : List UInt8) (bad : Bool) (hBN : B ≤ N) (hN : N + 2 < w.heap.size) (hr : RStL w N b B rest bad) (h8 : size ≤ 8) :
    Calls Tryz.prog 55 #[pt (N + 1), I size] w (NumGotL w N b B rest bad size) := by
  refine (callsIn_wide (n := 3)).1 ?_
  have hro : Fence.wide.round = none := rfl
  have h1 : 1 ≤ 3 := by omega
  have hB0 : Below w.heap.size w (w.alloc (.cells #[.int .i64 0] 3)) := (Below.refl _ w).alloc (Nat.le_refl _) _
  have hr1 : RStL (w.alloc (.cells #[.int .i64 0] 3)) N b B rest bad := hr.below hB0 hBN hN
  have hf1 : (w.alloc (.cells #[.int .i64 0] 3)).cell? ⟨N + 1, 1, none⟩ = some (.func (.func 84) #[] #[pt (N + 2), pt N]) := by obtain ⟨A, c, h, _⟩ := hr1; exact cell_of_row _ (N + 1) 1 _ _ _ h.rd
  have bS := Boxed.new w 3 (.int .i64 0)
  have HT0 := take_genL (w.alloc (.cells #[.int .i64 0] 3)) N b B rest bad size hBN (by simp; omega) hr1
  obtain ⟨bs, hbs⟩ : ∃ bs, tk rest bad size = bs := ⟨_, rfl⟩
  have HL := Lib.hid (show bs.length ≤ size from hbs ▸ tk_le rest bad size)
  rw [hbs] at HT0
  have HBS2 := Lib.hid hbs
  have HT := Lib.hid HT0
  have HR := Lib.hid hr
  have HR1 := Lib.hid hr1
  have HB0 := Lib.hid hB0
  have HBS := Lib.hid bS
  clear hr hr1 hB0 bS HT0 hbs
  refine callsIn_of_wp_marks Tryz.func55 rfl trivial ?_ hro
  simp only [Tryz.ntmps55, List.size_toArray, List.length_cons, List.length_nil, Nat.reduceAdd, Nat.reduceSub, Array.replicate_succ, Array.replicate_zero, List.push_toArray, List.append_toArray, List.nil_append, List.cons_append]
  gi_wp2_with first
    | (refine ⟨trivial, ?_⟩; gi_at_call 84; refine (callsIn_wide.2 HT.out).mono ?_; rintro e w2 ⟨A, c, rfl, hby, hrs, hk⟩; have HBY := Lib.hid hby; have HRS := Lib.hid hrs; have HK := Lib.hid hk; clear hby hrs hk)
    | (refine ⟨trivial, ?_⟩; gi_at_call 86; refine (back_in Fence.wide 2 trivial hro _ _ _ _).mono ?_; rintro e w' ⟨rfl, rfl⟩)
  have hw2 : w.heap.size < w2.heap.size := Nat.lt_of_lt_of_le (by simp) HK.out.size
  have bS2 : Boxed w2 w.heap.size 3 (.int .i64 0) := (HK.out.block w.heap.size (by simp) (by omega) (by omega)).trans HBS.out
  have bN := Boxed.new w2 38 (.slice A bs.length c)
  have hB1 : Below w.heap.size w2 (w2.alloc (.cells #[.slice A bs.length c] 38)) := ((Below.refl _ w2).alloc (Nat.le_refl _) _).mono (by omega)
  have hby1 : BytesAt (w2.alloc (.cells #[.slice A bs.length c] 38)) w.heap.size A bs := (HBY.out.more (by omega)).keep hB1
  have hcl : (w2.alloc (.cells #[.slice A bs.length c] 38)).cell? ⟨w2.heap.size, 0, none⟩ = some (.slice A bs.length c) := bN.cell
  have hst := back_stops Fence.wide (3 - 1) trivial hro (by omega) w2.heap.size w.heap.size A c bs (by have := HL.out; omega) (w2.alloc (.cells #[.slice A bs.length c] 38)) (by simp) (by simp; omega) hcl hby1
  refine wpIn_rangeFunc_ownG hro h1 (gf := 110) (lb := #[.pointer (some ⟨w2.heap.size, 0, none⟩)]) rfl trivial (enters_of Tryz.func110 (by kernel_rfl) rfl)
    hst (fun h k => h.trans k) (bk_b (by simp; omega) (by simp)) (Below.refl _ _) (fun _ => rfl)
    (fun pre W => Boxed W w.heap.size 3 (I (unle pre)) ∧ Below w.heap.size w2 W)
    (fun _ _ _ => False)
    (OwnFrom.and (Own.from (boxed_own _ _ _) _) (ownFrom_below (by omega) (by simp; omega)))
    (fun _ _ _ _ _ hs _ _ => hs)
    ⟨bS2.alloc _, hB1⟩
    (fun x => { tmps := #[pt (N + 1), I size, undef, undef, .int .i64 0, .pointer (some ⟨w.heap.size, 0, none⟩), undef, Extern.Stop.cell x.2, pt (N + 1), .pointer (some ⟨N + 1, 0, none⟩), .pointer (some ⟨N + 1, 1, none⟩), .func (.func 84) #[] #[pt (N + 2), pt N], I size, .slice A bs.length c, .func (.func 110) #[] #[.pointer (some ⟨w2.heap.size, 0, none⟩)], .int .i64 (x.1 : Int), Extern.Stop.cell x.2, undef, undef, undef, undef, undef, undef], defers := [] }) ?assign ?body ?done ?stop
  case assign =>
    intro l x W K hK
    gi_wp2
    exact hK
  case body =>
    rintro l pre ⟨xi, xc⟩ W ⟨hbx, hB⟩ _
    have hc := hbx.cell
    have hx1 : (xc.toNat : Int) < 256 := by have := xc.toNat_lt; omega
    have hx2 : (0 : Int) ≤ xc.toNat := by omega
    simp only [Extern.Stop.cell]
    have hf := hbx.frozen
    gi_wp2
    exact ⟨(KeepsOthers.setCell _ _ _).from _, ⟨(Below.refl w.heap.size W).setCell (p := ⟨w.heap.size, 0, none⟩) (Nat.le_refl _) _, World.cell?_setCell_other _ _ _ _ (by intro e; have := congrArg Addr.block e; simp only at this; omega)⟩, by rw [unle_snoc]; exact hbx.set _, hB.setCell (p := ⟨w.heap.size, 0, none⟩) (Nat.le_refl _) _⟩
  case done =>
    rintro D ys W hD rfl ⟨hbx, hB⟩ hK
    have hc := hbx.cell
    gi_wp2
    refine ⟨by simp, .inl ⟨_, _, rfl, run_takeDeferred hK, ?_⟩⟩
    refine ⟨_, results_tmp rfl _ _ _, ?_⟩
    have hB2 := hB.trans (belowK_b (w := w2) (n₀ := w.heap.size) (by omega) W D _ (.deferred none) (by simp at hD; omega) hK rfl rfl)
    unfold NumGotL rdN
    rw [HBS2.out]
    exact ⟨rfl, HRS.out.below hB2 hBN hN, rkeep_mix HB0.out HK.out hB2⟩
  case stop =>
    rintro D c pre W _ _ h _
    exact h.elim
end Go.Proofs.YtenbgpcdoljkgaaGreatDoor

/- letter.Read of known bytes: the letter under way, its slices' addresses with it. -/
namespace Go.Proofs.YtenbgpcdoljkgaaGreatDoor
open Go Go.RowKit

/-- The letter under way in the variable, the reader that has not failed, what has not been touched, and the memory behind the reader, as it was in wm. -/
structure LIn (w wm w' : World) (l : Lt) (s : Sl) (rest : List UInt8) : Prop where
  blk : w'.heap[w.heap.size + 1]? = some (.cells (ltVal l s) 36 (0, 0))
  st : RStL w' (w.heap.size + 2) (w.heap.size + 1) w.heap.size rest false
  res : w'.heap[w.heap.size]? = some (.cells (ltVal zLt zSl) 36 (0, 0))
  lo : Below w.heap.size w w'
  sz : w.heap.size + 4 < w'.heap.size
  msz : wm.heap.size ≤ w'.heap.size
  mem : ∀ k, w.heap.size + 5 ≤ k → k < wm.heap.size → w'.heap[k]? = wm.heap[k]?
section
variable {x : Int} {n : Nat} {w wm w1 w2 : World} {l l' : Lt} {s s' : Sl} {rest R : List UInt8}
theorem LIn.row (h : LIn w wm w1 l s rest) : Row w1 (w.heap.size + 1) (ltVal l s) := Row.of_blk h.blk
theorem LIn.froz (h : LIn w wm w1 l s rest) (i : Nat) : w1.frozen? ⟨w.heap.size + 1, i, none⟩ = false := frozen_of_row w1 (w.heap.size + 1) i _ _ h.blk
theorem LIn.grow (h : LIn w wm w1 l s rest) (hb : Below w1.heap.size w1 w2) : LIn w wm w2 l s rest :=
  have hs := h.sz
  ⟨(hb.block _ (by omega)).trans h.blk, h.st.below hb (by omega) (by omega), (hb.block _ (by omega)).trans h.res, below_trans h.lo hb, Nat.lt_of_lt_of_le h.sz hb.size, Nat.le_trans h.msz hb.size, fun k h1 h2 => (hb.block k (Nat.lt_of_lt_of_le h2 h.msz)).trans (h.mem k h1 h2)⟩
theorem LIn.read (h : LIn w wm w1 l s rest) (hr : RStL w2 (w.heap.size + 2) (w.heap.size + 1) w.heap.size R false) (h3 : RKeep (w.heap.size + 2) w1 w2) : LIn w wm w2 l s R := by
  have hs := h.sz
  refine ⟨(h3.block _ (by omega) (by omega) (by omega)).trans h.blk, hr, (h3.block _ (by omega) (by omega) (by omega)).trans h.res, ?_, Nat.lt_of_lt_of_le h.sz h3.size, Nat.le_trans h.msz h3.size, fun k h1 h2 => (h3.block k (Nat.lt_of_lt_of_le h2 h.msz) (by omega) (by omega)).trans (h.mem k h1 h2)⟩
  exact ⟨h3.os.trans h.lo.os, h3.tape.trans h.lo.tape, h3.output.trans h.lo.output, Nat.le_trans h.lo.size h3.size, fun k hk => (h3.block k (by omega) (by omega) (by omega)).trans (h.lo.block k hk)⟩
/-- A number of n bytes that were written with le. -/
theorem LIn.number (h : LIn w wm w1 l s (le x n ++ R)) (h8 : n ≤ 8) (hv : rdN (le x n ++ R) false n = x) :
    Calls Tryz.prog 55 #[pt (w.heap.size + 3), I n] w1 fun e w2 => e = .returned (I x) ∧ LIn w wm w2 l s R :=
  (rnumber_anyL w1 (w.heap.size + 2) (w.heap.size + 1) w.heap.size n _ false (by omega) (by have := h.sz; omega) h.st h8).mono fun e w2 ⟨h1, h2, h3⟩ => by
    rw [hv] at h1
    rw [(tk_le' x n R).2.1, (tk_le' x n R).2.2] at h2
    exact ⟨h1, h.read h2 h3⟩
theorem LIn.number8 (h : LIn w wm w1 l s (le x 8 ++ R)) (hx : fits x) : Calls Tryz.prog 55 #[pt (w.heap.size + 3), I 8] w1 fun e w2 => e = .returned (I x) ∧ LIn w wm w2 l s R :=
  h.number (by omega) (rdN_8 x hx R)
theorem LIn.number4 (h : LIn w wm w1 l s (le x 4 ++ R)) (h0 : 0 ≤ x) (h1 : x < 4294967296) : Calls Tryz.prog 55 #[pt (w.heap.size + 3), I 4] w1 fun e w2 => e = .returned (I x) ∧ LIn w wm w2 l s R :=
  h.number (by omega) (rdN_4 x h0 h1 R)
theorem LIn.number1 (h : LIn w wm w1 l s (le x 1 ++ R)) (h0 : 0 ≤ x) (h1 : x < 256) : Calls Tryz.prog 55 #[pt (w.heap.size + 3), I 1] w1 fun e w2 => e = .returned (I x) ∧ LIn w wm w2 l s R :=
  h.number (by omega) (rdN_1 x h0 h1 R)
theorem LIn.store (h : LIn w wm w1 l s rest) {o : Nat} {v : Value} (hl : ltVal l' s' = (ltVal l s).setIfInBounds o v) : LIn w wm (w1.setCell ⟨w.heap.size + 1, o, none⟩ v) l' s' rest := by
  have hs := h.sz
  have hb : Below (w.heap.size + 1) w1 (w1.setCell ⟨w.heap.size + 1, o, none⟩ v) := (Below.refl _ w1).setCell (p := ⟨w.heap.size + 1, o, none⟩) (Nat.le_refl _) _
  refine ⟨?_, ?_, (hb.block _ (by omega)).trans h.res, h.lo.trans (hb.mono (by omega)), Nat.lt_of_lt_of_le h.sz hb.size, Nat.le_trans h.msz hb.size, fun k h1 h2 => (heap_setCell_other w1 _ k _ (by show k ≠ w.heap.size + 1; omega)).trans (h.mem k h1 h2)⟩
  · rw [heap_setCell_same w1 _ o _ _ _ h.blk, hl]
  · obtain ⟨A, c, hr, h1, h2, h3, h4⟩ := h.st
    exact ⟨A, c, ⟨(heap_setCell_other w1 _ _ _ (by simp)).trans hr.rest, (heap_setCell_other w1 _ _ _ (by simp)).trans hr.rd, (heap_setCell_other w1 _ _ _ (by simp)).trans hr.var⟩, h1, h2, h3.keep (hb.mono (by omega)), h4⟩
theorem LIn.draw (h : LIn w wm w1 l s rest) : LIn w wm w1.drew l s rest :=
  ⟨h.blk, by obtain ⟨A, c, hr, h1, h2, h3, h4⟩ := h.st; exact ⟨A, c, hr.draw, h1, h2, h3, h4⟩, h.res, ⟨h.lo.os, h.lo.tape, h.lo.output, h.lo.size, h.lo.block⟩, h.sz, h.msz, h.mem⟩
/-- The memory behind the reader, seen from here on. -/
theorem LIn.rebase (h : LIn w wm w1 l s rest) : LIn w w1 w1 l s rest := ⟨h.blk, h.st, h.res, h.lo, h.sz, Nat.le_refl _, fun _ _ _ => rfl⟩
end
end Go.Proofs.YtenbgpcdoljkgaaGreatDoor

/- (*letter.reader).window on known bytes. -/
namespace Go.Proofs.YtenbgpcdoljkgaaGreatDoor
open Go Go.RowKit

theorem LIn.rdr {w wm w1 : World} {l : Lt} {s : Sl} {rest : List UInt8} (h : LIn w wm w1 l s rest) : w1.cell? ⟨w.heap.size + 3, 0, none⟩ = some (pt (w.heap.size + 1)) := by
  obtain ⟨A, c, hr, _⟩ := h.st
  exact cell_of_row w1 _ 0 _ _ _ hr.rd
attribute [local go_sem] ltVal_get
set_option maxRecDepth 10000 in
set_option maxHeartbeats 2000000 in
theorem rwindow_yes (w wm w1 : World) (l : Lt) (s : Sl) (R : List UInt8) (x y : Int) (hx : fits x) (hy : fits y) (h : LIn w wm w1 l s (le x 8 ++ (le y 8 ++ R))) :
    Calls Tryz.prog 58 #[pt (w.heap.size + 3)] w1 fun e w2 => e = .returned (.tuple #[]) ∧ LIn w wm w2 { l with wfrom := x, wto := y } s R := by
  have HD := Lib.hid h.draw
  have hc := h.rdr
  have hsz := h.sz
  clear h
  go_enter Tryz.func58, Tryz.ntmps58
  go_wp2_with fail
  go_region_law (go_simp; go_at_call 55; refine (HD.out.number8 hx).mono ?_; rintro e w5 ⟨rfl, h5⟩; have H5 := Lib.hid h5; have hc5 := h5.rdr; have hv5 : w5.cell? ⟨w.heap.size + 1, 27, none⟩ = some (I l.wfrom) := h5.row.2 27; have hf5 := h5.froz 27; have hs5 := h5.sz; clear h5)
  all_goals
    have H6 : Hid (LIn w wm (w5.setCell ⟨w.heap.size + 1, 27, none⟩ (I x)) { l with wfrom := x } s (le y 8 ++ R)) := Lib.hid (H5.out.store rfl)
    have hc6 := H6.out.rdr
    have HD6 := Lib.hid H6.out.draw
    go_wp2_with fail
    go_region_law (go_simp; go_at_call 55; refine (HD6.out.number8 hy).mono ?_; rintro e w7 ⟨rfl, h7⟩; have H7 := Lib.hid h7; have hc7 := h7.rdr; have hv7 : w7.cell? ⟨w.heap.size + 1, 28, none⟩ = some (I l.wto) := h7.row.2 28; have hf7 := h7.froz 28; have hs7 := h7.sz; clear h7)
    all_goals
      have H8 : Hid (LIn w wm (w7.setCell ⟨w.heap.size + 1, 28, none⟩ (I y)) { l with wfrom := x, wto := y } s R) := Lib.hid (H7.out.store rfl)
      go_wp2_with fail
      go_end0
      exact ⟨rfl, H8.out⟩
end Go.Proofs.YtenbgpcdoljkgaaGreatDoor

/- (*letter.reader).move on known bytes. -/
namespace Go.Proofs.YtenbgpcdoljkgaaGreatDoor
open Go Go.RowKit

set_option maxRecDepth 10000 in
set_option maxHeartbeats 2000000 in
theorem rmove_no (w wm w1 : World) (l : Lt) (s : Sl) (R : List UInt8) (dy td mi ln : Int) (h1 : fits dy) (h2 : fits td) (h3 : fits mi) (h4 : fits ln) (h : LIn w wm w1 l s (le dy 8 ++ (le 0 1 ++ (le td 8 ++ (le mi 8 ++ (le ln 8 ++ R)))))) :
    Calls Tryz.prog 56 #[pt (w.heap.size + 3)] w1 fun e w2 => e = .returned (.tuple #[]) ∧ LIn w wm w2 { l with move := ⟨dy, false, td, mi, ln⟩ } s R := by
  have G0 := Lib.hid h
  have hc := h.rdr
  have hsz := h.sz
  clear h
  go_enter Tryz.func56, Tryz.ntmps56
  go_wp2_with fail
  refine (G0.out.number8 h1).mono ?_
  rintro e w2 ⟨rfl, g1⟩
  have v1 : w2.cell? ⟨w.heap.size + 1, 12, none⟩ = some (I l.move.day) := g1.row.2 12
  have f1 := g1.froz 12
  have G1 := Lib.hid (g1.store (l' := { l with move := { l.move with day := dy } }) (s' := s) (o := 12) (v := I dy) rfl)
  clear g1
  go_wp2_with fail
  refine (G1.out.number1 (by omega) (by omega)).mono ?_
  rintro e w3 ⟨rfl, g2⟩
  have v2 : w3.cell? ⟨w.heap.size + 1, 13, none⟩ = some (.bool l.move.drop) := g2.row.2 13
  have f2 := g2.froz 13
  have G2 := Lib.hid (g2.store (l' := { l with move := { l.move with day := dy, drop := false } }) (s' := s) (o := 13) (v := .bool false) rfl)
  clear g2
  go_wp2_with fail
  refine (G2.out.number8 h2).mono ?_
  rintro e w4 ⟨rfl, g3⟩
  have v3 : w4.cell? ⟨w.heap.size + 1, 14, none⟩ = some (I l.move.toDay) := g3.row.2 14
  have f3 := g3.froz 14
  have G3 := Lib.hid (g3.store (l' := { l with move := { l.move with day := dy, drop := false, toDay := td } }) (s' := s) (o := 14) (v := I td) rfl)
  clear g3
  go_wp2_with fail
  refine (G3.out.number8 h3).mono ?_
  rintro e w5 ⟨rfl, g4⟩
  have v4 : w5.cell? ⟨w.heap.size + 1, 15, none⟩ = some (I l.move.minute) := g4.row.2 15
  have f4 := g4.froz 15
  have G4 := Lib.hid (g4.store (l' := { l with move := { l.move with day := dy, drop := false, toDay := td, minute := mi } }) (s' := s) (o := 15) (v := I mi) rfl)
  clear g4
  go_wp2_with fail
  refine (G4.out.number8 h4).mono ?_
  rintro e w6 ⟨rfl, g5⟩
  have v5 : w6.cell? ⟨w.heap.size + 1, 16, none⟩ = some (I l.move.length) := g5.row.2 16
  have f5 := g5.froz 16
  have G5 := Lib.hid (g5.store (l' := { l with move := ⟨dy, false, td, mi, ln⟩ }) (s' := s) (o := 16) (v := I ln) rfl)
  clear g5
  go_wp2_with fail
  go_end0
  exact ⟨rfl, G5.out⟩
set_option maxRecDepth 10000 in
set_option maxHeartbeats 2000000 in
theorem rmove_drop (w wm w1 : World) (l : Lt) (s : Sl) (R : List UInt8) (dy td mi ln : Int) (h1 : fits dy) (h2 : fits td) (h3 : fits mi) (h4 : fits ln) (h : LIn w wm w1 l s (le dy 8 ++ (le 1 1 ++ (le td 8 ++ (le mi 8 ++ (le ln 8 ++ R)))))) :
    Calls Tryz.prog 56 #[pt (w.heap.size + 3)] w1 fun e w2 => e = .returned (.tuple #[]) ∧ LIn w wm w2 { l with move := ⟨dy, true, td, mi, ln⟩ } s R := by
  have G0 := Lib.hid h
  have hc := h.rdr
  have hsz := h.sz
  clear h
  go_enter Tryz.func56, Tryz.ntmps56
  go_wp2_with fail
  refine (G0.out.number8 h1).mono ?_
  rintro e w2 ⟨rfl, g1⟩
  have v1 : w2.cell? ⟨w.heap.size + 1, 12, none⟩ = some (I l.move.day) := g1.row.2 12
  have f1 := g1.froz 12
  have G1 := Lib.hid (g1.store (l' := { l with move := { l.move with day := dy } }) (s' := s) (o := 12) (v := I dy) rfl)
  clear g1
  go_wp2_with fail
  refine (G1.out.number1 (by omega) (by omega)).mono ?_
  rintro e w3 ⟨rfl, g2⟩
  have v2 : w3.cell? ⟨w.heap.size + 1, 13, none⟩ = some (.bool l.move.drop) := g2.row.2 13
  have f2 := g2.froz 13
  have G2 := Lib.hid (g2.store (l' := { l with move := { l.move with day := dy, drop := true } }) (s' := s) (o := 13) (v := .bool true) rfl)
  clear g2
  go_wp2_with fail
  refine (G2.out.number8 h2).mono ?_
  rintro e w4 ⟨rfl, g3⟩
  have v3 : w4.cell? ⟨w.heap.size + 1, 14, none⟩ = some (I l.move.toDay) := g3.row.2 14
  have f3 := g3.froz 14
  have G3 := Lib.hid (g3.store (l' := { l with move := { l.move with day := dy, drop := true, toDay := td } }) (s' := s) (o := 14) (v := I td) rfl)
  clear g3
  go_wp2_with fail
  refine (G3.out.number8 h3).mono ?_
  rintro e w5 ⟨rfl, g4⟩
  have v4 : w5.cell? ⟨w.heap.size + 1, 15, none⟩ = some (I l.move.minute) := g4.row.2 15
  have f4 := g4.froz 15
  have G4 := Lib.hid (g4.store (l' := { l with move := { l.move with day := dy, drop := true, toDay := td, minute := mi } }) (s' := s) (o := 15) (v := I mi) rfl)
  clear g4
  go_wp2_with fail
  refine (G4.out.number8 h4).mono ?_
  rintro e w6 ⟨rfl, g5⟩
  have v5 : w6.cell? ⟨w.heap.size + 1, 16, none⟩ = some (I l.move.length) := g5.row.2 16
  have f5 := g5.froz 16
  have G5 := Lib.hid (g5.store (l' := { l with move := ⟨dy, true, td, mi, ln⟩ }) (s' := s) (o := 16) (v := I ln) rfl)
  clear g5
  go_wp2_with fail
  go_end0
  exact ⟨rfl, G5.out⟩
end Go.Proofs.YtenbgpcdoljkgaaGreatDoor

/- letter.Read of known bytes: take, a change of the letter's block, the letter whose fields below k are read, the bytes from field k on. -/
namespace Go.Proofs.YtenbgpcdoljkgaaGreatDoor
open Go Go.RowKit

theorem BytesAt.via {w w1 w2 : World} {B : Nat} {A : Option Addr} {bs : List UInt8} (h : BytesAt w1 B A bs) (h1 : Below B w w1) (h2 : Below B w w2) : BytesAt w2 B A bs := by
  rcases h with h | ⟨b, off, hA, hb, hc⟩
  · exact .inl h
  · exact .inr ⟨b, off, hA, hb, fun j hj => ((h2.cell (p := ⟨b, off + j, none⟩) hb).trans (h1.cell (p := ⟨b, off + j, none⟩) hb).symm).trans (hc j hj)⟩
section
variable {n : Nat} {w wm w1 w2 : World} {l l' : Lt} {s s' : Sl} {xs rest R : List UInt8}
theorem LIn.fn (h : LIn w wm w1 l s rest) : w1.cell? ⟨w.heap.size + 3, 1, none⟩ = some (.func (.func 84) #[] #[pt (w.heap.size + 4), pt (w.heap.size + 2)]) := by
  obtain ⟨A, c, hr, _⟩ := h.st
  exact cell_of_row w1 _ 1 _ _ _ hr.rd
theorem LIn.fine (h : LIn w wm w1 l s rest) : w1.cell? ⟨w.heap.size + 3, 2, none⟩ = some (.bool false) := by
  obtain ⟨A, c, hr, _⟩ := h.st
  exact cell_of_row w1 _ 2 _ _ _ hr.rd
theorem LIn.rfroz (h : LIn w wm w1 l s rest) (i : Nat) : w1.frozen? ⟨w.heap.size + 3, i, none⟩ = false := by
  obtain ⟨A, c, hr, _⟩ := h.st
  exact frozen_of_row w1 _ i _ _ hr.rd
theorem LIn.take (h : LIn w wm w1 l s (xs ++ R)) (hn : xs.length = n) :
    Calls Tryz.prog 84 #[I n, pt (w.heap.size + 4), pt (w.heap.size + 2)] w1 fun e w2 => ∃ A c, e = .returned (.slice A n c) ∧ n ≤ c ∧ c ≤ 9223372036854775807 ∧ BytesAt w2 w.heap.size A xs ∧ LIn w wm w2 l s R :=
  (take_anyL w1 (w.heap.size + 2) (w.heap.size + 1) w.heap.size (xs ++ R) false n (by omega) (by have := h.sz; omega) h.st).mono fun e w2 hp => by
    unfold TakePostL at hp
    rw [if_neg (by simp; omega)] at hp
    obtain ⟨A, c, h1, h2, h3, h4, h5, h6⟩ := hp
    rw [show (xs ++ R).take n = xs by subst hn; simp] at h4
    rw [show (xs ++ R).drop n = R by subst hn; simp] at h5
    exact ⟨A, c, h1, h2, h3, h4, h.read h5 h6⟩
/-- The letter's block has changed, and memory that is younger than wm. -/
theorem LIn.turn (h : LIn w wm w1 l s rest) (hb : w2.heap[w.heap.size + 1]? = some (.cells (ltVal l' s') 36 (0, 0))) (ho : w2.os = w1.os) (ht : w2.tape = w1.tape) (hu : w2.output = w1.output) (hs : w1.heap.size ≤ w2.heap.size)
    (hk : ∀ k, k < wm.heap.size ∨ k < w.heap.size + 5 → k ≠ w.heap.size + 1 → w2.heap[k]? = w1.heap[k]?) : LIn w wm w2 l' s' rest := by
  have hlo : Below w.heap.size w1 w2 := ⟨ho, ht, hu, hs, fun k h1 => hk k (.inr (by omega)) (by omega)⟩
  refine ⟨hb, ?_, (hk _ (.inr (by omega)) (by omega)).trans h.res, h.lo.trans hlo, Nat.lt_of_lt_of_le h.sz hs, Nat.le_trans h.msz hs, fun k h1 h2 => (hk k (.inl h2) (by omega)).trans (h.mem k h1 h2)⟩
  obtain ⟨A, c, hr, h1, h2, h3, h4⟩ := h.st
  exact ⟨A, c, ⟨(hk _ (.inr (by omega)) (by omega)).trans hr.rest, (hk _ (.inr (by omega)) (by omega)).trans hr.rd, (hk _ (.inr (by omega)) (by omega)).trans hr.var⟩, h1, h2, h3.keep hlo, h4⟩
theorem LIn.setRow (h : LIn w wm w1 l s rest) : LIn w wm (w1.setRow (w.heap.size + 1) (ltVal l' s')) l' s' rest :=
  h.turn (setRow_heap _ _ _ _ _ _ h.blk) rfl rfl rfl (by simp [World.setRow]) fun k _ h2 => setRow_other _ _ k _ h2
theorem LIn.setFine (h : LIn w wm w1 l s rest) : LIn w wm (w1.setCell ⟨w.heap.size + 3, 2, none⟩ (.bool false)) l s rest := by
  have hs := h.sz
  obtain ⟨A, c, hr, h1, h2, h3, h4⟩ := h.st
  have hlo : Below w.heap.size w1 (w1.setCell ⟨w.heap.size + 3, 2, none⟩ (.bool false)) := (Below.refl _ w1).setCell (p := ⟨w.heap.size + 3, 2, none⟩) (by show w.heap.size ≤ w.heap.size + 3; omega) _
  exact ⟨(heap_setCell_other w1 _ _ _ (by simp)).trans h.blk, ⟨A, c, hr.setBad false, h1, h2, h3.keep hlo, h4⟩, (heap_setCell_other w1 _ _ _ (by simp)).trans h.res, h.lo.trans hlo, Nat.lt_of_lt_of_le h.sz hlo.size, Nat.le_trans h.msz hlo.size,
    fun k h5 h6 => (heap_setCell_other w1 _ k _ (by show k ≠ w.heap.size + 3; omega)).trans (h.mem k h5 h6)⟩
end
/-- The fields of L below k, the others zero. -/
def lowTo (L : Lt) (k : Nat) : Lt :=
  ⟨L.kind, L.src, L.dst, if 0 < k then L.meeting else 0, if 1 < k then L.edition else 0, if 2 < k then L.issuer else 0, if 3 < k then L.version else 0, if 4 < k then L.person else 0, if 5 < k then L.other else 0, if 6 < k then L.resource else 0, if 7 < k then L.scope else 0, if 8 < k then L.day else 0,
    if 9 < k then L.move else zMv, if 10 < k then L.series else zSer, if 11 < k then L.deadline else 0, if 12 < k then L.state else 0, if 13 < k then L.grain else 0, if 14 < k then L.wfrom else 0, if 14 < k then L.wto else 0, if 15 < k then L.cells else [], if 16 < k then L.ref else List.replicate 32 0⟩
theorem lowTo_kind (L : Lt) (k : Nat) : (lowTo L k).kind = L.kind := rfl
theorem lowTo_ref (L : Lt) (k : Nat) (h : L.ref.length = 32) : (lowTo L k).ref.length = 32 := by
  unfold lowTo
  dsimp only
  split
  · exact h
  · simp
theorem lowTo_num (L : Lt) (k : Nat) (hk : k < 17) (h : (numOff k).isSome = true) : setNum (lowTo L k) k (numF L k) = lowTo L (k + 1) :=
  all17 (p := fun k => (numOff k).isSome = true → setNum (lowTo L k) k (numF L k) = lowTo L (k + 1)) (by refine ⟨?_, ?_, ?_, ?_, ?_, ?_, ?_, ?_, ?_, ?_, ?_, ?_, ?_, ?_, ?_, ?_, ?_⟩ <;> (intro h; first | (cases h; done) | simp [lowTo, setNum, numF])) k hk h
theorem lowTo_9 (L : Lt) : { lowTo L 9 with move := L.move } = lowTo L 10 := by simp [lowTo]
theorem lowTo_10 (L : Lt) : { lowTo L 10 with series := L.series } = lowTo L 11 := by simp [lowTo]
theorem lowTo_14 (L : Lt) : { lowTo L 14 with wfrom := L.wfrom, wto := L.wto } = lowTo L 15 := by simp [lowTo]
theorem lowTo_15 (L : Lt) : { lowTo L 15 with cells := L.cells } = lowTo L 16 := by simp [lowTo]
theorem lowTo_16 (L : Lt) : { lowTo L 16 with ref := L.ref } = lowTo L 17 := by simp [lowTo]
theorem lowTo_17 (L : Lt) : lowTo L 17 = L := by simp [lowTo]
/-- A field that is zero. -/
def FldZ (L : Lt) (k : Nat) : Prop :=
  if (numOff k).isSome = true then numF L k = 0 else if k = 9 then L.move = zMv else if k = 10 then L.series = zSer else if k = 14 then L.wfrom = 0 ∧ L.wto = 0 else if k = 15 then L.cells = [] else L.ref = List.replicate 32 0
theorem lowTo_skip (L : Lt) (k : Nat) (hk : k < 17) (h : FldZ L k) : lowTo L k = lowTo L (k + 1) :=
  all17 (p := fun k => FldZ L k → lowTo L k = lowTo L (k + 1)) (by refine ⟨?_, ?_, ?_, ?_, ?_, ?_, ?_, ?_, ?_, ?_, ?_, ?_, ?_, ?_, ?_, ?_, ?_⟩ <;> (intro h; simp [FldZ, numOff, numF] at h; simp [lowTo, h])) k hk h
theorem ser_zero {se : Ser} (h : noSer se.rule.length se.moves.length se = true) : se = zSer := by
  unfold noSer at h
  obtain ⟨h1, h2, h3, h4, h5⟩ := of_decide_eq_true h
  obtain ⟨r, mi, le, zo, ga, fo, mo⟩ := se
  simp only at h1 h2 h3 h4 h5
  have e1 : r = [] := List.eq_nil_of_length_eq_zero (by omega)
  have e2 : mo = [] := List.eq_nil_of_length_eq_zero (by omega)
  have e3 : zo = ByteArray.empty := by
    have : zo.size = 0 := by omega
    obtain ⟨d⟩ := zo
    have h : d.size = 0 := this
    rw [Array.size_eq_zero_iff] at h
    subst h; rfl
  subst e1 e2 e3 h2 h3 h4 h5
  rfl
theorem mv_zero {m : Mv} (h : mvZ m = true) : m = zMv := by
  unfold mvZ at h
  simp only [Bool.and_eq_true, decide_eq_true_eq, beq_iff_eq] at h
  obtain ⟨d, r, t, n, l⟩ := m
  simp only at h
  obtain ⟨⟨⟨⟨h1, h2⟩, h3⟩, h4⟩, h5⟩ := h
  subst h1 h2 h3 h4 h5
  rfl
/-- What a valid letter does not use is zero. -/
theorem body_unused {L : Lt} (hb : bodyOK L = true) (k : Nat) (hk : k < 17) (hu : usesB L.kind k = false) : FldZ L k := by
  unfold bodyOK at hb
  rw [Bool.and_eq_true] at hb
  obtain ⟨hn, ho⟩ := hb
  unfold vNums at hn
  rw [Bool.and_eq_true, List.all_eq_true] at hn
  unfold oth vOthers at ho
  simp only [Bool.and_eq_true] at ho
  have hz := ho.1.1.1.1
  unfold zerosOK at hz
  rw [List.all_eq_true] at hz
  unfold FldZ
  split
  · rename_i hs
    have h := hn.1 k (List.mem_range.2 hk)
    unfold numOK numLow numHigh at h
    obtain ⟨o, hof⟩ := Option.isSome_iff_exists.1 hs
    rw [hof, hu] at h
    simp only [Option.isNone_some, Bool.false_or, Bool.and_eq_true, decide_eq_true_eq, Bool.false_and] at h
    obtain ⟨h1, h2⟩ := h
    rw [if_neg (by decide)] at h1 h2
    omega
  · split
    · rename_i e; subst e
      have h := hz 0 (List.mem_range.2 (by omega))
      change (usesB L.kind ((9 : Nat) : Int) || mvZ L.move) = true at h
      rw [hu, Bool.false_or] at h
      exact mv_zero h
    · split
      · rename_i e; subst e
        have h := hz 1 (List.mem_range.2 (by omega))
        change (usesB L.kind ((10 : Nat) : Int) || nzOf L) = true at h
        rw [hu, Bool.false_or] at h
        exact ser_zero h
      · split
        · rename_i e; subst e
          have h := hz 2 (List.mem_range.2 (by omega))
          change (usesB L.kind ((14 : Nat) : Int) || (decide (L.wfrom = 0) && decide (L.wto = 0))) = true at h
          rw [hu, Bool.false_or, Bool.and_eq_true] at h
          exact ⟨of_decide_eq_true h.1, of_decide_eq_true h.2⟩
        · split
          · rename_i e; subst e
            have h := hz 3 (List.mem_range.2 (by omega))
            change (usesB L.kind ((15 : Nat) : Int) || ((L.cells.length : Int) == 0)) = true at h
            rw [hu, Bool.false_or, beq_iff_eq] at h
            exact List.eq_nil_of_length_eq_zero (by omega)
          · rename_i hs h9 h10 h14 h15
            have e : k = 16 := by
              exact all17 (p := fun k => ¬ (numOff k).isSome = true → ¬ k = 9 → ¬ k = 10 → ¬ k = 14 → ¬ k = 15 → k = 16) (by refine ⟨?_, ?_, ?_, ?_, ?_, ?_, ?_, ?_, ?_, ?_, ?_, ?_, ?_, ?_, ?_, ?_, ?_⟩ <;> (intro a b c d f; first | omega | exact absurd rfl a)) k hk hs h9 h10 h14 h15
            subst e
            have h := hz 4 (List.mem_range.2 (by omega))
            change (usesB L.kind ((16 : Nat) : Int) || (L.ref == zero32)) = true at h
            rw [hu, Bool.false_or, beq_iff_eq] at h
            rw [h]; rfl
theorem body_cells {L : Lt} (hb : bodyOK L = true) : ∀ z ∈ L.cells, 0 ≤ z ∧ z ≤ 255 := by
  unfold bodyOK at hb
  rw [Bool.and_eq_true] at hb
  have ho := hb.2
  unfold oth vOthers at ho
  simp only [Bool.and_eq_true] at ho
  have hc := ho.2
  unfold vCells at hc
  rw [Bool.and_eq_true, List.all_eq_true] at hc
  intro z hz
  obtain ⟨j, hj⟩ := List.mem_iff_getElem?.1 hz
  have hjl : j < L.cells.length := (List.getElem?_eq_some_iff.1 hj).1
  have h := hc.1 j (List.mem_range.2 hjl)
  have hg : L.cells[j]?.getD 0 = z := by rw [hj]; rfl
  cases hsr : srvB L.kind with
  | true => rw [hsr, cellOK_t hg rfl] at h; have := of_decide_eq_true h; omega
  | false => rw [hsr, cellOK_f hg] at h; have := of_decide_eq_true h; omega
/-- The bytes of the fields from k on. -/
def fldPart (L : Lt) (sb : List UInt8) (k : Nat) : List UInt8 := if usesB L.kind k then fldBytes L sb k else []
def fldsFrom (L : Lt) (sb : List UInt8) (k : Nat) : List UInt8 := ((List.range 17).drop k).flatMap (fldPart L sb)
theorem fldsFrom_step (L : Lt) (sb : List UInt8) (k : Nat) (hk : k < 17) : fldsFrom L sb k = fldPart L sb k ++ fldsFrom L sb (k + 1) := by
  unfold fldsFrom
  rw [List.drop_eq_getElem_cons (by simpa using hk), List.flatMap_cons, List.getElem_range]
theorem fldsFrom_end (L : Lt) (sb : List UInt8) : fldsFrom L sb 17 = [] := rfl
theorem fldsTo_from (L : Lt) (sb : List UInt8) (j : Nat) : ∀ k, k + j = 17 → fldsTo L sb k ++ fldsFrom L sb k = fldsTo L sb 17 := by
  induction j with
  | zero => intro k h; have e : k = 17 := h; subst e; rw [fldsFrom_end, List.append_nil]
  | succ j ih =>
    intro k h
    rw [fldsFrom_step L sb k (by omega), ← List.append_assoc]
    exact ih (k + 1) (by omega)
theorem ltBytes_read (L : Lt) (sb : List UInt8) : ltBytes L sb = le L.kind 1 ++ (le L.src 1 ++ (le L.dst 1 ++ fldsFrom L sb 0)) := by
  have h := fldsTo_from L sb 17 0 rfl
  rw [show fldsTo L sb 0 = [] from rfl, List.nil_append] at h
  unfold ltBytes hdBytes
  rw [← h]
  simp [cellBytes]
theorem fldsFrom_num (L : Lt) (sb : List UInt8) (k : Nat) (hk : k < 17) (hu : usesB L.kind k = true) (ho : (numOff k).isSome = true) : fldsFrom L sb k = le (numF L k) 8 ++ fldsFrom L sb (k + 1) := by
  rw [fldsFrom_step L sb k hk]
  unfold fldPart fldBytes
  rw [hu, if_pos rfl, if_pos ho]
theorem fldsFrom_skip (L : Lt) (sb : List UInt8) (k : Nat) (hk : k < 17) (hu : usesB L.kind k = false) : fldsFrom L sb k = fldsFrom L sb (k + 1) := by
  rw [fldsFrom_step L sb k hk]
  unfold fldPart
  rw [hu]
  rfl
theorem fldsFrom_9 (L : Lt) (sb : List UInt8) (hu : usesB L.kind (9 : Nat) = true) : fldsFrom L sb 9 = le L.move.day 8 ++ (le (if L.move.drop then 1 else 0) 1 ++ (le L.move.toDay 8 ++ (le L.move.minute 8 ++ (le L.move.length 8 ++ fldsFrom L sb 10)))) := by
  rw [fldsFrom_step L sb 9 (by omega)]
  unfold fldPart
  rw [hu, if_pos rfl]
  show mvBytes L.move ++ _ = _
  unfold mvBytes
  simp only [List.append_assoc]
theorem fldsFrom_10 (L : Lt) (sb : List UInt8) (hu : usesB L.kind (10 : Nat) = true) : fldsFrom L sb 10 = sb ++ fldsFrom L sb 11 := by
  rw [fldsFrom_step L sb 10 (by omega)]
  unfold fldPart
  rw [hu, if_pos rfl]
  rfl
theorem fldsFrom_14 (L : Lt) (sb : List UInt8) (hu : usesB L.kind (14 : Nat) = true) : fldsFrom L sb 14 = le L.wfrom 8 ++ (le L.wto 8 ++ fldsFrom L sb 15) := by
  rw [fldsFrom_step L sb 14 (by omega)]
  unfold fldPart
  rw [hu, if_pos rfl]
  show (le L.wfrom 8 ++ le L.wto 8) ++ _ = _
  rw [List.append_assoc]
theorem fldsFrom_15 (L : Lt) (sb : List UInt8) (hu : usesB L.kind (15 : Nat) = true) : fldsFrom L sb 15 = le L.cells.length 4 ++ (cellBytes L.cells ++ fldsFrom L sb 16) := by
  rw [fldsFrom_step L sb 15 (by omega)]
  unfold fldPart
  rw [hu, if_pos rfl]
  show (le L.cells.length 4 ++ cellBytes L.cells) ++ _ = _
  rw [List.append_assoc]
theorem fldsFrom_16 (L : Lt) (sb : List UInt8) (hu : usesB L.kind (16 : Nat) = true) : fldsFrom L sb 16 = L.ref ++ fldsFrom L sb 17 := by
  rw [fldsFrom_step L sb 16 (by omega)]
  unfold fldPart
  rw [hu, if_pos rfl]
  rfl
end Go.Proofs.YtenbgpcdoljkgaaGreatDoor
