/- The texts RbF, RbR, RbV, RbP, RbI, in this order. -/
import Derived.Test.YthhbbebabmemfaaGreatG11
import Derived.Test.YthhbbebabmemfaaGreatG08
import Derived.BigQuiet
import Derived.Deep.AppendLies
import Derived.Deep.CutBlock
import Derived.Deep.DeepCutAuto
import Derived.Deep.DrawnRows
import Derived.Deep.MidRow
import Derived.Deep.QuietTactic
import Derived.Deep.RegionHeld3
import Derived.Deep.RegionLaw
import Derived.Deep.WholeRow
import Derived.Defers
import Derived.Great.BuildSlice
import Derived.Laws.BitsAllLaws
import Derived.Laws.BytesArg
import Derived.Laws.BytesString
import Derived.Laws.CopyOwn
import Derived.Laws.Cover3
import Derived.Laws.EntriesVeiled
import Derived.Laws.MakeOwn
import Derived.Laws.ResultCell
import Derived.Laws.Rows
import Derived.Laws.Tables
import Derived.Lib.AppendStr
import Derived.Lib.ByteType
import Derived.Lib.Hide
import Derived.LoopIn
import Derived.LoopNIn
import Derived.MapKept
import Derived.Maps.AppendAt
import Derived.Outline
import Derived.OwnWalkIn
import Derived.RangeFuncBound
import Derived.RangeFuncBox
import Derived.RangeFuncCalls
import Derived.RangeFuncLeaves
import Derived.RangeFuncNested
import Derived.Recover
import Derived.Shelf.Abstract
import Derived.Shelf.Bytes.SlSmallAll
import Derived.Shelf.RegionOpen
import Derived.StillTailTactics
import Derived.Stop.BytesEq
import Derived.TacticsInMore
import Derived.WalkKit
import Derived.WalkLawsBesides
import Derived.WalkSpells
import Derived.Test.YthhbbebabmemfaaGreatG07
import Derived.Test.YthhbbebabmemfaaGreatG09
import Derived.Laws.AppendOwnNone
/- series.Read where the reader panics: the way out by the deferred closure, also from within a drawn region. -/
namespace Go.Proofs.YthhbbebabmemfaaGreat
open Go Go.RowKit


/-- In a drawn region: a panic is told without the frame. -/
def ShortW (D : List Deferred) (R : World → Prop) (Q : Exit → Act → World → Prop) : Exit → Act → World → Prop
  | .panic c, a, w => c = shortP ∧ a.defers = D ∧ R w
  | .normal, a, w => Q .normal a w
  | _, _, _ => False
def TmpsAt (p q : Value) (a : Act) : Prop := a.tmps.getD 2 undef = p ∧ a.tmps.getD 3 undef = q
theorem TmpsAt.put {p q : Value} {a : Act} {d : Option Tmp} (h : TmpsAt p q a) (h2 : d ≠ some 2) (h3 : d ≠ some 3) (v : Value) : TmpsAt p q (a.put d v) := by
  cases d with
  | none => exact h
  | some d =>
    have e2 : d ≠ 2 := fun e => h2 (by rw [e])
    have e3 : d ≠ 3 := fun e => h3 (by rw [e])
    unfold TmpsAt Act.put at *
    simp only [Array.getD_eq_getD_getElem?, Array.getElem?_setIfInBounds_ne e2, Array.getElem?_setIfInBounds_ne e3] at *
    exact h
theorem wpOp_short {P : Program} {ops : Array Oper} {D : List Deferred} {R : World → Prop} {Q : Exit → Act → World → Prop} {p q : Value} {i : Nat} {K K' : Act → World → Prop} {a : Act} {w : World}
    (hd : ∀ o, ops[i]? = some o → o.dst ≠ some 2 ∧ o.dst ≠ some 3) (hQ : ∀ a w, a.defers = D → TmpsAt p q a → R w → Q (.panic shortP) a w) (hK : ∀ a w, TmpsAt p q a → K a w → K' a w) (hT : TmpsAt p q a)
    (h : wpOp P ops (ShortW D R Q) i K a w) : wpOp P ops Q i K' a w := by
  unfold wpOp at *
  cases ho : ops[i]? with
  | none => rw [ho] at h; exact hK _ _ hT h
  | some o =>
    obtain ⟨d2, d3⟩ := hd o ho
    rw [ho] at h
    simp only at h ⊢
    split
    · rename_i hw
      rw [if_pos hw] at h
      rcases h with h | ⟨_, _, _, h⟩
      · refine .inl ?_
        unfold Oper.wp at *
        generalize (execOp a.eval o).run P w = r at *
        cases r with
        | ok n w' =>
          cases n <;> simp only [Oper.upon] at h ⊢
          case value u => exact hK _ _ (hT.put d2 d3 u) h
          case skip => exact hK _ _ (hT.put d2 d3 undef) h
          case defer d => exact hK _ _ (TmpsAt.put (a := { a with defers := d :: a.defers }) hT d2 d3 undef) h
          case enter f args =>
            refine Calls.mono h fun e w'' he => ?_
            cases e with
            | returned u => exact hK _ _ (hT.put d2 d3 u) he
            | panicked c => obtain ⟨rfl, h1, h2⟩ := he; exact hQ _ _ h1 hT h2
            | outgrown => obtain ⟨_, _, he⟩ := he; exact he.elim
          case row row args => exact Rows.mono h fun u w'' he => hK _ _ (hT.put d2 d3 u) he
        | halt x w' =>
          cases x <;> simp only [Oper.upon] at h ⊢
          case panic u => obtain ⟨h0, h1, h2⟩ := h; rw [h0]; exact hQ _ _ h1 hT h2
      · exact h.elim
    · rename_i hw
      rw [if_neg hw] at h
      exact hK _ _ (hT.put d2 d3 undef) h
theorem wpAny_short {P : Program} {md : Region.Mode} {ops : Array Oper} {D : List Deferred} {R : World → Prop} {Q : Exit → Act → World → Prop} {p q : Value}
    (hd : ∀ (i : Nat) (o : Oper), ops[i]? = some o → o.dst ≠ some 2 ∧ o.dst ≠ some 3) (hQ : ∀ a w, a.defers = D → TmpsAt p q a → R w → Q (.panic shortP) a w) :
    ∀ (fuel : Nat) (listed : Array Bool) (a : Act) (w : World), TmpsAt p q a → wpAny P md ops (ShortW D R Q) fuel listed a w → wpAny P md ops Q fuel listed a w
  | 0, _, _, _, _, h => ⟨h.1, h.2⟩
  | fuel + 1, _, _, _, hT, h => ⟨h.1, fun i hi => wpOp_short (hd i) hQ (fun a w hT h => wpAny_short hd hQ fuel _ a w hT h) hT (h.2 i hi)⟩
theorem dst_ok {ops : Array Oper} (h : ops.all (fun o : Oper => o.dst != some 2 && o.dst != some 3) = true) : ∀ (i : Nat) (o : Oper), ops[i]? = some o → o.dst ≠ some 2 ∧ o.dst ≠ some 3 := by
  intro i o ho
  obtain ⟨hi, rfl⟩ := Array.getElem?_eq_some_iff.1 ho
  have := Array.all_eq_true.1 h i hi
  simpa using this
/-- A drawn region of series.Read in which the reader may panic. -/
theorem wp_region_short {P : Program} {id : Nat} {ops : Array Oper} {D : List Deferred} {R : World → Prop} {Q : Exit → Act → World → Prop} {p q : Value} {a : Act} {w : World} (hm : P.follows .mixedOrders = true)
    (hd : ops.all (fun o : Oper => o.dst != some 2 && o.dst != some 3) = true) (_hD : a.defers = D) (hT : TmpsAt p q a) (hQ : ∀ a w, a.defers = D → TmpsAt p q a → R w → Q (.panic shortP) a w)
    (h : wpAny P .any ops (ShortW D R Q) ops.size (Array.replicate ops.size false) a w.drew) : (Code.region id ops true).wp P Q a w :=
  wp_region_any hm (wpAny_short (dst_ok hd) hQ _ _ _ _ hT h)
/-- What the reader's panic leaves. -/
structure SrDead (w W : World) : Prop where
  low : Below w.heap.size w W
  var : ∃ cs : Array Value, cs.size = 7 ∧ W.heap[w.heap.size]? = some (.cells cs 31 (0, 0))
  code : W.heap[w.heap.size + 1]? = some (.cells #[I 0] 38 (0, 0))
theorem SdS.dead {w W W' : World} {rb : Nat} {R : List UInt8} {cs : Array Value} (h : SdS w rb R cs W) (hk : MKeep rb W W') (hs : cs.size = 7) : SrDead w W' := by
  have h1 := h.hi
  have h2 := h.lt
  have h3 := hk.size
  refine ⟨⟨hk.os.trans h.keep.os, hk.tape.trans h.keep.tape, hk.output.trans h.keep.output, Nat.le_trans h.keep.size h3, fun k hk' => (hk.block k (by omega) (by omega)).trans (h.keep.block k hk')⟩, ⟨cs, hs, (hk.block _ (by omega) (by omega)).trans h.var⟩, (hk.block _ (by omega) (by omega)).trans h.code⟩
theorem zSerC_info : (Tryz.prog.info? 31).map (·.size) = some zSerC.size := by kernel_rfl
theorem load_errno3 (W : World) (b : Nat) (h : W.cell? ⟨b, 0, none⟩ = some (I 3)) : (loadVar 38 ⟨b, 0, none⟩).run Tryz.prog W = .ok (I 3) W := by
  simp [go_sem, h]
/-- The result of series.Read on bytes that it does not take. -/
def SrNo (w : World) (e : Ending) (w' : World) : Prop := e = .returned (.tuple #[.agg zSerC, I 3]) ∧ Below w.heap.size w w'
theorem short_leaves {w W : World} {a : Act} {R : Ending → World → Prop} {fv : Fn} {cap dargs : Array Value} (hd : a.defers = [{ target := .fn fv cap, args := dargs }]) (hi : (invoke (.fn fv cap) dargs).run Tryz.prog W = .ok (.enter 63 #[pt w.heap.size, pt (w.heap.size + 1)]) W) (ht : TmpsAt (pt w.heap.size) (pt (w.heap.size + 1)) a) (h : SrDead w W) (hR : ∀ e w', SrNo w e w' → R e w') :
    bodyPostD Tryz.prog Tryz.f47 R (.panic shortP) a W := by
  obtain ⟨tmps, defers⟩ := a
  obtain ⟨ht2, ht3⟩ := ht
  dsimp only at hd ht2 ht3
  subst hd
  obtain ⟨cs, hs, hv⟩ := h.var
  refine leaves_cons (f := 63) (args := #[pt w.heap.size, pt (w.heap.size + 1)]) (by simp) hi ?_
  refine (catch_short w.heap.size W cs (I 0) hv hs h.code).mono ?_
  rintro e u' w2 ⟨rfl, rfl, hz⟩
  have hc := cell_of_row w2 (w.heap.size + 1) 0 _ _ _ hz.code
  refine ⟨_, results_row_cell rfl _ _ w.heap.size (w.heap.size + 1) _ zSerC (0, 0) _ (I 3) ht2 hz.var Tryz.underlying31 rfl zSerC_info ht3 (load_errno3 _ _ hc), hR _ _ ⟨rfl, ?_⟩⟩
  have h1 := h.low
  exact ⟨hz.os.trans h1.os, hz.tape.trans h1.tape, hz.output.trans h1.output, Nat.le_trans h1.size hz.size, fun k hk => (hz.block k (Nat.lt_of_lt_of_le hk h1.size) (by omega) (by omega)).trans (h1.block k hk)⟩
theorem ShortW.dies {D : List Deferred} {R : World → Prop} {Q : Exit → Act → World → Prop} {a : Act} {w : World} (hd : a.defers = D) (h : R w) : ShortW D R Q (.panic shortP) a w := ⟨rfl, hd, h⟩
theorem ShortW.normal {D : List Deferred} {R : World → Prop} {Q : Exit → Act → World → Prop} {a : Act} {w : World} (h : Q .normal a w) : ShortW D R Q .normal a w := h
theorem SdS.deadF {w W W' : World} {rb : Nat} {R : List UInt8} {cs : Array Value} {l : List ((Nat × Nat) × Int)} {o : Obj} (h : SdS w rb R cs W) (hp : FPut (W.alloc o) rb l W') (hl : ∀ p ∈ l, p.1.1 = w.heap.size) (hs : cs.size = 7) (hnb : NB cs) : SrDead w W' := by
  have h1 := h.hi
  have h2 := h.lt
  have h3 := hp.size
  rw [World.size_alloc] at h3
  have ho : ∀ k, k < rb → k ≠ w.heap.size → W'.heap[k]? = W.heap[k]? := fun k hk hn => hp.others hl k (by omega) (by omega) hn
  obtain ⟨cs', e1, e2, _⟩ := putsB_cells w.heap.size l cs 31 hnb
  refine ⟨⟨hp.os.trans h.keep.os, hp.tape.trans h.keep.tape, hp.output.trans h.keep.output, Nat.le_trans h.keep.size (by omega), fun k hk => (ho k (by omega) (by omega)).trans (h.keep.block k hk)⟩, ⟨cs', by omega, ?_⟩, (ho _ (by omega) (by omega)).trans h.code⟩
  rw [hp.block _ (by simp; omega) (by omega), (h.more o).var, e1]
end Go.Proofs.YthhbbebabmemfaaGreat

/- series.Read on any bytes: a good series whose bytes they are, or code 3. -/
namespace Go.Proofs.YthhbbebabmemfaaGreat
open Go Go.RowKit

attribute [local go_sem] ndCells mvCells
/-- series.Read took the bytes: the series is good and they are its bytes. -/
def SrYes (w : World) (bs : List UInt8) (e : Ending) (w' : World) : Prop :=
  ∃ se : Ser, SerGood se ∧ (∀ ns : List NdV, ns.map (·.d) = se.rule → RuleOK ns) ∧ seBytes se = bs ∧ SrPost w se e w'
def SrAny (w : World) (bs : List UInt8) (e : Ending) (w' : World) : Prop := SrYes w bs e w' ∨ SrNo w e w'
theorem RuleOK.of_map {ns ns' : List NdV} (h : RuleOK ns) (he : ns'.map (·.d) = ns.map (·.d)) : RuleOK ns' := by
  have hl : ns'.length = ns.length := by simpa using congrArg List.length he
  refine ⟨by rw [hl]; exact h.n1, by rw [hl]; exact h.n64, fun i x hx => ?_, fun j hj => ?_⟩
  · have h1 : (ns'.map (·.d))[i]? = some x.d := by rw [List.getElem?_map, hx]; rfl
    rw [he, List.getElem?_map] at h1
    obtain ⟨y, hy, hd⟩ := Option.map_eq_some_iff.1 h1
    have := h.nodes i y hy
    rw [hd] at this
    exact this
  · rw [he, hl]
    exact h.uses j (by omega)
def NdsOK (N : Nat) (ns : List NdV) : Prop := ∀ x ∈ ns, Nd6 x.d ∧ x.d.list.length ≤ N
theorem NdsOK.snoc {N : Nat} {ns : List NdV} (h : NdsOK N ns) {d : Nd} {A : Option Addr} {c : Nat} (h1 : Nd6 d) (h2 : d.list.length ≤ N) : NdsOK N (ns ++ [⟨d, A, c⟩]) := by
  intro x hx
  rcases List.mem_append.1 hx with hx | hx
  · exact h x hx
  · rw [List.mem_singleton.1 hx]; exact ⟨h1, h2⟩
def SrRelA (w : World) (rb N n : Nat) (i : Value) (wr : World) : Prop :=
  ∃ (k : Nat) (A : Option Addr) (c : Nat) (ns : List NdV) (R : List UInt8), k ≤ n ∧ i = I k ∧ ns.length = k ∧ NdsOK N ns ∧ R.length ≤ N ∧ SdS w rb R (serP (.slice A k c) 0 0 ⟨#[]⟩ 0 0 (.slice none 0 0)) wr ∧ RdL rb wr (.slice A k c) ns
def SrRelB (w w2 : World) (rb N : Nat) (v : Value) (mi le : Int) (zo : ByteArray) (ga fo : Int) (m : Nat) (i : Value) (wr : World) : Prop :=
  ∃ (k : Nat) (B : Option Addr) (ec : Nat) (ms : List Mv) (R : List UInt8), k ≤ m ∧ i = I k ∧ ms.length = k ∧ R.length ≤ N ∧ SdS w rb R (serP v mi le zo ga fo (.slice B k ec)) wr ∧ wr.ownsRow w2.heap.size 26 5 (.slice B k ec) k (mvsCells ms) ∧ w2.heap.size ≤ wr.heap.size ∧ ∀ j, rb + 1 ≤ j → j < w2.heap.size → wr.heap[j]? = w2.heap[j]?
theorem seBytes_pos (s : Ser) : 0 < (seBytes s).length := by
  unfold seBytes seHead
  rw [List.length_append, List.length_append, leAll_length]
  show 0 < 8 * 1 + _ + _
  omega
theorem inv_catch (W : World) (b : Nat) : (invoke (.fn (.func 63) #[pt b, pt (b + 1)]) #[]).run Tryz.prog W = .ok (.enter 63 #[pt b, pt (b + 1)]) W := by simp [go_sem]
set_option maxRecDepth 10000 in
set_option maxHeartbeats 4000000 in
theorem seriesRead_any (w : World) (bs : List UInt8) (b off c N : Nat) (hN : bs.length = N) (hN0 : 0 < N) (hN6 : N ≤ 1000000) (hbl : b < w.heap.size)
    (hA : ∀ j, j < N → w.cell? ⟨b, off + j, none⟩ = some (Extern.Stop.cell (bs[j]?.getD 0))) :
    Calls Tryz.prog 47 #[.slice (some ⟨b, off, none⟩) N c] w (SrAny w bs) := by
  have hmf : ∀ (fn : Fn) (first cap : Array Value) (w : World), (Instr.makeFunc fn first cap).run Tryz.prog w = .ok (.func fn first cap) w := fun _ _ _ _ => rfl
  have HN := Lib.hid hN
  have HA := Lib.hid hA
  clear hN hA
  have HB0 : Hid (Below w.heap.size w ((w.alloc (.cells zSerC 31)).alloc (.cells #[I 0] 38))) := Lib.hid (below_trans (below_var w _) (below_var _ _))
  have HC0 : Hid (∀ j, j < N → ((w.alloc (.cells zSerC 31)).alloc (.cells #[I 0] 38)).cell? ⟨b, off + j, none⟩ = some (Extern.Stop.cell (bs[j]?.getD 0))) := Lib.hid fun j hj => (HB0.out.cell (p := ⟨b, off + j, none⟩) hbl).trans (HA.out j hj)
  go_enter_defers Tryz.func47, Tryz.ntmps47
  go_wp2_with fail
  refine (cloneB_some b off c bs N _ HC0.out (by simp; omega) HN.out hN0 (by omega)).mono ?_
  rintro e w1 ⟨g, cc, rfl, hown, hb1⟩
  rw [HN.out] at hown ⊢
  have hs1 := hb1.size
  simp only [World.size_alloc] at hs1
  obtain ⟨rb, hrb⟩ : ∃ rb, w1.heap.size = rb := ⟨_, rfl⟩
  have HS1 : Hid (SdS w rb bs zSerC (w1.alloc (.cells #[.slice (some ⟨g, 0, none⟩) N cc] 119))) := Lib.hid (by
    have hr := srd_new hown HN.out hN0
    rw [hrb] at hr
    have hb := below_trans hb1 (below_var w1 (.cells #[.slice (some ⟨g, 0, none⟩) N cc] 119))
    refine ⟨hr, below_trans HB0.out hb, by omega, ?_, ?_⟩
    · exact (hb.block w.heap.size (by simp; omega)).trans (heap_alloc2_old w _ _)
    · exact (hb.block (w.heap.size + 1) (by simp)).trans (heap_alloc2_new w _ _))
  clear hown hb1 HC0 HB0
  go_wp2_with fail
  refine (count_any _ rb bs HS1.out.rd).mono ?_
  rintro e w2 (⟨v2, R2, rfl, ⟨n, rfl, hn⟩, hr2, hl2, hk2⟩ | ⟨rfl, hk2⟩)
  rotate_left
  · exact short_leaves rfl (inv_catch _ _) ⟨rfl, rfl⟩ (HS1.out.dead hk2 rfl) (fun _ _ h => .inr h)
  have HS2 := Lib.hid (HS1.out.step hr2 hk2)
  have hnN : n ≤ N := by have := HN.out; omega
  have HR2 : Hid (R2.length ≤ N) := Lib.hid (by have := HN.out; omega)
  clear hr2 hk2 HS1 hn hl2
  go_wp2_with fail
  go_loopw [14] (fun i wr => SrRelA w rb N n i wr) (fun i _ => n - (intOf i).toNat)
  case atStart => exact ⟨0, none, 0, [], R2, Nat.zero_le _, rfl, rfl, (fun _ h => nomatch h), HR2.out, HS2.out, RdL.nil _ _⟩
  case round =>
    obtain ⟨k, A, ca, ns, R, hk, rfl, hnl, hns, hRN, hs, hrl⟩ := hrel
    have HS := Lib.hid hs
    have HL := Lib.hid hrl
    have HNL := Lib.hid hnl
    have HNS := Lib.hid hns
    have HRN := Lib.hid hRN
    clear hs hrl hnl hns hRN HS2
    by_cases hlt : (k : Int) < (n : Int)
    · have HSD := Lib.hid HS.out.drew
      have HLD : Hid (RdL rb wr.drew (.slice A k ca) ns) := Lib.hid (HL.out.of_blocks (Nat.le_refl _) fun _ _ _ => rfl)
      have hc0 : wr.cell? ⟨w.heap.size, 0, none⟩ = some (.slice A k ca) := HS.out.cell 0
      have hlt1 := HS.out.lt
      obtain ⟨i0, hi, hz0, hz1, hz2⟩ := info_parts info_node
      clear HS HL
      go_wp2_with fail
      refine wp_region_short (R := SrDead w) (p := pt w.heap.size) (q := pt (w.heap.size + 1)) (by kernel_rfl) (by kernel_rfl) rfl ⟨rfl, rfl⟩ (fun a2 w2 hd ht hdead => short_leaves hd (inv_catch _ _) ht hdead (fun _ _ h => .inr h)) ?_
      refine wpAny_take (i := 0) (v := ?v1) rfl (by kernel_rfl) (by kernel_rfl) (by kernel_rfl) (fun _ _ _ h => h) (Or.inl ⟨by rfl, ?y1⟩) ?_
      case y1 => intro w0; first | (go_simp; done) | (go_simp; with_reducible rfl)
      try simp only [Act.put, List.setIfInBounds_toArray]
      refine wpAny_take (i := 2) (v := ?v2) rfl (by kernel_rfl) (by kernel_rfl) (by kernel_rfl) (fun _ _ _ h => h) (Or.inl ⟨by rfl, ?y2⟩) ?_
      case y2 => intro w0; first | (go_simp; done) | (go_simp; with_reducible rfl)
      try simp only [Act.put]
      refine wpAny_ready (rs := [1, 3]) (by kernel_rfl) (by simp) ?_
      refine (AllReady.cons rfl (fun K hK => ?_) (AllReady.cons rfl (fun K hK => ?_) AllReady.nil))
      · go_simp
        refine hK _ _ ?_
        clear hK K
        try simp only [Act.put, List.setIfInBounds_toArray, List.set_cons_zero, List.set_cons_succ]
        refine wpAny_ready (rs := [3]) (by kernel_rfl) (by simp) ?_
        refine (AllReady.cons rfl (fun K hK => ?_) AllReady.nil)
        go_simp
        go_at_call 66
        refine (node_any _ rb N R HSD.out.rd HRN.out hN6).mono ?_
        rintro e w5 (⟨v5, R5, rfl, ⟨d, B5, c5, rfl, hd6, hdl, -, -, hli5⟩, hr5, hl5n, hk5⟩ | ⟨rfl, hk5⟩)
        rotate_left
        · exact ShortW.dies rfl (HSD.out.dead hk5 rfl)
        have HS5 := Lib.hid (HSD.out.step hr5 hk5)
        have hc5 : w5.cell? ⟨w.heap.size, 0, none⟩ = some (.slice A k ca) := HS5.out.cell 0
        have hl5 := HS5.out.lt
        have hl5' : w.heap.size < w5.heap.size := Nat.lt_trans (Nat.lt_trans (Nat.lt_succ_self _) HS5.out.hi) hl5
        have HO5 : Hid (w5.ownsRow (rb + 1) 75 8 (.slice A k ca) k (rcells ns)) := Lib.hid (by have h := (HLD.out.mkeep hk5).row; rw [HNL.out] at h; exact h)
        have HK5 := Lib.hid hk5
        have HLI5 := Lib.hid hli5
        have HD5 := Lib.hid (And.intro hd6 hdl)
        have HN5 := Lib.hid hl5n
        clear hr5 hk5 hli5 hd6 hdl hl5n
        try go_simp
        refine hK _ _ ?_
        clear hK K
        try simp only [Act.put, List.setIfInBounds_toArray, List.set_cons_zero, List.set_cons_succ]
        refine wpAny_ready (rs := [4]) (by kernel_rfl) (by simp) ?_
        refine (AllReady.cons rfl (fun K hK => ?_) AllReady.nil)
        go_simp
        refine hK _ _ ?_
        clear hK K
        try simp only [Act.put, List.setIfInBounds_toArray, List.set_cons_zero, List.set_cons_succ]
        refine wpAny_ready (rs := [5]) (by kernel_rfl) (by simp) ?_
        refine (AllReady.cons rfl (fun K hK => ?_) AllReady.nil)
        refine step_append_lies _ (by rfl) _ _ _ (by rfl) (rb + 1) 75 i0 (.agg zNode) 8 88 Tryz.underlying28 hi hz0 hz1 hz2 rfl (by omega) (.slice A k ca) k (rcells ns) (by rfl) (HO5.out.alloc _) ⟨w5.heap.size, 0, none⟩ 1 1 (NdV.cells ⟨d, B5, c5⟩) (by rfl) rfl (cells_newN _ _ _) (rone_ok _) (by omega) (by unfold maxLen; omega) (by omega) (by first | (simp; done) | (simp; omega)) _ rfl ?_
        intro gg cap w6 hown6 hgrow6 hat6 hlt6'
        have HG6 := Lib.hid (HS5.out.grown HO5.out (Nat.lt_succ_self _) hgrow6)
        have HL6 := Lib.hid (HLD.out.snoc (v' := .slice (some ⟨gg, 0, none⟩) (k + 1) cap) HK5.out HSD.out.lt ⟨d, B5, c5⟩ HLI5.out (by rw [HNL.out]; exact hown6) hgrow6 (hat6.elim (fun e => .inl e.symm) (fun e => .inr ⟨gg, rfl, by rw [e]; simp⟩)))
        have hc66 : w6.cell? ⟨w.heap.size, 0, none⟩ = some (.slice A k ca) := HG6.out.cell 0
        have hf66 := HG6.out.froz 0
        clear hown6 hgrow6 hat6
        try go_simp
        refine hK _ _ ?_
        clear hK K
        try simp only [Act.put, List.setIfInBounds_toArray, List.set_cons_zero, List.set_cons_succ]
        refine wpAny_ready (rs := [6]) (by kernel_rfl) (by simp) ?_
        refine (AllReady.cons rfl (fun K hK => ?_) AllReady.nil)
        go_simp
        refine hK _ _ ?_
        clear hK K
        try simp only [Act.put, List.setIfInBounds_toArray, List.set_cons_zero, List.set_cons_succ]
        refine wpAny_ready (rs := [7]) (by kernel_rfl) (by simp) ?_
        refine (AllReady.cons rfl (fun K hK => ?_) AllReady.nil)
        go_simp
        refine hK _ _ ?_
        clear hK K
        try simp only [Act.put, List.setIfInBounds_toArray, List.set_cons_zero, List.set_cons_succ]
        refine wpAny_done (by kernel_rfl) ?_ _
        refine ShortW.normal ?_
        go_wp2_with fail
        go_roundw
        case rel =>
          have hn1 : (ns ++ [(⟨d, B5, c5⟩ : NdV)]).length = k + 1 := by rw [List.length_append, HNL.out]; rfl
          refine ⟨k + 1, some ⟨gg, 0, none⟩, cap, ns ++ [⟨d, B5, c5⟩], R5, by omega, by go_num, hn1, HNS.out.snoc HD5.out.1 HD5.out.2, HN5.out, HG6.out.store (nb_ser _ _ _ _ _ _ _ _ _ _ _) 0 (.slice (some ⟨gg, 0, none⟩) (k + 1) cap), HL6.out.of_blocks (by simp [World.setCell]) fun j h1 _ => heap_setCell_other _ _ j _ (by have := HG6.out.hi; show j ≠ w.heap.size; omega)⟩
        case measure => simp [intOf]; omega
      · go_simp
        go_at_call 66
        refine (node_any _ rb N R HSD.out.rd HRN.out hN6).mono ?_
        rintro e w5 (⟨v5, R5, rfl, ⟨d, B5, c5, rfl, hd6, hdl, -, -, hli5⟩, hr5, hl5n, hk5⟩ | ⟨rfl, hk5⟩)
        rotate_left
        · exact ShortW.dies rfl (HSD.out.dead hk5 rfl)
        have HS5 := Lib.hid (HSD.out.step hr5 hk5)
        have hc5 : w5.cell? ⟨w.heap.size, 0, none⟩ = some (.slice A k ca) := HS5.out.cell 0
        have hl5 := HS5.out.lt
        have hl5' : w.heap.size < w5.heap.size := Nat.lt_trans (Nat.lt_trans (Nat.lt_succ_self _) HS5.out.hi) hl5
        have HO5 : Hid (w5.ownsRow (rb + 1) 75 8 (.slice A k ca) k (rcells ns)) := Lib.hid (by have h := (HLD.out.mkeep hk5).row; rw [HNL.out] at h; exact h)
        have HK5 := Lib.hid hk5
        have HLI5 := Lib.hid hli5
        have HD5 := Lib.hid (And.intro hd6 hdl)
        have HN5 := Lib.hid hl5n
        clear hr5 hk5 hli5 hd6 hdl hl5n
        try go_simp
        refine hK _ _ ?_
        clear hK K
        try simp only [Act.put, List.setIfInBounds_toArray, List.set_cons_zero, List.set_cons_succ]
        refine wpAny_ready (rs := [1, 4]) (by kernel_rfl) (by simp) ?_
        refine (AllReady.cons rfl (fun K hK => ?_) (AllReady.cons rfl (fun K hK => ?_) AllReady.nil))
        · go_simp
          refine hK _ _ ?_
          clear hK K
          try simp only [Act.put, List.setIfInBounds_toArray, List.set_cons_zero, List.set_cons_succ]
          refine wpAny_ready (rs := [4]) (by kernel_rfl) (by simp) ?_
          refine (AllReady.cons rfl (fun K hK => ?_) AllReady.nil)
          go_simp
          refine hK _ _ ?_
          clear hK K
          try simp only [Act.put, List.setIfInBounds_toArray, List.set_cons_zero, List.set_cons_succ]
          refine wpAny_ready (rs := [5]) (by kernel_rfl) (by simp) ?_
          refine (AllReady.cons rfl (fun K hK => ?_) AllReady.nil)
          refine step_append_lies _ (by rfl) _ _ _ (by rfl) (rb + 1) 75 i0 (.agg zNode) 8 88 Tryz.underlying28 hi hz0 hz1 hz2 rfl (by omega) (.slice A k ca) k (rcells ns) (by rfl) (HO5.out.alloc _) ⟨w5.heap.size, 0, none⟩ 1 1 (NdV.cells ⟨d, B5, c5⟩) (by rfl) rfl (cells_newN _ _ _) (rone_ok _) (by omega) (by unfold maxLen; omega) (by omega) (by first | (simp; done) | (simp; omega)) _ rfl ?_
          intro gg cap w6 hown6 hgrow6 hat6 hlt6'
          have HG6 := Lib.hid (HS5.out.grown HO5.out (Nat.lt_succ_self _) hgrow6)
          have HL6 := Lib.hid (HLD.out.snoc (v' := .slice (some ⟨gg, 0, none⟩) (k + 1) cap) HK5.out HSD.out.lt ⟨d, B5, c5⟩ HLI5.out (by rw [HNL.out]; exact hown6) hgrow6 (hat6.elim (fun e => .inl e.symm) (fun e => .inr ⟨gg, rfl, by rw [e]; simp⟩)))
          have hc66 : w6.cell? ⟨w.heap.size, 0, none⟩ = some (.slice A k ca) := HG6.out.cell 0
          have hf66 := HG6.out.froz 0
          clear hown6 hgrow6 hat6
          try go_simp
          refine hK _ _ ?_
          clear hK K
          try simp only [Act.put, List.setIfInBounds_toArray, List.set_cons_zero, List.set_cons_succ]
          refine wpAny_ready (rs := [6]) (by kernel_rfl) (by simp) ?_
          refine (AllReady.cons rfl (fun K hK => ?_) AllReady.nil)
          go_simp
          refine hK _ _ ?_
          clear hK K
          try simp only [Act.put, List.setIfInBounds_toArray, List.set_cons_zero, List.set_cons_succ]
          refine wpAny_ready (rs := [7]) (by kernel_rfl) (by simp) ?_
          refine (AllReady.cons rfl (fun K hK => ?_) AllReady.nil)
          go_simp
          refine hK _ _ ?_
          clear hK K
          try simp only [Act.put, List.setIfInBounds_toArray, List.set_cons_zero, List.set_cons_succ]
          refine wpAny_done (by kernel_rfl) ?_ _
          refine ShortW.normal ?_
          go_wp2_with fail
          go_roundw
          case rel =>
            have hn1 : (ns ++ [(⟨d, B5, c5⟩ : NdV)]).length = k + 1 := by rw [List.length_append, HNL.out]; rfl
            refine ⟨k + 1, some ⟨gg, 0, none⟩, cap, ns ++ [⟨d, B5, c5⟩], R5, by omega, by go_num, hn1, HNS.out.snoc HD5.out.1 HD5.out.2, HN5.out, HG6.out.store (nb_ser _ _ _ _ _ _ _ _ _ _ _) 0 (.slice (some ⟨gg, 0, none⟩) (k + 1) cap), HL6.out.of_blocks (by simp [World.setCell]) fun j h1 _ => heap_setCell_other _ _ j _ (by have := HG6.out.hi; show j ≠ w.heap.size; omega)⟩
          case measure => simp [intOf]; omega
        · go_simp
          refine hK _ _ ?_
          clear hK K
          try simp only [Act.put, List.setIfInBounds_toArray, List.set_cons_zero, List.set_cons_succ]
          refine wpAny_ready (rs := [1]) (by kernel_rfl) (by simp) ?_
          refine (AllReady.cons rfl (fun K hK => ?_) AllReady.nil)
          go_simp
          refine hK _ _ ?_
          clear hK K
          try simp only [Act.put, List.setIfInBounds_toArray, List.set_cons_zero, List.set_cons_succ]
          refine wpAny_ready (rs := [5]) (by kernel_rfl) (by simp) ?_
          refine (AllReady.cons rfl (fun K hK => ?_) AllReady.nil)
          refine step_append_lies _ (by rfl) _ _ _ (by rfl) (rb + 1) 75 i0 (.agg zNode) 8 88 Tryz.underlying28 hi hz0 hz1 hz2 rfl (by omega) (.slice A k ca) k (rcells ns) (by rfl) (HO5.out.alloc _) ⟨w5.heap.size, 0, none⟩ 1 1 (NdV.cells ⟨d, B5, c5⟩) (by rfl) rfl (cells_newN _ _ _) (rone_ok _) (by omega) (by unfold maxLen; omega) (by omega) (by first | (simp; done) | (simp; omega)) _ rfl ?_
          intro gg cap w6 hown6 hgrow6 hat6 hlt6'
          have HG6 := Lib.hid (HS5.out.grown HO5.out (Nat.lt_succ_self _) hgrow6)
          have HL6 := Lib.hid (HLD.out.snoc (v' := .slice (some ⟨gg, 0, none⟩) (k + 1) cap) HK5.out HSD.out.lt ⟨d, B5, c5⟩ HLI5.out (by rw [HNL.out]; exact hown6) hgrow6 (hat6.elim (fun e => .inl e.symm) (fun e => .inr ⟨gg, rfl, by rw [e]; simp⟩)))
          have hc66 : w6.cell? ⟨w.heap.size, 0, none⟩ = some (.slice A k ca) := HG6.out.cell 0
          have hf66 := HG6.out.froz 0
          clear hown6 hgrow6 hat6
          try go_simp
          refine hK _ _ ?_
          clear hK K
          try simp only [Act.put, List.setIfInBounds_toArray, List.set_cons_zero, List.set_cons_succ]
          refine wpAny_ready (rs := [6]) (by kernel_rfl) (by simp) ?_
          refine (AllReady.cons rfl (fun K hK => ?_) AllReady.nil)
          go_simp
          refine hK _ _ ?_
          clear hK K
          try simp only [Act.put, List.setIfInBounds_toArray, List.set_cons_zero, List.set_cons_succ]
          refine wpAny_ready (rs := [7]) (by kernel_rfl) (by simp) ?_
          refine (AllReady.cons rfl (fun K hK => ?_) AllReady.nil)
          go_simp
          refine hK _ _ ?_
          clear hK K
          try simp only [Act.put, List.setIfInBounds_toArray, List.set_cons_zero, List.set_cons_succ]
          refine wpAny_done (by kernel_rfl) ?_ _
          refine ShortW.normal ?_
          go_wp2_with fail
          go_roundw
          case rel =>
            have hn1 : (ns ++ [(⟨d, B5, c5⟩ : NdV)]).length = k + 1 := by rw [List.length_append, HNL.out]; rfl
            refine ⟨k + 1, some ⟨gg, 0, none⟩, cap, ns ++ [⟨d, B5, c5⟩], R5, by omega, by go_num, hn1, HNS.out.snoc HD5.out.1 HD5.out.2, HN5.out, HG6.out.store (nb_ser _ _ _ _ _ _ _ _ _ _ _) 0 (.slice (some ⟨gg, 0, none⟩) (k + 1) cap), HL6.out.of_blocks (by simp [World.setCell]) fun j h1 _ => heap_setCell_other _ _ j _ (by have := HG6.out.hi; show j ≠ w.heap.size; omega)⟩
          case measure => simp [intOf]; omega
    · have hkn : k ≤ 1000000 := by omega
      have HS3 := Lib.hid HS.out
      have hlt3 := HS3.out.lt
      have hhi := HS3.out.hi
      clear HS
      go_wp2_with fail
      refine (fill_any _ rb wr.heap.size 2 2 N [(w.heap.size, 1), (w.heap.size, 2)] R ?hr1 HRN.out rfl (by omega) (by omega) (by simp) ?hA1 ?hT1).mono ?_
      case hr1 => exact (HS3.out.more _).rd
      case hA1 => exact ptrsA_new _ _ rfl _ _ _ rfl
      case hT1 =>
        intro p hp
        simp only [List.mem_cons, List.not_mem_nil, or_false] at hp
        rcases hp with rfl | rfl <;> (refine HS3.out.tgt _ _ _ rfl ?_ (nb_ser _ _ _ _ _ _ _ _ _ _ _); rw [serP_size]; decide)
      rintro e w3 (⟨xs3, R3, rfl, hxl3, -, hr3, hl3, hp3⟩ | ⟨rfl, l3, hp3, hpl3⟩)
      rotate_left
      · exact short_leaves rfl (inv_catch _ _) ⟨rfl, rfl⟩ (HS3.out.deadF hp3 (fun p hp => by have h := hpl3 p hp; simp only [List.mem_cons, List.not_mem_nil, or_false] at h; rcases h with h | h <;> rw [h]) rfl (nb_ser _ _ _ _ _ _ _ _ _ _ _)) (fun _ _ h => .inr h)
      obtain ⟨mi, le, rfl⟩ := len2 hxl3
      have hz3 : [(w.heap.size, 1), (w.heap.size, 2)].zip [mi, le] = [((w.heap.size, 1), mi), ((w.heap.size, 2), le)] := rfl
      rw [hz3] at hp3
      have hl0 : ∀ p ∈ [((w.heap.size, 1), mi), ((w.heap.size, 2), le)], p.1.1 = w.heap.size := by
        intro p hp
        simp only [List.mem_cons, List.not_mem_nil, or_false] at hp
        rcases hp with rfl | rfl <;> rfl
      have HS4 : Hid (SdS w rb R3 (serP (.slice A k ca) mi le ⟨#[]⟩ 0 0 (.slice none 0 0)) w3) := Lib.hid (HS3.out.filled hr3 hp3 hl0 (by simp [putsB, setO, serP]))
      have HL4 : Hid (RdL rb w3 (.slice A k ca) ns) := Lib.hid (HL.out.of_blocks (by have := hp3.size; rw [World.size_alloc] at this; omega) fun j h1 h2 => hp3.others hl0 j h2 (by omega) (by omega))
      have HR3 := Lib.hid hl3
      clear hr3 hp3 hl0 HS3 HL hlt3 hxl3 hz3 hl3
      go_wp2_with fail
      refine (text_any w3 rb R3 HS4.out.rd).mono ?_
      rintro e w4 (⟨v4, R4, rfl, ⟨zo, rfl, -⟩, hr4, hl4, hk4⟩ | ⟨rfl, hk4⟩)
      rotate_left
      · exact short_leaves rfl (inv_catch _ _) ⟨rfl, rfl⟩ (HS4.out.dead hk4 rfl) (fun _ _ h => .inr h)
      have HS5 := Lib.hid (HS4.out.step hr4 hk4)
      have HL5 := Lib.hid (HL4.out.mkeep hk4)
      have hc5 := HS5.out.cell
      have hf5 := HS5.out.froz
      have HS6 : Hid (SdS w rb R4 (serP (.slice A k ca) mi le zo 0 0 (.slice none 0 0)) (w4.setCell ⟨w.heap.size, 3, none⟩ (.string zo))) := Lib.hid (HS5.out.store (nb_ser _ _ _ _ _ _ _ _ _ _ _) 3 (.string zo))
      have HL6 : Hid (RdL rb (w4.setCell ⟨w.heap.size, 3, none⟩ (.string zo)) (.slice A k ca) ns) := Lib.hid (HL5.out.of_blocks (by simp [World.setCell]) fun j h1 _ => heap_setCell_other _ _ j _ (by show j ≠ w.heap.size; omega))
      have hlt4 := HS5.out.lt
      have HR4 : Hid (R4.length ≤ N) := Lib.hid (by have := HR3.out; omega)
      clear hr4 hk4 HS4 HL4 HS5 HL5 hl4 HR3
      go_wp2_with fail
      refine (fill_any _ rb w4.heap.size 2 2 N [(w.heap.size, 4), (w.heap.size, 5)] R4 ?hr2 HR4.out rfl (by omega) (by omega) (by simp [World.setCell]) ?hA2 ?hT2).mono ?_
      case hr2 => exact (HS6.out.more _).rd
      case hA2 => exact ptrsA_new _ _ (by simp [World.setCell]) _ _ _ rfl
      case hT2 =>
        intro p hp
        simp only [List.mem_cons, List.not_mem_nil, or_false] at hp
        rcases hp with rfl | rfl <;> (refine HS6.out.tgt _ _ _ (by simp [World.setCell]) ?_ (nb_ser _ _ _ _ _ _ _ _ _ _ _); rw [serP_size]; decide)
      rintro e w5 (⟨xs5, R5, rfl, hxl5, -, hr5, hl5, hp5⟩ | ⟨rfl, l5, hp5, hpl5⟩)
      rotate_left
      · exact short_leaves rfl (inv_catch _ _) ⟨rfl, rfl⟩ (HS6.out.deadF hp5 (fun p hp => by have h := hpl5 p hp; simp only [List.mem_cons, List.not_mem_nil, or_false] at h; rcases h with h | h <;> rw [h]) rfl (nb_ser _ _ _ _ _ _ _ _ _ _ _)) (fun _ _ h => .inr h)
      obtain ⟨ga, fo, rfl⟩ := len2 hxl5
      have hz5 : [(w.heap.size, 4), (w.heap.size, 5)].zip [ga, fo] = [((w.heap.size, 4), ga), ((w.heap.size, 5), fo)] := rfl
      rw [hz5] at hp5
      have hl1 : ∀ p ∈ [((w.heap.size, 4), ga), ((w.heap.size, 5), fo)], p.1.1 = w.heap.size := by
        intro p hp
        simp only [List.mem_cons, List.not_mem_nil, or_false] at hp
        rcases hp with rfl | rfl <;> rfl
      have HS7 : Hid (SdS w rb R5 (serP (.slice A k ca) mi le zo ga fo (.slice none 0 0)) w5) := Lib.hid (HS6.out.filled hr5 hp5 hl1 (by simp [putsB, setO, serP]))
      have HL7 : Hid (RdL rb w5 (.slice A k ca) ns) := Lib.hid (HL6.out.of_blocks (by have := hp5.size; rw [World.size_alloc] at this; omega) fun j h1 h2 => hp5.others hl1 j h2 (by omega) (by omega))
      have HR5 := Lib.hid hl5
      clear hr5 hp5 hl1 HS6 HL6 hlt4 hc5 hf5 hxl5 hz5 hl5 HR4
      go_wp2_with fail
      refine (count_any w5 rb R5 HS7.out.rd).mono ?_
      rintro e w7 (⟨v7, R7, rfl, ⟨m, rfl, hm⟩, hr7, hl7, hk7⟩ | ⟨rfl, hk7⟩)
      rotate_left
      · exact short_leaves rfl (inv_catch _ _) ⟨rfl, rfl⟩ (HS7.out.dead hk7 rfl) (fun _ _ h => .inr h)
      have HS8 := Lib.hid (HS7.out.step hr7 hk7)
      have HL8 := Lib.hid (HL7.out.mkeep hk7)
      have hmN : m ≤ N := by have := HR5.out; omega
      have HR7 : Hid (R7.length ≤ N) := Lib.hid (by have := HR5.out; omega)
      clear hr7 hk7 HS7 HL7 hm hl7 HR5
      go_wp2_with fail
      go_loopw [39] (fun i wr => SrRelB w w7 rb N (.slice A k ca) mi le zo ga fo m i wr) (fun i _ => m - (intOf i).toNat)
      case atStart => exact ⟨0, none, 0, [], R7, Nat.zero_le _, rfl, rfl, HR7.out, HS8.out, World.ownsRow_nil _ _ _ _, Nat.le_refl _, fun _ _ _ => rfl⟩
      case round =>
        obtain ⟨j, B, eb, ms, R, hj, rfl, hmsl, hRN, hs, hown, hsz, hbl0⟩ := hrel
        have HS := Lib.hid hs
        have HO := Lib.hid hown
        have HBL := Lib.hid hbl0
        have HMSL := Lib.hid hmsl
        have HRN := Lib.hid hRN
        have hlt8 : rb < w7.heap.size := HS8.out.lt
        clear hs hown hbl0 HS8 hmsl hRN
        by_cases hlt2 : (j : Int) < (m : Int)
        · have HSD := Lib.hid HS.out.drew
          have HOD : Hid (wr.drew.ownsRow w7.heap.size 26 5 (.slice B j eb) j (mvsCells ms)) := Lib.hid HO.out
          have hc0 : wr.cell? ⟨w.heap.size, 6, none⟩ = some (.slice B j eb) := HS.out.cell 6
          have hlt1 := HS.out.lt
          obtain ⟨i0, hi, hz0, hz1, hz2⟩ := info_parts info_move
          clear HS HO
          go_wp2_with fail
          refine wp_region_short (R := SrDead w) (p := pt w.heap.size) (q := pt (w.heap.size + 1)) (by kernel_rfl) (by kernel_rfl) rfl ⟨rfl, rfl⟩ (fun a2 w2 hd ht hdead => short_leaves hd (inv_catch _ _) ht hdead (fun _ _ h => .inr h)) ?_
          refine wpAny_take (i := 0) (v := ?v3) rfl (by kernel_rfl) (by kernel_rfl) (by kernel_rfl) (fun _ _ _ h => h) (Or.inl ⟨by rfl, ?y3⟩) ?_
          case y3 => intro w0; first | (go_simp; done) | (go_simp; with_reducible rfl)
          try simp only [Act.put, List.setIfInBounds_toArray]
          refine wpAny_take (i := 2) (v := ?v4) rfl (by kernel_rfl) (by kernel_rfl) (by kernel_rfl) (fun _ _ _ h => h) (Or.inl ⟨by rfl, ?y4⟩) ?_
          case y4 => intro w0; first | (go_simp; done) | (go_simp; with_reducible rfl)
          try simp only [Act.put]
          refine wpAny_ready (rs := [1, 3]) (by kernel_rfl) (by simp) ?_
          refine (AllReady.cons rfl (fun K hK => ?_) (AllReady.cons rfl (fun K hK => ?_) AllReady.nil))
          · go_simp
            refine hK _ _ ?_
            clear hK K
            try simp only [Act.put, List.setIfInBounds_toArray, List.set_cons_zero, List.set_cons_succ]
            refine wpAny_ready (rs := [3]) (by kernel_rfl) (by simp) ?_
            refine (AllReady.cons rfl (fun K hK => ?_) AllReady.nil)
            go_simp
            go_at_call 69
            refine (smove_any _ rb N R HSD.out.rd HRN.out).mono ?_
            rintro e w5 (⟨v5, R5, rfl, ⟨x, rfl, -⟩, hr5, hl5n, hk5⟩ | ⟨rfl, hk5⟩)
            rotate_left
            · exact ShortW.dies rfl (HSD.out.dead hk5 rfl)
            have HS5 := Lib.hid (HSD.out.step hr5 hk5)
            have hc5 : w5.cell? ⟨w.heap.size, 6, none⟩ = some (.slice B j eb) := HS5.out.cell 6
            have hl5 := HS5.out.lt
            have hl5' : w.heap.size < w5.heap.size := Nat.lt_trans (Nat.lt_trans (Nat.lt_succ_self _) HS5.out.hi) hl5
            have hl5s : w7.heap.size ≤ w5.heap.size := Nat.le_trans hsz hk5.size
            have HO5 := Lib.hid (ownsRow_mkeep HOD.out hk5 hlt8)
            have HB5 : Hid (∀ i, rb + 1 ≤ i → i < w7.heap.size → w5.heap[i]? = w7.heap[i]?) := Lib.hid (fun i h1 h2 => (hk5.block i (Nat.lt_of_lt_of_le h2 hsz) (Nat.ne_of_gt h1)).trans (HBL.out i h1 h2))
            have HN5 := Lib.hid hl5n
            clear hr5 hk5 hl5n
            try go_simp
            refine hK _ _ ?_
            clear hK K
            try simp only [Act.put, List.setIfInBounds_toArray, List.set_cons_zero, List.set_cons_succ]
            refine wpAny_ready (rs := [4]) (by kernel_rfl) (by simp) ?_
            refine (AllReady.cons rfl (fun K hK => ?_) AllReady.nil)
            go_simp
            refine hK _ _ ?_
            clear hK K
            try simp only [Act.put, List.setIfInBounds_toArray, List.set_cons_zero, List.set_cons_succ]
            refine wpAny_ready (rs := [5]) (by kernel_rfl) (by simp) ?_
            refine (AllReady.cons rfl (fun K hK => ?_) AllReady.nil)
            refine step_append_lies _ (by rfl) _ _ _ (by rfl) w7.heap.size 26 i0 (.agg zMove) 5 40 Tryz.underlying29 hi hz0 hz1 hz2 rfl (by omega) (.slice B j eb) j (mvsCells ms) (by rfl) (HO5.out.alloc _) ⟨w5.heap.size, 0, none⟩ 1 1 (mvCells x).toList (by rfl) rfl (cells_newM x) (moves_ok x) (by omega) (by unfold maxLen; omega) (by omega) (by first | (simp; done) | (simp; omega)) _ rfl ?_
            intro gg cap w6 hown6 hgrow6 hat6 hlt6'
            have HG6 := Lib.hid (HS5.out.grown HO5.out hlt8 hgrow6)
            have HO6 := Lib.hid hown6
            have hsz6 : w7.heap.size ≤ w6.heap.size := Nat.le_trans hl5s (grown_size hgrow6)
            have HB6 : Hid (∀ i, rb + 1 ≤ i → i < w7.heap.size → w6.heap[i]? = w7.heap[i]?) := Lib.hid (fun i h1 h2 => (grown_low HO5.out hgrow6 i (Nat.lt_of_lt_of_le h2 hl5s) h2).trans (HB5.out i h1 h2))
            have hc66 : w6.cell? ⟨w.heap.size, 6, none⟩ = some (.slice B j eb) := HG6.out.cell 6
            have hf66 := HG6.out.froz 6
            clear hown6 hgrow6 hat6
            try go_simp
            refine hK _ _ ?_
            clear hK K
            try simp only [Act.put, List.setIfInBounds_toArray, List.set_cons_zero, List.set_cons_succ]
            refine wpAny_ready (rs := [6]) (by kernel_rfl) (by simp) ?_
            refine (AllReady.cons rfl (fun K hK => ?_) AllReady.nil)
            go_simp
            refine hK _ _ ?_
            clear hK K
            try simp only [Act.put, List.setIfInBounds_toArray, List.set_cons_zero, List.set_cons_succ]
            refine wpAny_ready (rs := [7]) (by kernel_rfl) (by simp) ?_
            refine (AllReady.cons rfl (fun K hK => ?_) AllReady.nil)
            go_simp
            refine hK _ _ ?_
            clear hK K
            try simp only [Act.put, List.setIfInBounds_toArray, List.set_cons_zero, List.set_cons_succ]
            refine wpAny_done (by kernel_rfl) ?_ _
            refine ShortW.normal ?_
            go_wp2_with fail
            go_roundw
            case rel =>
              refine ⟨j + 1, some ⟨gg, 0, none⟩, cap, ms ++ [x], R5, by omega, by go_num, by rw [List.length_append, HMSL.out]; rfl, HN5.out, HG6.out.store (nb_ser _ _ _ _ _ _ _ _ _ _ _) 6 (.slice (some ⟨gg, 0, none⟩) (j + 1) cap), ?_, ?_, fun i h1 h2 => (heap_setCell_other _ _ i _ (by show i ≠ w.heap.size; omega)).trans (HB6.out i h1 h2)⟩
              · rw [mvsCells_snoc]; exact ownsRow_setCell_below (a := ⟨w.heap.size, 6, none⟩) HO6.out (by show w.heap.size < w7.heap.size; omega) _
              · simp only [World.setCell, Array.size_modify]; exact hsz6
            case measure => simp [intOf]; omega
          · go_simp
            go_at_call 69
            refine (smove_any _ rb N R HSD.out.rd HRN.out).mono ?_
            rintro e w5 (⟨v5, R5, rfl, ⟨x, rfl, -⟩, hr5, hl5n, hk5⟩ | ⟨rfl, hk5⟩)
            rotate_left
            · exact ShortW.dies rfl (HSD.out.dead hk5 rfl)
            have HS5 := Lib.hid (HSD.out.step hr5 hk5)
            have hc5 : w5.cell? ⟨w.heap.size, 6, none⟩ = some (.slice B j eb) := HS5.out.cell 6
            have hl5 := HS5.out.lt
            have hl5' : w.heap.size < w5.heap.size := Nat.lt_trans (Nat.lt_trans (Nat.lt_succ_self _) HS5.out.hi) hl5
            have hl5s : w7.heap.size ≤ w5.heap.size := Nat.le_trans hsz hk5.size
            have HO5 := Lib.hid (ownsRow_mkeep HOD.out hk5 hlt8)
            have HB5 : Hid (∀ i, rb + 1 ≤ i → i < w7.heap.size → w5.heap[i]? = w7.heap[i]?) := Lib.hid (fun i h1 h2 => (hk5.block i (Nat.lt_of_lt_of_le h2 hsz) (Nat.ne_of_gt h1)).trans (HBL.out i h1 h2))
            have HN5 := Lib.hid hl5n
            clear hr5 hk5 hl5n
            try go_simp
            refine hK _ _ ?_
            clear hK K
            try simp only [Act.put, List.setIfInBounds_toArray, List.set_cons_zero, List.set_cons_succ]
            refine wpAny_ready (rs := [1, 4]) (by kernel_rfl) (by simp) ?_
            refine (AllReady.cons rfl (fun K hK => ?_) (AllReady.cons rfl (fun K hK => ?_) AllReady.nil))
            · go_simp
              refine hK _ _ ?_
              clear hK K
              try simp only [Act.put, List.setIfInBounds_toArray, List.set_cons_zero, List.set_cons_succ]
              refine wpAny_ready (rs := [4]) (by kernel_rfl) (by simp) ?_
              refine (AllReady.cons rfl (fun K hK => ?_) AllReady.nil)
              go_simp
              refine hK _ _ ?_
              clear hK K
              try simp only [Act.put, List.setIfInBounds_toArray, List.set_cons_zero, List.set_cons_succ]
              refine wpAny_ready (rs := [5]) (by kernel_rfl) (by simp) ?_
              refine (AllReady.cons rfl (fun K hK => ?_) AllReady.nil)
              refine step_append_lies _ (by rfl) _ _ _ (by rfl) w7.heap.size 26 i0 (.agg zMove) 5 40 Tryz.underlying29 hi hz0 hz1 hz2 rfl (by omega) (.slice B j eb) j (mvsCells ms) (by rfl) (HO5.out.alloc _) ⟨w5.heap.size, 0, none⟩ 1 1 (mvCells x).toList (by rfl) rfl (cells_newM x) (moves_ok x) (by omega) (by unfold maxLen; omega) (by omega) (by first | (simp; done) | (simp; omega)) _ rfl ?_
              intro gg cap w6 hown6 hgrow6 hat6 hlt6'
              have HG6 := Lib.hid (HS5.out.grown HO5.out hlt8 hgrow6)
              have HO6 := Lib.hid hown6
              have hsz6 : w7.heap.size ≤ w6.heap.size := Nat.le_trans hl5s (grown_size hgrow6)
              have HB6 : Hid (∀ i, rb + 1 ≤ i → i < w7.heap.size → w6.heap[i]? = w7.heap[i]?) := Lib.hid (fun i h1 h2 => (grown_low HO5.out hgrow6 i (Nat.lt_of_lt_of_le h2 hl5s) h2).trans (HB5.out i h1 h2))
              have hc66 : w6.cell? ⟨w.heap.size, 6, none⟩ = some (.slice B j eb) := HG6.out.cell 6
              have hf66 := HG6.out.froz 6
              clear hown6 hgrow6 hat6
              try go_simp
              refine hK _ _ ?_
              clear hK K
              try simp only [Act.put, List.setIfInBounds_toArray, List.set_cons_zero, List.set_cons_succ]
              refine wpAny_ready (rs := [6]) (by kernel_rfl) (by simp) ?_
              refine (AllReady.cons rfl (fun K hK => ?_) AllReady.nil)
              go_simp
              refine hK _ _ ?_
              clear hK K
              try simp only [Act.put, List.setIfInBounds_toArray, List.set_cons_zero, List.set_cons_succ]
              refine wpAny_ready (rs := [7]) (by kernel_rfl) (by simp) ?_
              refine (AllReady.cons rfl (fun K hK => ?_) AllReady.nil)
              go_simp
              refine hK _ _ ?_
              clear hK K
              try simp only [Act.put, List.setIfInBounds_toArray, List.set_cons_zero, List.set_cons_succ]
              refine wpAny_done (by kernel_rfl) ?_ _
              refine ShortW.normal ?_
              go_wp2_with fail
              go_roundw
              case rel =>
                refine ⟨j + 1, some ⟨gg, 0, none⟩, cap, ms ++ [x], R5, by omega, by go_num, by rw [List.length_append, HMSL.out]; rfl, HN5.out, HG6.out.store (nb_ser _ _ _ _ _ _ _ _ _ _ _) 6 (.slice (some ⟨gg, 0, none⟩) (j + 1) cap), ?_, ?_, fun i h1 h2 => (heap_setCell_other _ _ i _ (by show i ≠ w.heap.size; omega)).trans (HB6.out i h1 h2)⟩
                · rw [mvsCells_snoc]; exact ownsRow_setCell_below (a := ⟨w.heap.size, 6, none⟩) HO6.out (by show w.heap.size < w7.heap.size; omega) _
                · simp only [World.setCell, Array.size_modify]; exact hsz6
              case measure => simp [intOf]; omega
            · go_simp
              refine hK _ _ ?_
              clear hK K
              try simp only [Act.put, List.setIfInBounds_toArray, List.set_cons_zero, List.set_cons_succ]
              refine wpAny_ready (rs := [1]) (by kernel_rfl) (by simp) ?_
              refine (AllReady.cons rfl (fun K hK => ?_) AllReady.nil)
              go_simp
              refine hK _ _ ?_
              clear hK K
              try simp only [Act.put, List.setIfInBounds_toArray, List.set_cons_zero, List.set_cons_succ]
              refine wpAny_ready (rs := [5]) (by kernel_rfl) (by simp) ?_
              refine (AllReady.cons rfl (fun K hK => ?_) AllReady.nil)
              refine step_append_lies _ (by rfl) _ _ _ (by rfl) w7.heap.size 26 i0 (.agg zMove) 5 40 Tryz.underlying29 hi hz0 hz1 hz2 rfl (by omega) (.slice B j eb) j (mvsCells ms) (by rfl) (HO5.out.alloc _) ⟨w5.heap.size, 0, none⟩ 1 1 (mvCells x).toList (by rfl) rfl (cells_newM x) (moves_ok x) (by omega) (by unfold maxLen; omega) (by omega) (by first | (simp; done) | (simp; omega)) _ rfl ?_
              intro gg cap w6 hown6 hgrow6 hat6 hlt6'
              have HG6 := Lib.hid (HS5.out.grown HO5.out hlt8 hgrow6)
              have HO6 := Lib.hid hown6
              have hsz6 : w7.heap.size ≤ w6.heap.size := Nat.le_trans hl5s (grown_size hgrow6)
              have HB6 : Hid (∀ i, rb + 1 ≤ i → i < w7.heap.size → w6.heap[i]? = w7.heap[i]?) := Lib.hid (fun i h1 h2 => (grown_low HO5.out hgrow6 i (Nat.lt_of_lt_of_le h2 hl5s) h2).trans (HB5.out i h1 h2))
              have hc66 : w6.cell? ⟨w.heap.size, 6, none⟩ = some (.slice B j eb) := HG6.out.cell 6
              have hf66 := HG6.out.froz 6
              clear hown6 hgrow6 hat6
              try go_simp
              refine hK _ _ ?_
              clear hK K
              try simp only [Act.put, List.setIfInBounds_toArray, List.set_cons_zero, List.set_cons_succ]
              refine wpAny_ready (rs := [6]) (by kernel_rfl) (by simp) ?_
              refine (AllReady.cons rfl (fun K hK => ?_) AllReady.nil)
              go_simp
              refine hK _ _ ?_
              clear hK K
              try simp only [Act.put, List.setIfInBounds_toArray, List.set_cons_zero, List.set_cons_succ]
              refine wpAny_ready (rs := [7]) (by kernel_rfl) (by simp) ?_
              refine (AllReady.cons rfl (fun K hK => ?_) AllReady.nil)
              go_simp
              refine hK _ _ ?_
              clear hK K
              try simp only [Act.put, List.setIfInBounds_toArray, List.set_cons_zero, List.set_cons_succ]
              refine wpAny_done (by kernel_rfl) ?_ _
              refine ShortW.normal ?_
              go_wp2_with fail
              go_roundw
              case rel =>
                refine ⟨j + 1, some ⟨gg, 0, none⟩, cap, ms ++ [x], R5, by omega, by go_num, by rw [List.length_append, HMSL.out]; rfl, HN5.out, HG6.out.store (nb_ser _ _ _ _ _ _ _ _ _ _ _) 6 (.slice (some ⟨gg, 0, none⟩) (j + 1) cap), ?_, ?_, fun i h1 h2 => (heap_setCell_other _ _ i _ (by show i ≠ w.heap.size; omega)).trans (HB6.out i h1 h2)⟩
                · rw [mvsCells_snoc]; exact ownsRow_setCell_below (a := ⟨w.heap.size, 6, none⟩) HO6.out (by show w.heap.size < w7.heap.size; omega) _
                · simp only [World.setCell, Array.size_modify]; exact hsz6
              case measure => simp [intOf]; omega
        · have ho := HO.out
          have HO2 := Lib.hid ho
          obtain ⟨se, hse⟩ : ∃ se : Ser, (⟨ns.map (fun x : NdV => x.d), mi, le, zo, ga, fo, ms⟩ : Ser) = se := ⟨_, rfl⟩
          have HSE := Lib.hid hse
          have HSQ : Hid (serP (.slice A k ca) mi le zo ga fo (.slice B j eb) = #[.slice A k ca, I se.minute, I se.length, .string se.zone, I se.gap, I se.fold, .slice B j eb]) := Lib.hid (by rw [← hse]; rfl)
          have HLw : Hid (RdL rb wr (.slice A k ca) ns) := Lib.hid (HL8.out.of_blocks hsz fun i h1 h2 => HBL.out i h1 h2)
          have HRU : Hid (RuleIs w.heap.size wr (.slice A k ca) ns) := Lib.hid (HLw.out.rule (by omega))
          have HRW := Lib.hid HS.out.row
          have HNS2 : Hid (∀ x ∈ ns, Nd6 x.d ∧ x.d.list.length ≤ 1000000) := Lib.hid fun x hx => ⟨(HNS.out x hx).1, Nat.le_trans (HNS.out x hx).2 hN6⟩
          have HRA : Hid (RulesAt wr wr.heap.size A ns) := Lib.hid (rules_isN HRU.out (fun y hy => (HNS2.out y hy).2))
          have HMA : Hid (MovesAt wr wr.heap.size B ms) := Lib.hid (moves_is HO2.out HMSL.out)
          have HB : Hid (Below w.heap.size w wr) := Lib.hid HS.out.keep
          have hwl : w.heap.size + 1 < wr.heap.size := by have := HS.out.lt; omega
          have HSB : Hid (Calls Tryz.prog 48 #[.agg (serP (.slice A k ca) mi le zo ga fo (.slice B j eb))] wr (SbAny wr ⟨ns.map (fun x : NdV => x.d), mi, le, zo, ga, fo, ms⟩ ns)) := Lib.hid (sbytes_all ⟨ns.map (fun x : NdV => x.d), mi, le, zo, ga, fo, ms⟩ A B ca eb k j ns wr HRA.out HNL.out rfl hkn HNS2.out HMA.out HMSL.out)
          clear ho HBL HL8 HO hse HSE HSQ
          go_wp2_with (with_reducible refine g_load 31 ?_; refine wpList_load_Row rfl _ _ rfl w.heap.size rfl (serP (.slice A k ca) mi le zo ga fo (.slice B j eb)) HRW.out _ Tryz.underlying31 rfl (serP_info _ _ _ _ _ _ _) ?_)
          refine HSB.out.mono ?_
          have HVC : Hid (wr.heap[w.heap.size]? = some (.cells (serP (.slice A k ca) mi le zo ga fo (.slice B j eb)) 31 (0, 0)) ∧ wr.heap[w.heap.size + 1]? = some (.cells #[I 0] 38 (0, 0))) := Lib.hid ⟨HS.out.var, HS.out.code⟩
          clear HSB
          rintro e w9 (⟨hgood, hrok, vb, rfl, hownb, hbb⟩ | ⟨rfl, hbb⟩)
          · obtain ⟨M, hM⟩ : ∃ M, (seBytes (⟨ns.map (fun x : NdV => x.d), mi, le, zo, ga, fo, ms⟩ : Ser)).length = M := ⟨_, rfl⟩
            have hM0 : 0 < M := by rw [← hM]; exact seBytes_pos _
            rw [hM] at hownb
            obtain ⟨gb, cb, rfl, hgb⟩ := own_form hownb hM0
            have HGR := Lib.hid (And.intro hgood hrok)
            have hE1 : BytesAt w9 w9.heap.size (some ⟨gb, 0, none⟩) (seBytes (⟨ns.map (fun x : NdV => x.d), mi, le, zo, ga, fo, ms⟩ : Ser)) := .inr ⟨gb, 0, rfl, own_lt hownb gb rfl, fun q hq => by
              have h := hownb.cells (g := gb) rfl q (Extern.Stop.cell ((seBytes (⟨ns.map (fun x : NdV => x.d), mi, le, zo, ga, fo, ms⟩ : Ser))[q]?.getD 0)) (by rw [List.getElem?_map, List.getElem?_eq_getElem hq]; rfl)
              rw [addr_add] at h
              rw [Nat.zero_add]; exact h⟩
            have HBA := Lib.hid (below_trans HB.out hbb)
            have hE2 : BytesAt w9 w9.heap.size (some ⟨b, off, none⟩) bs := .inr ⟨b, off, rfl, Nat.lt_of_lt_of_le hbl HBA.out.size, fun q hq => (HBA.out.cell (p := ⟨b, off + q, none⟩) hbl).trans (HA.out q (by rw [HN.out] at hq; exact hq))⟩
            have heq := eqB_any (some ⟨gb, 0, none⟩) (some ⟨b, off, none⟩) cb c M N (seBytes (⟨ns.map (fun x : NdV => x.d), mi, le, zo, ga, fo, ms⟩ : Ser)) bs w9 hM HN.out hE1 hE2 hN0 (by omega)
            obtain ⟨q, hq⟩ : ∃ q, (seBytes (⟨ns.map (fun x : NdV => x.d), mi, le, zo, ga, fo, ms⟩ : Ser) == bs) = q := ⟨_, rfl⟩
            rw [hq] at heq
            have HQ := Lib.hid hq
            have HEQ := Lib.hid heq
            have HBB := Lib.hid hbb
            clear hownb hE1 hE2 hbb heq hq hgood hrok hM hM0 hgb
            cases q with
            | false =>
              go_wp2_with fail
              refine HEQ.out.mono ?_
              rintro e w10 ⟨rfl, hb10⟩
              have HW : Hid (Below wr.heap.size wr w10) := Lib.hid (below_trans HBB.out hb10)
              clear hb10 HBB HEQ HBA
              have HV : Hid (w10.heap[w.heap.size]? = some (.cells (serP (.slice A k ca) mi le zo ga fo (.slice B j eb)) 31 (0, 0))) := Lib.hid ((HW.out.block _ (by omega)).trans HVC.out.1)
              have hsc : (w10.setRow w.heap.size zSerC).heap[w.heap.size + 1]? = some (.cells #[I 0] 38 (0, 0)) := (setRow_other _ _ _ _ (by omega)).trans ((HW.out.block _ hwl).trans HVC.out.2)
              have hcc := cell_of_row _ (w.heap.size + 1) 0 _ _ _ hsc
              have hfc := frozen_of_row _ (w.heap.size + 1) 0 _ _ hsc
              have HSC := Lib.hid hsc
              have HZS : Hid ((serP (.slice A k ca) mi le zo ga fo (.slice B j eb)).size = zSerC.size) := Lib.hid rfl
              have HZ1 : Hid (zSerC.all (·.oneCell') = true) := Lib.hid (by kernel_rfl)
              clear hsc
              go_wp2_with (with_reducible refine g_store 31 ?_; refine wpList_store_row rfl _ _ _ rfl w.heap.size zSerC rfl rfl 31 (serP (.slice A k ca) mi le zo ga fo (.slice B j eb)) HV.out zSerC_info HZS.out HZ1.out ?_)
              refine leaves_cons (f := 63) (args := #[.pointer (some ⟨w.heap.size, 0, none⟩), .pointer (some ⟨w.heap.size + 1, 0, none⟩)]) (by simp) (by simp [go_sem]) ?_
              refine (catch_idle _ _ _).mono ?_
              rintro e u' w11 ⟨rfl, rfl, rfl⟩
              have hv11 := (heap_setCell_other (w10.setRow w.heap.size zSerC) ⟨w.heap.size + 1, 0, none⟩ w.heap.size (I 3) (by show w.heap.size ≠ w.heap.size + 1; omega)).trans (setRow_heap _ _ _ zSerC _ _ HV.out)
              have hc11 := cell_of_row _ (w.heap.size + 1) 0 _ _ _ (heap_setCell_same _ (w.heap.size + 1) 0 _ _ (I 3) HSC.out)
              refine ⟨_, results_row_cell rfl _ _ w.heap.size (w.heap.size + 1) _ zSerC (0, 0) _ (I 3) rfl hv11 Tryz.underlying31 rfl zSerC_info rfl (load_errno3 _ _ hc11), .inr ⟨rfl, ?_⟩⟩
              exact (below_setRow (below_trans HB.out HW.out) (Nat.le_refl _) _).setCell (p := ⟨w.heap.size + 1, 0, none⟩) (Nat.le_succ _) _
            | true =>
              go_wp2_with fail
              refine HEQ.out.mono ?_
              rintro e w10 ⟨rfl, hb10⟩
              have HW : Hid (Below wr.heap.size wr w10) := Lib.hid (below_trans HBB.out hb10)
              have HV : Hid (w10.heap[w.heap.size]? = some (.cells (serP (.slice A k ca) mi le zo ga fo (.slice B j eb)) 31 (0, 0))) := Lib.hid ((HW.out.block _ (by omega)).trans HVC.out.1)
              have HCD : Hid (w10.heap[w.heap.size + 1]? = some (.cells #[I 0] 38 (0, 0))) := Lib.hid ((HW.out.block _ hwl).trans HVC.out.2)
              have HRW10 : Hid (Row w10 w.heap.size (serP (.slice A k ca) mi le zo ga fo (.slice B j eb))) := Lib.hid (HRW.out.keep HW.out)
              have hsc : (w10.setRow w.heap.size (serP (.slice A k ca) mi le zo ga fo (.slice B j eb))).heap[w.heap.size + 1]? = some (.cells #[I 0] 38 (0, 0)) := (setRow_other _ _ _ _ (by omega)).trans HCD.out
              have hcc := cell_of_row _ (w.heap.size + 1) 0 _ _ _ hsc
              have hfc := frozen_of_row _ (w.heap.size + 1) 0 _ _ hsc
              have HSC := Lib.hid hsc
              clear hb10 hsc HBB HEQ HBA
              go_wp2_with (first
                | (with_reducible refine g_load 31 ?_; refine wpList_load_Row rfl _ _ rfl w.heap.size rfl (serP (.slice A k ca) mi le zo ga fo (.slice B j eb)) HRW10.out _ Tryz.underlying31 rfl (serP_info _ _ _ _ _ _ _) ?_)
                | (with_reducible refine g_store 31 ?_; refine wpList_store_row rfl _ _ _ rfl w.heap.size (serP (.slice A k ca) mi le zo ga fo (.slice B j eb)) rfl rfl 31 (serP (.slice A k ca) mi le zo ga fo (.slice B j eb)) HV.out (serP_info _ _ _ _ _ _ _) rfl (serP_one _ _ _ _ _ _ _ _ _ _ _) ?_))
              refine leaves_cons (f := 63) (args := #[.pointer (some ⟨w.heap.size, 0, none⟩), .pointer (some ⟨w.heap.size + 1, 0, none⟩)]) (by simp) (by simp [go_sem]) ?_
              refine (catch_idle _ _ _).mono ?_
              rintro e u' w11 ⟨rfl, rfl, rfl⟩
              have hbl11 : ∀ i, i ≠ w.heap.size → i ≠ w.heap.size + 1 → i < wr.heap.size → ((w10.setRow w.heap.size (serP (.slice A k ca) mi le zo ga fo (.slice B j eb))).setCell ⟨w.heap.size + 1, 0, none⟩ (I 0)).heap[i]? = wr.heap[i]? := fun i h1 h2 h3 =>
                (heap_setCell_other _ _ i _ h2).trans ((setRow_other _ _ i _ h1).trans (HW.out.block i h3))
              have hsz11 : wr.heap.size ≤ ((w10.setRow w.heap.size (serP (.slice A k ca) mi le zo ga fo (.slice B j eb))).setCell ⟨w.heap.size + 1, 0, none⟩ (I 0)).heap.size := by
                have h := HW.out.size
                simpa [World.setCell] using h
              have hv11 := (heap_setCell_other (w10.setRow w.heap.size (serP (.slice A k ca) mi le zo ga fo (.slice B j eb))) ⟨w.heap.size + 1, 0, none⟩ w.heap.size (I 0) (by show w.heap.size ≠ w.heap.size + 1; omega)).trans (setRow_heap _ _ _ (serP (.slice A k ca) mi le zo ga fo (.slice B j eb)) _ _ HV.out)
              have hc11 := cell_of_row _ (w.heap.size + 1) 0 _ _ _ (heap_setCell_same _ (w.heap.size + 1) 0 _ _ (I 0) HSC.out)
              refine ⟨_, results_row_cell rfl _ _ w.heap.size (w.heap.size + 1) _ (serP (.slice A k ca) mi le zo ga fo (.slice B j eb)) (0, 0) _ (I 0) rfl hv11 Tryz.underlying31 rfl (serP_info _ _ _ _ _ _ _) rfl (load_errno _ _ hc11), .inl ⟨(⟨ns.map (fun x : NdV => x.d), mi, le, zo, ga, fo, ms⟩ : Ser), HGR.out.1, fun ns2 h2 => HGR.out.2.of_map h2, beq_iff_eq.1 HQ.out, A, k, ca, B, j, eb, ns, by rw [← HNL.out]; simp, HMSL.out.symm, rfl, rfl, ?_, ?_, ?_⟩⟩
              · exact (HLw.out.of_blocks hsz11 fun i h1 h2 => hbl11 i (by omega) (by omega) h2).rule (by omega)
              · exact ownsRow_base' (ownsRow_blocks HO2.out fun i h1 h2 => hbl11 i (by omega) (by omega) h2) (by omega)
              · exact (below_setRow (below_trans HB.out HW.out) (Nat.le_refl _) _).setCell (p := ⟨w.heap.size + 1, 0, none⟩) (Nat.le_succ _) _
          · have HW : Hid (Below wr.heap.size wr w9) := Lib.hid hbb
            clear hbb
            have HV : Hid (w9.heap[w.heap.size]? = some (.cells (serP (.slice A k ca) mi le zo ga fo (.slice B j eb)) 31 (0, 0))) := Lib.hid ((HW.out.block _ (by omega)).trans HVC.out.1)
            have hsc : (w9.setRow w.heap.size zSerC).heap[w.heap.size + 1]? = some (.cells #[I 0] 38 (0, 0)) := (setRow_other _ _ _ _ (by omega)).trans ((HW.out.block _ hwl).trans HVC.out.2)
            have hcc := cell_of_row _ (w.heap.size + 1) 0 _ _ _ hsc
            have hfc := frozen_of_row _ (w.heap.size + 1) 0 _ _ hsc
            have HSC := Lib.hid hsc
            have HZS : Hid ((serP (.slice A k ca) mi le zo ga fo (.slice B j eb)).size = zSerC.size) := Lib.hid rfl
            have HZ1 : Hid (zSerC.all (·.oneCell') = true) := Lib.hid (by kernel_rfl)
            clear hsc
            go_wp2_with (with_reducible refine g_store 31 ?_; refine wpList_store_row rfl _ _ _ rfl w.heap.size zSerC rfl rfl 31 (serP (.slice A k ca) mi le zo ga fo (.slice B j eb)) HV.out zSerC_info HZS.out HZ1.out ?_)
            refine leaves_cons (f := 63) (args := #[.pointer (some ⟨w.heap.size, 0, none⟩), .pointer (some ⟨w.heap.size + 1, 0, none⟩)]) (by simp) (by simp [go_sem]) ?_
            refine (catch_idle _ _ _).mono ?_
            rintro e u' w11 ⟨rfl, rfl, rfl⟩
            have hv11 := (heap_setCell_other (w9.setRow w.heap.size zSerC) ⟨w.heap.size + 1, 0, none⟩ w.heap.size (I 3) (by show w.heap.size ≠ w.heap.size + 1; omega)).trans (setRow_heap _ _ _ zSerC _ _ HV.out)
            have hc11 := cell_of_row _ (w.heap.size + 1) 0 _ _ _ (heap_setCell_same _ (w.heap.size + 1) 0 _ _ (I 3) HSC.out)
            refine ⟨_, results_row_cell rfl _ _ w.heap.size (w.heap.size + 1) _ zSerC (0, 0) _ (I 3) rfl hv11 Tryz.underlying31 rfl zSerC_info rfl (load_errno3 _ _ hc11), .inr ⟨rfl, ?_⟩⟩
            exact (below_setRow (below_trans HB.out HW.out) (Nat.le_refl _) _).setCell (p := ⟨w.heap.size + 1, 0, none⟩) (Nat.le_succ _) _
end Go.Proofs.YthhbbebabmemfaaGreat

/- letter.Valid and letter.Bytes of any letter whose series is none or good. -/
namespace Go.Proofs.YthhbbebabmemfaaGreat
open Go Go.RowKit

/-- A letter that was read: the series is none or good, the cells are bytes. -/
structure LxOK (N : Nat) (l : Lt) : Prop where
  ref : l.ref.length = 32
  cells : ∀ z ∈ l.cells, 0 ≤ z ∧ z ≤ 255
  clen : l.cells.length ≤ N
  ser : l.series = zSer ∨ (SerGood l.series ∧ ∀ ns : List NdV, ns.map (·.d) = l.series.rule → RuleOK ns)
section
variable {N : Nat} {l : Lt} {ns : List NdV} {s : Sl} {lo : Nat} {w : World}
theorem LxOK.len (h : LxOK N l) (hm : l.series.rule = ns.map (·.d)) : l.series.rule.length ≤ 64 ∧ l.series.moves.length ≤ 64 ∧ l.series.zone.size ≤ 32 ∧ ∀ x ∈ ns, x.d.list.length ≤ 64 := by
  rcases h.ser with h | ⟨h1, h2⟩
  · rw [h] at hm ⊢
    have hn : ns = [] := by cases ns with
      | nil => rfl
      | cons x ns => cases hm
    subst hn
    exact ⟨Nat.zero_le _, Nat.zero_le _, Nat.zero_le _, fun x hx => nomatch hx⟩
  · have hr := h2 ns hm.symm
    refine ⟨by rw [hm, List.length_map]; exact hr.n64, h1.ml, h1.zo.2, fun x hx => ?_⟩
    obtain ⟨i, hi⟩ := List.mem_iff_getElem?.1 hx
    exact (hr.nodes i x hi).len
theorem LxOK.ok (h : LxOK N l) (hN : N ≤ 65536) (hm : l.series.rule = ns.map (·.d)) : LtOK l := by
  obtain ⟨h1, h2, h3, _⟩ := h.len hm
  have := h.clen
  exact ⟨by omega, by omega, by omega, h.ref, by omega⟩
theorem LxOK.rules (h : LxOK N l) (hm : LtMem lo w l s ns) : RulesAt w w.heap.size s.A ns :=
  rules_isN hm.rule fun x hx => by have := (h.len hm.names).2.2.2 x hx; omega
theorem good_nz (h : SerGood l.series) : nzOf l = false := by
  unfold nzOf noSer
  exact decide_eq_false (by have := h.le; omega)
theorem valid_lx (h : LxOK N l) (hN : N ≤ 65536) (hm : LtMem lo w l s ns) (hlo : 0 < lo) : Calls Tryz.prog 12 #[.agg (ltVal l s)] w (Gives (I (vc l)) w) := by
  have hok := h.ok hN hm.names
  have hi : IntsAt w w.heap.size s.C l.cells := hm.ints
  have hcl : l.cells.length ≤ 65536 := by have := h.clen; omega
  cases hh : headOK l with
  | false =>
    have e : vc l = 1 := by unfold vc; rw [hh]; rfl
    rw [e]
    exact valid_head l s w hh
  | true =>
    cases hb : bodyOK l with
    | false =>
      have e : vc l = 1 := by unfold vc; rw [hh, hb]; rfl
      rw [e]
      exact valid_bad l s w hok hi hh hb
    | true =>
      cases hn : noSerB l with
      | true =>
        have e : vc l = 0 := by unfold vc; rw [hh, hb, hn]; rfl
        have h := valid_nos l s w hok hi hh (fun _ _ => hn)
        have e2 : vCode l 0 = 0 := by unfold vCode; rw [hh, hb, hn, if_neg (by decide), if_neg (by decide), if_neg (by omega), if_pos rfl]
        rw [e2] at h
        rw [e]
        exact h
      | false =>
        obtain ⟨hu, hz⟩ := noSerB_no hn
        rcases h.ser with hs | ⟨hg, hr⟩
        · have hnz : nzOf l = true := by unfold nzOf; rw [hs]; rfl
          have e : vc l = 1 := by unfold vc; rw [hh, hb, hn, hnz]; rfl
          rw [e]
          refine valid_ser l s w 1 hok hi hh hb hcl hu hz (fun w' cb cc xs _ _ => ?_)
          have e3 : serVal l s = .agg #[.slice s.A 0 s.c, I 0, I 0, .string ⟨#[]⟩, I 0, I 0, .slice s.B 0 s.d] := by unfold serVal; rw [hs]; rfl
          rw [e3]
          exact seriesValid_none s.A s.B s.c s.d cb cc w'
        · have hnz : nzOf l = false := good_nz hg
          have e : vc l = 0 := by unfold vc; rw [hh, hb, hn, hnz]; rfl
          rw [e]
          refine valid_ser l s w 0 hok hi hh hb hcl hu hz (fun w' cb cc xs hb' hc => ?_)
          have m' := hm.grow hb' hlo
          exact seriesValid_yes l.series s.A s.B s.c s.d l.series.rule.length l.series.moves.length cb cc ns xs w' (h.rules m') (by rw [m'.names, List.length_map]) (hr ns m'.names.symm) m'.mvs rfl hg hc
theorem good_len {se : Ser} (hg : SerGood se) (hr : RuleOK ns) (hm : se.rule = ns.map (·.d)) : 0 < (seBytes se).length ∧ (seBytes se).length ≤ 1000000 := by
  have h1 := seRule_len (ds := se.rule) (by rw [hm]; exact hr.fits)
  have h2 := seMoves_len se.moves
  have h3 : se.rule.length ≤ 64 := by rw [hm, List.length_map]; exact hr.n64
  have h4 := hg.ml
  have h5 : se.zone.data.toList.length ≤ 32 := by
    have : se.zone.data.toList.length = se.zone.size := Array.length_toList
    have := hg.zo
    omega
  unfold seBytes seHead seMid textBytes
  simp only [List.length_append, leAll_length, le_length, List.length_cons, List.length_nil, h2]
  omega
theorem LxOK.sbl (h : LxOK N l) (hm : l.series.rule = ns.map (·.d)) : (sbOf l).length ≤ 1000000000 := by
  unfold sbOf
  split
  · rw [le_length]; omega
  · rename_i hz
    rcases h.ser with hs | ⟨hg, hr⟩
    · exfalso; apply hz; unfold nzOf; rw [hs]; rfl
    · have := good_len hg (hr ns hm.symm) hm
      rw [List.length_append, le_length]
      omega
theorem bytes_lx (h : LxOK N l) (hN : N ≤ 65536) (hm : LtMem lo w l s ns) (hlo : 0 < lo) : Calls Tryz.prog 6 #[.agg (ltVal l s)] w (BytesPost w (vc l) (ltBytes l (sbOf l))) := by
  have hok := h.ok hN hm.names
  have hcl : l.cells.length ≤ 65536 := by have := h.clen; omega
  have hval : ∀ w', Below w.heap.size w w' → Calls Tryz.prog 12 #[.agg (ltVal l s)] w' (Gives (I (vc l)) w') := fun w' hb => valid_lx h hN (hm.grow hb hlo) hlo
  rcases vc_cases l with e | ⟨e, hh, hb⟩
  · rw [e] at hval ⊢
    exact bytes_no l s _ w 1 h.ref rfl hval
  · rw [e] at hval ⊢
    have hf := body_fits hh hb
    obtain ⟨⟨k1, k2⟩, hsrc, hdst, _⟩ := headOK_iff hh
    have hsr : 0 ≤ l.src ∧ l.src < 16 := by unfold srvIn at hsrc; exact of_decide_eq_true hsrc
    have hds : 0 ≤ l.dst ∧ l.dst < 16 := by unfold srvIn at hdst; exact of_decide_eq_true hdst
    refine bytes_yes l s (sbOf l) w
      { ref := h.ref, cells := hcl, sbl := h.sbl hm.names, kind := by unfold fits; omega, src := by unfold fits; omega, dst := by unfold fits; omega
        num := hf.num, mday := hf.mv.1, mto := hf.mv.2.1, mmin := hf.mv.2.2.1, mlen := hf.mv.2.2.2, wfrom := hf.wf.1, wto := hf.wf.2, fit := hf.cel
        ints := hm.ints
        valid := hval, ser := ?_ }
    intro _ w' g b v bs hbl _ hin hlb
    rcases h.ser with hs | ⟨hg, hr⟩
    · have hnz : nzOf l = true := by unfold nzOf; rw [hs]; rfl
      have es : sbOf l = le 0 4 := by unfold sbOf; rw [hnz]; rfl
      rw [es]
      exact serW_no w' g b l s v bs hin hok hnz hlb
    · have hnz : nzOf l = false := good_nz hg
      have es : sbOf l = le (seBytes l.series).length 4 ++ seBytes l.series := by unfold sbOf; rw [hnz]; rfl
      rw [es]
      have hro := hr ns hm.names.symm
      have hsl := good_len hg hro hm.names
      refine serW_yes w' g b l s v bs (seBytes l.series) hin hok hnz hlb hsl.1 (by omega) (fun w2 hb2 => ?_)
      have m2 := hm.grow (below_trans hbl hb2) hlo
      have h64 := (h.len hm.names).1
      exact sbytes_any l.series s.A s.B s.c s.d l.series.rule.length l.series.moves.length ns w2 (h.rules m2) (by rw [m2.names, List.length_map]) m2.names (by rw [m2.names]; exact hro.fits) h64 m2.mvs rfl hg (fun w3 hb3 => sound_yes l.series s.A s.B s.c s.d l.series.rule.length l.series.moves.length ns w3 (h.rules (m2.grow hb3 hlo)) (by rw [m2.names, List.length_map]) hro (m2.grow hb3 hlo).mvs rfl hg)
end
end Go.Proofs.YthhbbebabmemfaaGreat

/- No encoding of a letter is the beginning of another's; how long a made letter's bytes are. -/
namespace Go.Proofs.YthhbbebabmemfaaGreat
open Go Go.RowKit

theorem good_mv {x : Mv} (h : MvGood x) : ∀ z ∈ mvNums x, fits z := by
  obtain ⟨m1, m2, hm⟩ := h
  intro z hz
  unfold mvNums at hz
  unfold fits
  simp only [List.mem_cons, List.not_mem_nil, or_false] at hz
  rcases hm with ⟨e, a, b, c⟩ | ⟨e, a, b, c, d, f, g⟩
  · rw [e, a, b, c] at hz
    rcases hz with rfl | rfl | rfl | rfl | rfl <;> first | omega | (simp; done) | (simp; omega)
  · rw [e] at hz
    rcases hz with rfl | rfl | rfl | rfl | rfl <;> first | omega | (simp; done) | (simp; omega)
section
variable {N : Nat} {l L M : Lt} {ns : List NdV} {a b R R' : List UInt8}
/-- A valid letter that was read can be read back. -/
theorem LxOK.rd (h : LxOK N l) (hN : N ≤ 65536) (hm : l.series.rule = ns.map (·.d)) (h0 : vc l = 0) : RdOK l (sbOf l) := by
  rcases vc_cases l with e | ⟨_, hh, hb⟩
  · rw [h0] at e; cases e
  obtain ⟨⟨k1, k2⟩, hsrc, hdst, _⟩ := headOK_iff hh
  have hsr : 0 ≤ l.src ∧ l.src < 16 := by unfold srvIn at hsrc; exact of_decide_eq_true hsrc
  have hds : 0 ≤ l.dst ∧ l.dst < 16 := by unfold srvIn at hdst; exact of_decide_eq_true hdst
  refine ⟨by omega, by omega, by omega, body_fits hh hb, h.ref, body_cells hb, by have := h.clen; omega, fun k hk hu => body_unused hb k hk hu, ?_⟩
  rcases h.ser with hs | ⟨hg, hr⟩
  · refine .inl ⟨?_, hs⟩
    have hnz : nzOf l = true := by unfold nzOf; rw [hs]; rfl
    unfold sbOf
    rw [hnz]
    rfl
  · have hnz : nzOf l = false := good_nz hg
    have hro := hr ns hm.symm
    have hbl := good_len hg hro hm
    refine .inr ⟨(seBytes l.series).length, ?_, rfl, hbl.1, by omega, (h.len hm).1, hg, hr, by rw [hm]; exact hro.fits, fun x hx => good_mv (hg.mv x hx)⟩
    unfold sbOf
    rw [hnz]
    rfl
theorem fld_pre (hL : RdOK L a) (hM : RdOK M b) (hkd : L.kind = M.kind) (k : Nat) (hk : k < 17) (h : fldsFrom L a k ++ R = fldsFrom M b k ++ R') : FldEq L M k ∧ fldsFrom L a (k + 1) ++ R = fldsFrom M b (k + 1) ++ R' := by
  cases hu : usesB L.kind k with
  | false =>
    have hu' : usesB M.kind k = false := by rw [← hkd]; exact hu
    rw [fldsFrom_skip L a k hk hu, fldsFrom_skip M b k hk hu'] at h
    exact ⟨(hL.zero k hk hu).eq (hM.zero k hk hu'), h⟩
  | true =>
    have hu' : usesB M.kind k = true := by rw [← hkd]; exact hu
    cases ho : numOff k with
    | some o =>
      have hs : (numOff k).isSome = true := by rw [ho]; rfl
      rw [fldsFrom_num L a k hk hu hs, fldsFrom_num M b k hk hu' hs] at h
      try simp only [List.append_assoc] at h
      obtain ⟨h1, h2⟩ := le_inj8 (hL.fit.num k hk) (hM.fit.num k hk) h
      exact ⟨by unfold FldEq; rw [if_pos hs]; exact h1, h2⟩
    | none =>
      rcases none_at k hk ho with rfl | rfl | rfl | rfl | rfl
      · rw [fldsFrom_9 L a hu, fldsFrom_9 M b hu'] at h
        try simp only [List.append_assoc] at h
        exact mvb_inj hL.fit.mv hM.fit.mv h
      · rw [fldsFrom_10 L a hu, fldsFrom_10 M b hu'] at h
        try simp only [List.append_assoc] at h
        rcases hL.ser with ⟨e1, e2⟩ | ⟨N, e1, hN, hN0, hN2, h64, hg, _, hfit, hmf⟩
        · rcases hM.ser with ⟨e1', e2'⟩ | ⟨N', e1', hN', hN0', hN2', _⟩
          · rw [e1, e1'] at h; try simp only [List.append_assoc] at h
            exact ⟨e2.trans e2'.symm, (le_inj4 (by omega) (by omega) h).2⟩
          · rw [e1, e1'] at h; try simp only [List.append_assoc] at h
            have := (le_inj4 (by omega) (by omega) h).1
            omega
        · rcases hM.ser with ⟨e1', e2'⟩ | ⟨N', e1', hN', hN0', hN2', h64', hg', _, hfit', hmf'⟩
          · rw [e1, e1'] at h; try simp only [List.append_assoc] at h
            have := (le_inj4 (by omega) (by omega) h).1
            omega
          · rw [e1, e1'] at h; try simp only [List.append_assoc] at h
            obtain ⟨h1, h2⟩ := le_inj4 (by omega) (by omega) h
            obtain ⟨h3, h4⟩ := List.append_inj h2 (by omega)
            exact ⟨se_inj hg hg' h64 h64' hfit hfit' hmf hmf' h3, h4⟩
      · rw [fldsFrom_14 L a hu, fldsFrom_14 M b hu'] at h
        try simp only [List.append_assoc] at h
        obtain ⟨h1, h⟩ := le_inj8 hL.fit.wf.1 hM.fit.wf.1 h
        obtain ⟨h2, h⟩ := le_inj8 hL.fit.wf.2 hM.fit.wf.2 h
        exact ⟨⟨h1, h2⟩, h⟩
      · rw [fldsFrom_15 L a hu, fldsFrom_15 M b hu'] at h
        try simp only [List.append_assoc] at h
        obtain ⟨h1, h⟩ := le_inj4 (by have := hL.clen; omega) (by have := hM.clen; omega) h
        exact cells_inj _ _ _ _ (by omega) hL.cells hM.cells h
      · rw [fldsFrom_16 L a hu, fldsFrom_16 M b hu'] at h
        try simp only [List.append_assoc] at h
        exact List.append_inj h (by rw [hL.ref, hM.ref])
/-- An encoding is not the beginning of another one. -/
theorem lt_pref (hL : RdOK L a) (hM : RdOK M b) (h : ltBytes L a ++ R = ltBytes M b ++ R') : R = R' := by
  rw [ltBytes_read, ltBytes_read] at h
  simp only [List.append_assoc] at h
  obtain ⟨k1, h⟩ := le_inj1 hL.kind hM.kind h
  obtain ⟨k2, h⟩ := le_inj1 hL.src hM.src h
  obtain ⟨k3, h⟩ := le_inj1 hL.dst hM.dst h
  have hall : ∀ k, k ≤ 17 → fldsFrom L a k ++ R = fldsFrom M b k ++ R' := by
    intro k
    induction k with
    | zero => exact fun _ => h
    | succ k ih =>
      intro hk
      exact (fld_pre hL hM k1 k (by omega) (ih (by omega))).2
  have := hall 17 (Nat.le_refl _)
  rwa [fldsFrom_end, fldsFrom_end, List.nil_append, List.nil_append] at this
theorem fldBytes_at (sb : List UInt8) (k : Nat) (hs : sb.length ≤ 40000) (h1 : l.cells.length ≤ 100) (h2 : l.ref.length = 32) : (fldBytes l sb k).length ≤ (if k = 10 then 40000 else 200) := by
  unfold fldBytes
  by_cases hk : k = 10
  · rw [if_pos hk]
    subst hk
    exact hs
  · rw [if_neg hk, if_neg hk]
    repeat' split
    all_goals (try simp only [le_length, mvBytes_length, List.length_append, cellBytes_length])
    all_goals omega
theorem fldsTo_at (sb : List UInt8) (k : Nat) (hs : sb.length ≤ 40000) (h1 : l.cells.length ≤ 100) (h2 : l.ref.length = 32) : (fldsTo l sb k).length ≤ 200 * k + (if 10 < k then 40000 else 0) := by
  induction k with
  | zero => exact Nat.zero_le _
  | succ k ih =>
    have h := fldBytes_at (l := l) sb k hs h1 h2
    simp only [fldsTo, List.length_append]
    have hu : (if usesB l.kind k then fldBytes l sb k else []).length ≤ (fldBytes l sb k).length := by
      split
      · exact Nat.le_refl _
      · exact Nat.zero_le _
    split at h
    · rename_i e; subst e; rw [if_neg (show ¬ 10 < 10 by omega)] at ih; rw [if_pos (show 10 < 10 + 1 by omega)]; omega
    · rename_i e
      by_cases h10 : 10 < k
      · rw [if_pos h10] at ih; rw [if_pos (show 10 < k + 1 by omega)]; omega
      · rw [if_neg h10] at ih; rw [if_neg (show ¬ 10 < k + 1 by omega)]; omega
/-- A made letter's bytes are not many. -/
theorem made_small (h : MadeLt l ns) : 0 < (ltBytes l (sbOf l)).length ∧ (ltBytes l (sbOf l)).length ≤ 60000 := by
  have hlen := h.lens
  have hsb : (sbOf l).length ≤ 40000 := by
    unfold sbOf
    split
    · rw [le_length]; omega
    · rename_i hz
      rcases h.se with hs | hs
      · exfalso; apply hz; unfold nzOf; rw [hs]; rfl
      · have h1 := seRule_len (ds := l.series.rule) (by rw [hs.names]; exact rule_fits hs.rulesOK)
        have h2 := seMoves_len l.series.moves
        have h5 : l.series.zone.data.toList.length ≤ 32 := by
          have : l.series.zone.data.toList.length = l.series.zone.size := Array.length_toList
          have := hs.good.zo
          omega
        unfold seBytes seHead seMid textBytes
        simp only [List.length_append, leAll_length, le_length, List.length_cons, List.length_nil, h2]
        omega
  have hf := fldsTo_at (l := l) (sbOf l) 17 hsb (by omega) h.ref
  rw [if_pos (show 10 < 17 by omega)] at hf
  unfold ltBytes
  rw [List.length_append, hd_length]
  omega
end
end Go.Proofs.YthhbbebabmemfaaGreat

/- letter.Read on any bytes: the letter under way, whatever is left to be read and whether the reader has failed. -/
namespace Go.Proofs.YthhbbebabmemfaaGreat
open Go Go.RowKit

/-- As LIn, but any bytes (not more than N) are left and the reader may have failed. -/
structure LIb (w wm w' : World) (N : Nat) (l : Lt) (s : Sl) : Prop where
  blk : w'.heap[w.heap.size + 1]? = some (.cells (ltVal l s) 37 (0, 0))
  st : ∃ rest bad, rest.length ≤ N ∧ RStL w' (w.heap.size + 2) (w.heap.size + 1) w.heap.size rest bad
  res : w'.heap[w.heap.size]? = some (.cells (ltVal zLt zSl) 37 (0, 0))
  lo : Below w.heap.size w w'
  sz : w.heap.size + 4 < w'.heap.size
  msz : wm.heap.size ≤ w'.heap.size
  mem : ∀ k, w.heap.size + 5 ≤ k → k < wm.heap.size → w'.heap[k]? = wm.heap[k]?
theorem hvs_bnd (l : List (Nat × UInt8)) : ∀ (s : Int) (b : Nat), 0 ≤ s → s < b → 0 ≤ hvs s l ∧ hvs s l < ((b * 256 ^ l.length : Nat) : Int) := by
  induction l with
  | nil => intro s b h0 h1; exact ⟨h0, by simpa [hvs] using h1⟩
  | cons x l ih =>
    intro s b h0 h1
    have hx := x.2.toNat_lt
    have h := ih (s * 256 + (x.2.toNat : Int)) (b * 256) (by omega) (by omega)
    have e : b * 256 ^ (x :: l).length = b * 256 * 256 ^ l.length := by rw [List.length_cons, Nat.pow_succ, Nat.mul_assoc, Nat.mul_comm (256 ^ l.length) 256]
    rw [e]
    exact h
/-- Four bytes are no negative number. -/
theorem rdN_nn (rest : List UInt8) (bad : Bool) (n : Nat) (hn : n ≤ 4) : 0 ≤ rdN rest bad n := by
  unfold rdN unle
  have hl := tk_le rest bad n
  obtain ⟨xs, hx⟩ : ∃ xs, upto (bk (tk rest bad n)) (tk rest bad n).length = xs := ⟨_, rfl⟩
  have hxl : xs.length ≤ 4 := by rw [← hx, upto_length]; omega
  rw [hx, foldR xs 0 0 (by unfold wrap64; omega)]
  obtain ⟨h1, h2⟩ := hvs_bnd xs 0 1 (by omega) (by omega)
  have h3 : 256 ^ xs.length ≤ 256 ^ 4 := Nat.pow_le_pow_right (by omega) hxl
  unfold wrap64
  omega
section
variable {n N : Nat} {w wm w1 w2 : World} {l l' : Lt} {s s' : Sl} {rest : List UInt8} {bad : Bool}
theorem LIn.any (h : LIn w wm w1 l s rest) (hN : rest.length ≤ N) : LIb w wm w1 N l s := ⟨h.blk, ⟨rest, false, hN, h.st⟩, h.res, h.lo, h.sz, h.msz, h.mem⟩
theorem LIb.known (h : LIb w wm w1 N l s) (hr : RStL w1 (w.heap.size + 2) (w.heap.size + 1) w.heap.size rest false) : LIn w wm w1 l s rest := ⟨h.blk, hr, h.res, h.lo, h.sz, h.msz, h.mem⟩
theorem LIb.row (h : LIb w wm w1 N l s) : Row w1 (w.heap.size + 1) (ltVal l s) := Row.of_blk h.blk
theorem LIb.froz (h : LIb w wm w1 N l s) (i : Nat) : w1.frozen? ⟨w.heap.size + 1, i, none⟩ = false := frozen_of_row w1 (w.heap.size + 1) i _ _ h.blk
theorem LIb.rdr (h : LIb w wm w1 N l s) : w1.cell? ⟨w.heap.size + 3, 0, none⟩ = some (pt (w.heap.size + 1)) := by
  obtain ⟨_, _, _, A, c, hr, _⟩ := h.st
  exact cell_of_row w1 _ 0 _ _ _ hr.rd
theorem LIb.fn (h : LIb w wm w1 N l s) : w1.cell? ⟨w.heap.size + 3, 1, none⟩ = some (.func (.func 44) #[] #[pt (w.heap.size + 4), pt (w.heap.size + 2)]) := by
  obtain ⟨_, _, _, A, c, hr, _⟩ := h.st
  exact cell_of_row w1 _ 1 _ _ _ hr.rd
theorem LIb.grow (h : LIb w wm w1 N l s) (hb : Below w1.heap.size w1 w2) : LIb w wm w2 N l s :=
  have hs := h.sz
  ⟨(hb.block _ (by omega)).trans h.blk, (let ⟨r, b, h1, h2⟩ := h.st; ⟨r, b, h1, h2.below hb (by omega) (by omega)⟩), (hb.block _ (by omega)).trans h.res, below_trans h.lo hb, Nat.lt_of_lt_of_le h.sz hb.size, Nat.le_trans h.msz hb.size, fun k h1 h2 => (hb.block k (Nat.lt_of_lt_of_le h2 h.msz)).trans (h.mem k h1 h2)⟩
theorem LIb.read (h : LIb w wm w1 N l s) (hN : rest.length ≤ N) (hr : RStL w2 (w.heap.size + 2) (w.heap.size + 1) w.heap.size rest bad) (h3 : RKeep (w.heap.size + 2) w1 w2) : LIb w wm w2 N l s := by
  have hs := h.sz
  refine ⟨(h3.block _ (by omega) (by omega) (by omega)).trans h.blk, ⟨rest, bad, hN, hr⟩, (h3.block _ (by omega) (by omega) (by omega)).trans h.res, ?_, Nat.lt_of_lt_of_le h.sz h3.size, Nat.le_trans h.msz h3.size, fun k h1 h2 => (h3.block k (Nat.lt_of_lt_of_le h2 h.msz) (by omega) (by omega)).trans (h.mem k h1 h2)⟩
  exact ⟨h3.os.trans h.lo.os, h3.tape.trans h.lo.tape, h3.output.trans h.lo.output, Nat.le_trans h.lo.size h3.size, fun k hk => (h3.block k (by omega) (by omega) (by omega)).trans (h.lo.block k hk)⟩
theorem tkR_le (rest : List UInt8) (bad : Bool) (n : Nat) : (tkR rest bad n).length ≤ rest.length := by unfold tkR; split <;> simp
theorem LIb.number (h : LIb w wm w1 N l s) (h8 : n ≤ 8) :
    Calls Tryz.prog 15 #[pt (w.heap.size + 3), I n] w1 fun e w2 => ∃ x, e = .returned (I x) ∧ (n ≤ 4 → 0 ≤ x) ∧ LIb w wm w2 N l s := by
  obtain ⟨rest, bad, hN, hr⟩ := h.st
  refine (rnumber_anyL w1 (w.heap.size + 2) (w.heap.size + 1) w.heap.size n rest bad (by omega) (by have := h.sz; omega) hr h8).mono fun e w2 ⟨h1, h2, h3⟩ => ?_
  exact ⟨_, h1, fun h4 => rdN_nn _ _ _ h4, h.read (Nat.le_trans (tkR_le _ _ _) hN) h2 h3⟩
theorem LIb.number8 (h : LIb w wm w1 N l s) : Calls Tryz.prog 15 #[pt (w.heap.size + 3), I 8] w1 fun e w2 => ∃ x, e = .returned (I x) ∧ LIb w wm w2 N l s :=
  (LIb.number (n := 8) h (by omega)).mono fun _ _ ⟨x, h1, _, h2⟩ => ⟨x, h1, h2⟩
theorem LIb.number1 (h : LIb w wm w1 N l s) : Calls Tryz.prog 15 #[pt (w.heap.size + 3), I 1] w1 fun e w2 => ∃ x, e = .returned (I x) ∧ LIb w wm w2 N l s :=
  (LIb.number (n := 1) h (by omega)).mono fun _ _ ⟨x, h1, _, h2⟩ => ⟨x, h1, h2⟩
theorem LIb.store (h : LIb w wm w1 N l s) {o : Nat} {v : Value} (hl : ltVal l' s' = (ltVal l s).setIfInBounds o v) : LIb w wm (w1.setCell ⟨w.heap.size + 1, o, none⟩ v) N l' s' := by
  have hs := h.sz
  have hb : Below (w.heap.size + 1) w1 (w1.setCell ⟨w.heap.size + 1, o, none⟩ v) := (Below.refl _ w1).setCell (p := ⟨w.heap.size + 1, o, none⟩) (Nat.le_refl _) _
  refine ⟨?_, ?_, (hb.block _ (by omega)).trans h.res, h.lo.trans (hb.mono (by omega)), Nat.lt_of_lt_of_le h.sz hb.size, Nat.le_trans h.msz hb.size, fun k h1 h2 => (heap_setCell_other w1 _ k _ (by show k ≠ w.heap.size + 1; omega)).trans (h.mem k h1 h2)⟩
  · rw [heap_setCell_same w1 _ o _ _ _ h.blk, hl]
  · obtain ⟨rest, bad, hN, A, c, hr, h1, h2, h3, h4⟩ := h.st
    exact ⟨rest, bad, hN, A, c, ⟨(heap_setCell_other w1 _ _ _ (by simp)).trans hr.rest, (heap_setCell_other w1 _ _ _ (by simp)).trans hr.rd, (heap_setCell_other w1 _ _ _ (by simp)).trans hr.var⟩, h1, h2, h3.keep (hb.mono (by omega)), h4⟩
theorem LIb.draw (h : LIb w wm w1 N l s) : LIb w wm w1.drew N l s :=
  ⟨h.blk, by obtain ⟨rest, bad, hN, A, c, hr, h1, h2, h3, h4⟩ := h.st; exact ⟨rest, bad, hN, A, c, hr.draw, h1, h2, h3, h4⟩, h.res, ⟨h.lo.os, h.lo.tape, h.lo.output, h.lo.size, h.lo.block⟩, h.sz, h.msz, h.mem⟩
theorem LIb.rebase (h : LIb w wm w1 N l s) : LIb w w1 w1 N l s := ⟨h.blk, h.st, h.res, h.lo, h.sz, Nat.le_refl _, fun _ _ _ => rfl⟩
theorem LIb.done (h : LIb w wm w1 N l s) : Calls Tryz.prog 45 #[pt (w.heap.size + 4), pt (w.heap.size + 2)] w1 fun e w' => (∃ q : Bool, e = .returned (.bool q)) ∧ w1 = w' := by
  obtain ⟨rest, bad, _, A, c, hr, _⟩ := h.st
  exact (done_any w1 (w.heap.size + 2) (w.heap.size + 1) A _ c bad hr).mono fun e w' ⟨h1, h2⟩ => ⟨⟨_, h1⟩, h2⟩
/-- take of more than there is, or where the reader has failed. -/
theorem LIb.takeNo (h : LIb w wm w1 N l s) (hN : rest.length ≤ N) (hr : RStL w1 (w.heap.size + 2) (w.heap.size + 1) w.heap.size rest bad) (hb : bad = true ∨ rest.length < n) :
    Calls Tryz.prog 44 #[I n, pt (w.heap.size + 4), pt (w.heap.size + 2)] w1 fun e w2 => e = .returned (.slice none 0 0) ∧ LIb w wm w2 N l s :=
  (take_anyL w1 (w.heap.size + 2) (w.heap.size + 1) w.heap.size rest bad n (by omega) (by have := h.sz; omega) hr).mono fun e w2 hp => by
    unfold TakePostL at hp
    rw [if_pos hb] at hp
    exact ⟨hp.1, h.read hN hp.2.1 hp.2.2⟩
end
set_option maxRecDepth 10000 in
/-- Four bytes are a number that was written with le. -/
theorem le_of4 (rest : List UInt8) (h : 4 ≤ rest.length) : ∃ x : Int, 0 ≤ x ∧ x < 4294967296 ∧ rest = le x 4 ++ rest.drop 4 := by
  match rest, h with
  | a :: b :: c :: d :: R, _ =>
    have h1 := a.toNat_lt
    have h2 := b.toNat_lt
    have h3 := c.toNat_lt
    have h4 := d.toNat_lt
    have key : ∀ (z : Int) (u : UInt8), z % 256 = (u.toNat : Int) → byteOf z = u := fun z u e => by
      apply UInt8.toNat_inj.1
      have := byteOf_nat z
      omega
    refine ⟨(a.toNat : Int) + 256 * (b.toNat : Int) + 65536 * (c.toNat : Int) + 16777216 * (d.toNat : Int), by omega, by omega, ?_⟩
    obtain ⟨x, hx⟩ : ∃ x : Int, (a.toNat : Int) + 256 * (b.toNat : Int) + 65536 * (c.toNat : Int) + 16777216 * (d.toNat : Int) = x := ⟨_, rfl⟩
    rw [hx]
    have e : le x 4 = [byteOf x, byteOf (x / 256), byteOf (x / 256 / 256), byteOf (x / 256 / 256 / 256)] := rfl
    rw [e, key x a (by omega), key (x / 256) b (by omega), key (x / 256 / 256) c (by omega), key (x / 256 / 256 / 256) d (by omega)]
    rfl
end Go.Proofs.YthhbbebabmemfaaGreat
