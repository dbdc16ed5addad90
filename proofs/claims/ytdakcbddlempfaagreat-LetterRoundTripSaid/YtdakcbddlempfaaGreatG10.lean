/- The texts RdG, RdY, RdZ, RtP, RtW, in this order. -/
import Derived.Test.YtdakcbddlempfaaGreatG09
import Derived.Deep.MidRow
import Derived.StillTailTactics
import Derived.Test.YtdakcbddlempfaaGreatG07
import Derived.Deep.DeepCutAuto
import Derived.Deep.CutBlock
/- (*letter.reader).series on known bytes. -/
namespace Go.Proofs.YtdakcbddlempfaaGreat
open Go Go.RowKit

section
variable {P : Program} {ops : Array Oper} {rest : List Oper} {o : Oper} {a : Act} {w : World} {Q : Exit → Act → World → Prop}
/-- A store of a whole struct into the newest variable. -/
theorem wpList_store_newrow {ob : Obj} (hgd : o.guard = none) (ty : TypeId) (x y : Operand) (ho : o.op = .store ty x y) (cells : Array Value) (hx : a.eval x = .pointer (some ⟨w.heap.size, 0, none⟩)) (hy : a.eval y = .agg cells) (t : TypeId) (old : Array Value) (hob : ob = .cells old t (0, 0)) (hi : (P.info? ty).map (·.size) = some cells.size) (hold : old.size = cells.size) (h1 : cells.all (·.oneCell') = true)
    (h : ∀ W, Below w.heap.size w W → w.heap.size < W.heap.size → Row W w.heap.size cells → wpList P ops Q rest (a.put o.dst undef) W) : wpList P ops Q (o :: rest) a (w.alloc ob) := by
  subst hob
  refine wpList_store_row hgd ty x y ho w.heap.size cells hx hy t old (heap_alloc_last w _) hi hold h1 (h _ (below_setRow (below_var w _) (Nat.le_refl _) _) (by simp [World.setRow]) (Row.of_blk (setRow_heap _ _ _ _ _ _ (heap_alloc_last w _))))
theorem wpList_store_midG (hgd : o.guard = none) (ty : TypeId) (x y : Operand) (ho : o.op = .store ty x y) (b off : Nat) (cells : Array Value) (hx : a.eval x = .pointer (some ⟨b, off, none⟩)) (hy : a.eval y = .agg cells) (ht : w.there b off cells.size) (hi : (P.info? ty).map (·.size) = some cells.size) (h1 : cells.all (·.oneCell') = true)
    (h : ∀ W, W = w.setCells b off cells.toList → wpList P ops Q rest (a.put o.dst undef) W) : wpList P ops Q (o :: rest) a w :=
  wpList_store_mid hgd ty x y ho b off cells hx hy ht hi h1 (h _ rfl)
/-- A load of a whole struct, in a region that draws and only reads. -/
theorem wpStill_load_Row {Q : Act → Prop} (hw : Region.wanted o (yielded ops a.tmps) = true) (ty : TypeId) (x : Operand) (ho : o.op = .load ty x) (g : Nat) (hx : a.eval x = .pointer (some ⟨g, 0, none⟩)) (cs : Array Value) (hr : Row w g cs)
    (d : TypeDesc) (hu : P.underlying ty = some d) (hd : d.isRow = true) (hi : (P.info? ty).map (·.size) = some cs.size)
    (h : wpStill P ops w Q rest (a.put o.dst (.agg cs))) : wpStill P ops w Q (o :: rest) a := by
  refine wpStill_step fun K hK => ?_
  rw [if_pos hw]
  have hc : w.rangeAt g 0 cs.toList := fun j v hv => by rw [Nat.zero_add, hr.2 j]; simpa using hv
  unfold Oper.still execOp
  simp only [ho, hx, Instr.loadAt, Instr.sureAddr, Sem.run_bind, Sem.run_pure, Result.andThen_ok, run_loadVar_mid w g 0 ty cs.toList d hc hu hd (by rw [hi]; simp)]
  exact ⟨rfl, hK _ (by simpa using h)⟩
end
theorem setCells_blk : ∀ (vs : List Value) (w : World) (b o : Nat) (cs : Array Value) (t : TypeId), w.heap[b]? = some (.cells cs t (0, 0)) → (w.setCells b o vs).heap[b]? = some (.cells (putAll cs o vs) t (0, 0))
  | [], _, _, _, _, _, h => h
  | v :: r, w, b, o, _, t, h => setCells_blk r _ b (o + 1) _ t (heap_setCell_same w b o _ _ v h)
theorem setCells_env : ∀ (vs : List Value) (w : World) (b o : Nat), (w.setCells b o vs).os = w.os ∧ (w.setCells b o vs).tape = w.tape ∧ (w.setCells b o vs).output = w.output
  | [], _, _, _ => ⟨rfl, rfl, rfl⟩
  | v :: r, w, b, o => setCells_env r (w.setCell ⟨b, o, none⟩ v) b (o + 1)
section
variable {w wm w1 w2 : World} {l l' : Lt} {s s' : Sl} {R : List UInt8}
theorem LIn.setAll (h : LIn w wm w1 l s R) {vs : List Value} {o : Nat} (e : putAll (ltVal l s) o vs = ltVal l' s') : LIn w wm (w1.setCells (w.heap.size + 1) o vs) l' s' R := by
  obtain ⟨e1, e2, e3⟩ := setCells_env vs w1 (w.heap.size + 1) o
  exact h.turn (by rw [setCells_blk vs w1 (w.heap.size + 1) o _ _ h.blk, e]) e1 e2 e3 (Nat.le_of_eq (setCells_size vs w1 (w.heap.size + 1) o).symm) fun k _ hk => setCells_other vs w1 (w.heap.size + 1) o k hk
theorem LIn.there (h : LIn w wm w1 l s R) (o n : Nat) (hn : o + n ≤ (ltVal l s).size) : w1.there (w.heap.size + 1) o n := by
  intro j hj
  refine ⟨?_, h.froz _⟩
  rw [h.row.2, Array.getElem?_eq_getElem (by omega)]; rfl
theorem LIn.take0 (h : LIn w wm w1 l s R) :
    Calls Tryz.prog 57 #[I 0, pt (w.heap.size + 4), pt (w.heap.size + 2)] w1 fun e w2 => ∃ A c, e = .returned (.slice A 0 c) ∧ LIn w wm w2 l s R :=
  (LIn.take (xs := []) (n := 0) h rfl).mono fun _ _ ⟨A, c, h1, _, _, _, h5⟩ => ⟨A, c, h1, h5⟩
theorem LIn.takeN {N : Nat} {bs : List UInt8} (h : LIn w wm w1 l s (bs ++ R)) (hN : bs.length = N) (h0 : 0 < N) :
    Calls Tryz.prog 57 #[I N, pt (w.heap.size + 4), pt (w.heap.size + 2)] w1 fun e w2 => ∃ b off c, e = .returned (.slice (some ⟨b, off, none⟩) N c) ∧ b < w.heap.size ∧ (∀ j, j < N → w2.cell? ⟨b, off + j, none⟩ = some (Extern.Stop.cell (bs[j]?.getD 0))) ∧ LIn w wm w2 l s R :=
  (h.take hN).mono fun e w2 ⟨A, c, h1, _, _, h4, h5⟩ => by
    obtain ⟨b, off, rfl, hb, hc⟩ := bytes_some h4 (by omega)
    exact ⟨b, off, c, h1, hb, fun j hj => hc j (by omega), h5⟩
end
set_option maxRecDepth 10000 in
set_option maxHeartbeats 2000000 in
theorem rseries_none (w wm w1 : World) (l : Lt) (s : Sl) (R : List UInt8) (h : LIn w wm w1 l s (le 0 4 ++ R)) :
    Calls Tryz.prog 33 #[pt (w.heap.size + 3)] w1 fun e w2 => e = .returned (.tuple #[]) ∧ LIn w wm w2 l s R := by
  have H0 := Lib.hid h
  clear h
  go_enter Tryz.func33, Tryz.ntmps33
  go_wp2_with fail
  refine (H0.out.number4 (by omega) (by omega)).mono ?_
  rintro e w2 ⟨rfl, h2⟩
  have H2 := Lib.hid h2
  have hc2 := h2.rdr
  have hf2 := h2.fn
  clear h2 H0
  go_wp2_with fail
  refine H2.out.take0.mono ?_
  rintro e w3 ⟨A, c, rfl, h3⟩
  have H3 := Lib.hid h3
  clear h3 H2 hc2 hf2
  go_wp2_with fail
  go_end0
  exact ⟨rfl, H3.out⟩
def RgPost (w wm : World) (l : Lt) (s : Sl) (se : Ser) (R : List UInt8) (e : Ending) (w2 : World) : Prop :=
  e = .returned (.tuple #[]) ∧ ∃ A c B d ns, LIn w wm w2 { l with series := se } { s with A := A, c := c, B := B, d := d } R ∧ ns.map (·.d) = se.rule ∧ RuleIs wm.heap.size w2 (.slice A se.rule.length c) ns ∧ w2.ownsRow wm.heap.size 26 5 (.slice B se.moves.length d) se.moves.length (mvsCells se.moves)
set_option maxRecDepth 10000 in
set_option maxHeartbeats 2000000 in
theorem rseries_some (w wm w1 : World) (l : Lt) (s : Sl) (R : List UInt8) (se : Ser) (N : Nat) (hn64 : se.rule.length ≤ 64) (hg : SerGood se) (hok : ∀ ns : List NdV, ns.map (·.d) = se.rule → RuleOK ns) (hfit : ∀ d ∈ se.rule, NdFit d) (hmf2 : ∀ x ∈ se.moves, ∀ z ∈ mvNums x, fits z) (hN : (seBytes se).length = N) (hN0 : 0 < N) (hN2 : N ≤ 10000000)
    (hwm : w.heap.size + 4 < wm.heap.size) (hl : l.ref.length = 32) (h : LIn w wm w1 l s (le (N : Int) 4 ++ (seBytes se ++ R))) :
    Calls Tryz.prog 33 #[pt (w.heap.size + 3)] w1 (RgPost w wm l s se R) := by
  have H0 := Lib.hid h
  have HN := Lib.hid hN
  have HZ : Hid ((ltVal l s).size = 62) := Lib.hid (lt_size _ _ _ _ hl)
  have HR : Hid (∀ W b off c, b < W.heap.size → (∀ j, j < N → W.cell? ⟨b, off + j, none⟩ = some (Extern.Stop.cell ((seBytes se)[j]?.getD 0))) → Calls Tryz.prog 60 #[.slice (some ⟨b, off, none⟩) N c] W (SrPost W se)) :=
    Lib.hid fun W b off c hb hA => seriesRead_yes W se b off c _ _ N rfl rfl hn64 hg hok hfit hmf2 hN hN0 hN2 hb hA
  have hNp : (0 : Int) < (N : Int) := by omega
  clear h hN hg hok hfit hmf2 hl hn64
  go_enter Tryz.func33, Tryz.ntmps33
  go_wp2_with fail
  refine (H0.out.number4 (by omega) (by omega)).mono ?_
  rintro e w2 ⟨rfl, h2⟩
  have H2 := Lib.hid h2
  have hc2 := h2.rdr
  have hf2 := h2.fn
  clear h2 H0
  go_wp2_with fail
  refine (H2.out.takeN HN.out hN0).mono ?_
  rintro e w3 ⟨b, off, c, rfl, hb, hcl, h3⟩
  have H3 := Lib.hid h3
  have HRD : Hid (Calls Tryz.prog 60 #[.slice (some ⟨b, off, none⟩) N c] w3 (SrPost w3 se)) := Lib.hid (HR.out w3 b off c (Nat.lt_of_lt_of_le hb h3.lo.size) hcl)
  clear h3 H2 hc2 hf2 hcl HR hb
  go_wp2_with fail
  refine HRD.out.mono ?_
  rintro e w4 ⟨A, n, c2, B, m, ec, ns, rfl, rfl, rfl, hmap, hrule, hmov, hb4⟩
  have HM := Lib.hid hmap
  have HRU := Lib.hid hrule
  have HMV := Lib.hid hmov
  have H4 := Lib.hid (H3.out.grow hb4)
  have HMS : Hid (wm.heap.size ≤ w3.heap.size) := Lib.hid H3.out.msz
  have HSZ4 : Hid (w3.heap.size ≤ w4.heap.size) := Lib.hid hb4.size
  clear hmap hrule hmov hb4 H3 HRD
  rw [show serP (.slice A se.rule.length c2) se.minute se.length se.zone se.gap se.fold (.slice B se.moves.length ec) = seC se A B c2 ec from rfl]
  go_wp2_with (first
    | (with_reducible refine g_alloc 31 ?_; refine wpList_alloc_as rfl _ rfl zSerC (by kernel_rfl) ?_)
    | (with_reducible refine g_store 31 ?_; refine wpList_store_newrow rfl _ _ _ rfl (seC se A B c2 ec) rfl rfl 31 zSerC rfl (se_size _ _ _ _ _) rfl (se_one _ _ _ _ _) ?_; intro W5 hb5 hl5 hr5; have H5 := Lib.hid (H4.out.grow hb5); have HB5 := Lib.hid hb5; have HR5 := Lib.hid hr5; have hc5 := H5.out.rdr; clear hb5 hr5))
  go_still_tail 7, (by kernel_rfl)
  have HT : Hid (W5.drew.there (w.heap.size + 1) 17 (seC se A B c2 ec).size) := Lib.hid (H5.out.draw.there 17 7 (by rw [HZ.out]; omega))
  have HRD5 : Hid (Row W5.drew w4.heap.size (seC se A B c2 ec)) := Lib.hid ⟨HR5.out.1, HR5.out.2⟩
  refine wpStill_load_Row rfl _ _ rfl w4.heap.size rfl (seC se A B c2 ec) HRD5.out _ Tryz.underlying31 rfl (se_size _ _ _ _ _) ?_
  repeat still_step
  refine wpStill_nil ?_
  change wpList _ _ _ _ _ W5.drew
  go_wp2_with (first
    | (with_reducible refine g_store 31 ?_; refine wpList_store_midG rfl _ _ _ rfl (w.heap.size + 1) 17 (seC se A B c2 ec) rfl rfl HT.out (se_size _ _ _ _ _) (se_one _ _ _ _ _) ?_; intro W6 e6; have H6 : Hid (LIn w wm W6 { l with series := se } { s with A := A, c := c2, B := B, d := ec } R) := Lib.hid (by rw [e6]; exact H5.out.draw.setAll (put_series _ _ _ _ _ _ _)); have HE6 := Lib.hid e6; have hc6 := H6.out.fine; have hf6 := H6.out.rfroz 2; have hr6 := H6.out.rdr; clear e6))
  go_end0
  have hsz6 : w4.heap.size ≤ W6.heap.size := by rw [HE6.out, setCells_size]; exact HB5.out.size
  have hsz7 : w4.heap.size ≤ (W6.setCell ⟨w.heap.size + 3, 2, none⟩ (.bool false)).heap.size := by simpa [World.setCell] using hsz6
  have hbl : ∀ k, wm.heap.size ≤ k → k < w4.heap.size → (W6.setCell ⟨w.heap.size + 3, 2, none⟩ (.bool false)).heap[k]? = w4.heap[k]? := fun k h1 h2 => by
    rw [heap_setCell_other _ _ k _ (by show k ≠ w.heap.size + 3; omega), HE6.out, setCells_other _ _ _ _ k (by omega)]
    exact HB5.out.block k h2
  have hms := HMS.out
  refine ⟨rfl, A, c2, B, ec, ns, H6.out.setFine, HM.out, ?_, ?_⟩
  · exact (HRU.out.of_blocks hsz7 fun k h1 h2 => hbl k (by omega) h2).lower hms
  · exact ownsRow_base' (ownsRow_blocks HMV.out fun k h1 h2 => hbl k (by omega) h2) hms
end Go.Proofs.YtdakcbddlempfaaGreat

/- letter.Read of known bytes: what holds between its steps. -/
namespace Go.Proofs.YtdakcbddlempfaaGreat
open Go Go.RowKit

/-- A letter that can be read back from ltBytes L sb. -/
structure RdOK (L : Lt) (sb : List UInt8) : Prop where
  kind : 0 ≤ L.kind ∧ L.kind < 256
  src : 0 ≤ L.src ∧ L.src < 256
  dst : 0 ≤ L.dst ∧ L.dst < 256
  fit : LtFits L
  ref : L.ref.length = 32
  cells : ∀ z ∈ L.cells, 0 ≤ z ∧ z ≤ 255
  clen : L.cells.length ≤ 65536
  zero : ∀ k : Nat, k < 17 → usesB L.kind k = false → FldZ L k
  ser : (sb = le 0 4 ∧ L.series = zSer) ∨ (∃ N : Nat, sb = le (N : Int) 4 ++ seBytes L.series ∧ (seBytes L.series).length = N ∧ 0 < N ∧ N ≤ 10000000 ∧ L.series.rule.length ≤ 64 ∧ SerGood L.series ∧ (∀ ns : List NdV, ns.map (·.d) = L.series.rule → RuleOK ns) ∧ (∀ d ∈ L.series.rule, NdFit d) ∧ ∀ x ∈ L.series.moves, ∀ z ∈ mvNums x, fits z)
theorem LtMem.of_blocks {lo : Nat} {w w' : World} {l : Lt} {s : Sl} {ns : List NdV} (h : LtMem lo w l s ns) (hs : w.heap.size ≤ w'.heap.size) (hb : ∀ k, lo ≤ k → k < w.heap.size → w'.heap[k]? = w.heap[k]?) : LtMem lo w' l s ns :=
  ⟨h.rule.of_blocks hs hb, h.names, ownsRow_blocks h.moves hb, ownsRow_blocks h.cells hb⟩
theorem LtMem.lower {lo lo' : Nat} {w : World} {l : Lt} {s : Sl} {ns : List NdV} (h : LtMem lo w l s ns) (hl : lo' ≤ lo) : LtMem lo' w l s ns :=
  ⟨h.rule.lower hl, h.names, ownsRow_base' h.moves hl, ownsRow_base' h.cells hl⟩
theorem LtMem.other {lo : Nat} {w : World} {l l' : Lt} {s : Sl} {ns : List NdV} (h : LtMem lo w l s ns) (h1 : l'.series = l.series) (h2 : l'.cells = l.cells) : LtMem lo w l' s ns :=
  ⟨by rw [h1]; exact h.rule, by rw [h1]; exact h.names, by rw [h1]; exact h.moves, by rw [h2]; exact h.cells⟩
/-- The fields below k are read; the reader's methods lie at block fa. -/
structure RyAt (w : World) (L : Lt) (sb : List UInt8) (fa k : Nat) (s : Sl) (ns : List NdV) (wr : World) : Prop where
  inn : LIn w wr wr (lowTo L k) s (fldsFrom L sb k)
  mem : LtMem (w.heap.size + 5) wr (lowTo L k) s ns
  row : Row wr fa (rFns (w.heap.size + 3))
  far : w.heap.size + 5 ≤ fa
  nil : k ≤ 15 → s.C = none ∧ s.e = 0
section
variable {w wr w2 : World} {L : Lt} {sb : List UInt8} {fa k : Nat} {s s' : Sl} {ns ns' : List NdV}
theorem Row.of_blocks {b : Nat} {cs : Array Value} (h : Row wr b cs) (hs : wr.heap.size ≤ w2.heap.size) (hb : w2.heap[b]? = wr.heap[b]?) : Row w2 b cs :=
  ⟨Nat.lt_of_lt_of_le h.1 hs, fun i => (World.cell?_of_block (a := ⟨b, i, none⟩) hb).trans (h.2 i)⟩
theorem RyAt.turn (h : RyAt w L sb fa k s ns wr) (h2 : LIn w wr w2 (lowTo L (k + 1)) s (fldsFrom L sb (k + 1))) (hm : LtMem (w.heap.size + 5) w2 (lowTo L (k + 1)) s ns) (hk : k + 1 ≤ 15 → s.C = none ∧ s.e = 0) : RyAt w L sb fa (k + 1) s ns w2 :=
  ⟨h2.rebase, hm, h.row.of_blocks h2.msz (h2.mem _ h.far h.row.1), h.far, hk⟩
theorem RyAt.grow (h : RyAt w L sb fa k s ns wr) (hb : Below wr.heap.size wr w2) : RyAt w L sb fa k s ns w2 :=
  ⟨(h.inn.grow hb).rebase, h.mem.of_blocks hb.size fun j _ h2 => hb.block j h2, h.row.keep hb, h.far, h.nil⟩
theorem lowTo_ser (L : Lt) (k : Nat) (h : k ≠ 10) : (lowTo L (k + 1)).series = (lowTo L k).series := by
  unfold lowTo
  dsimp only
  by_cases h1 : 10 < k
  · rw [if_pos h1, if_pos (by omega)]
  · rw [if_neg h1, if_neg (by omega)]
theorem lowTo_cel (L : Lt) (k : Nat) (h : k ≠ 15) : (lowTo L (k + 1)).cells = (lowTo L k).cells := by
  unfold lowTo
  dsimp only
  by_cases h1 : 15 < k
  · rw [if_pos h1, if_pos (by omega)]
  · rw [if_neg h1, if_neg (by omega)]
/-- A field that is no slice has been read. -/
theorem RyAt.next (h : RyAt w L sb fa k s ns wr) (h1 : k ≠ 10) (h2 : k ≠ 15) (h3 : LIn w wr w2 (lowTo L (k + 1)) s (fldsFrom L sb (k + 1))) : RyAt w L sb fa (k + 1) s ns w2 :=
  h.turn h3 ((h.mem.of_blocks h3.msz h3.mem).other (lowTo_ser L k h1) (lowTo_cel L k h2)) fun hk => h.nil (by omega)
theorem RyAt.skip (hr : RdOK L sb) (h : RyAt w L sb fa k s ns wr) (hk : k < 17) (hu : usesB L.kind k = false) : RyAt w L sb fa (k + 1) s ns wr := by
  have e := lowTo_skip L k hk (hr.zero k hk hu)
  have e2 := fldsFrom_skip L sb k hk hu
  refine ⟨?_, ?_, h.row, h.far, fun hk => h.nil (by omega)⟩
  · rw [← e, ← e2]; exact h.inn
  · rw [← e]; exact h.mem
theorem RyAt.num (hr : RdOK L sb) (h : RyAt w L sb fa k s ns wr) (hk : k < 17) (hu : usesB L.kind k = true) {o : Nat} (ho : numOff k = some o) :
    Calls Tryz.prog 31 #[pt (w.heap.size + 3), I 8] wr fun e w2 => e = .returned (I (numF L k)) ∧ (∃ u, w2.cell? ⟨w.heap.size + 1, o, none⟩ = some u) ∧ w2.frozen? ⟨w.heap.size + 1, o, none⟩ = false ∧ RyAt w L sb fa (k + 1) s ns (w2.setCell ⟨w.heap.size + 1, o, none⟩ (I (numF L k))) := by
  have hi := h.inn
  rw [fldsFrom_num L sb k hk hu (by rw [ho]; rfl)] at hi
  refine (hi.number8 (hr.fit.num k hk)).mono fun e w2 ⟨h1, h2⟩ => ⟨h1, ?_, h2.froz o, ?_⟩
  · exact ⟨_, (h2.row.2 o).trans (lt_num (lowTo L k) _ _ _ k o hk ho)⟩
  · refine h.next ?_ ?_ (h2.store ?_)
    · rintro rfl; cases ho
    · rintro rfl; cases ho
    · rw [← lowTo_num L k hk (by rw [ho]; rfl)]
      exact ltVal_setNum _ _ _ k o hk ho
theorem RyAt.f9 (hr : RdOK L sb) (h : RyAt w L sb fa 9 s ns wr) (hu : usesB L.kind (9 : Nat) = true) :
    Calls Tryz.prog 32 #[pt (w.heap.size + 3)] wr fun e w2 => e = .returned (.tuple #[]) ∧ RyAt w L sb fa 10 s ns w2 := by
  have hi := h.inn
  rw [fldsFrom_9 L sb hu] at hi
  obtain ⟨f1, f2, f3, f4⟩ := hr.fit.mv
  have e9 := lowTo_9 L
  obtain ⟨m, hm⟩ : ∃ m, L.move = m := ⟨_, rfl⟩
  rw [hm] at hi f1 f2 f3 f4 e9
  obtain ⟨dy, dr, td, mi, ln⟩ := m
  cases dr with
  | false => exact (rmove_no w wr wr (lowTo L 9) s _ dy td mi ln f1 f2 f3 f4 hi).mono fun e w2 ⟨h1, h2⟩ => ⟨h1, h.next (by decide) (by decide) (by rw [e9] at h2; exact h2)⟩
  | true => exact (rmove_drop w wr wr (lowTo L 9) s _ dy td mi ln f1 f2 f3 f4 hi).mono fun e w2 ⟨h1, h2⟩ => ⟨h1, h.next (by decide) (by decide) (by rw [e9] at h2; exact h2)⟩
theorem RyAt.f14 (hr : RdOK L sb) (h : RyAt w L sb fa 14 s ns wr) (hu : usesB L.kind (14 : Nat) = true) :
    Calls Tryz.prog 34 #[pt (w.heap.size + 3)] wr fun e w2 => e = .returned (.tuple #[]) ∧ RyAt w L sb fa 15 s ns w2 := by
  have hi := h.inn
  rw [fldsFrom_14 L sb hu] at hi
  exact (rwindow_yes w wr wr (lowTo L 14) s _ L.wfrom L.wto hr.fit.wf.1 hr.fit.wf.2 hi).mono fun e w2 ⟨h1, h2⟩ => ⟨h1, h.next (by decide) (by decide) (by rw [lowTo_14] at h2; exact h2)⟩
theorem RyAt.f16 (hr : RdOK L sb) (h : RyAt w L sb fa 16 s ns wr) (hu : usesB L.kind (16 : Nat) = true) :
    Calls Tryz.prog 36 #[pt (w.heap.size + 3)] wr fun e w2 => e = .returned (.tuple #[]) ∧ RyAt w L sb fa 17 s ns w2 := by
  have hi := h.inn
  rw [fldsFrom_16 L sb hu] at hi
  exact (rref_yes w wr wr (lowTo L 16) s _ L.ref hr.ref (lowTo_ref L 16 hr.ref) hi).mono fun e w2 ⟨h1, h2⟩ => ⟨h1, h.next (by decide) (by decide) (by rw [lowTo_16] at h2; exact h2)⟩
theorem RyAt.f15 (hr : RdOK L sb) (h : RyAt w L sb fa 15 s ns wr) (hu : usesB L.kind (15 : Nat) = true) :
    Calls Tryz.prog 35 #[pt (w.heap.size + 3)] wr fun e w2 => e = .returned (.tuple #[]) ∧ ∃ s', RyAt w L sb fa 16 s' ns w2 := by
  have hi := h.inn
  rw [fldsFrom_15 L sb hu] at hi
  obtain ⟨n1, n2⟩ := h.nil (Nat.le_refl _)
  have hc0 : (lowTo L 15).cells = [] := by simp [lowTo]
  refine (rcells_yes w wr wr (lowTo L 15) s _ L.cells _ rfl hr.clen hr.cells hi.sz hc0 n1 n2 hi).mono fun e w2 ⟨h1, C, e', h2, h3⟩ => ⟨h1, { s with C := C, e := e' }, ?_⟩
  rw [lowTo_15] at h2
  have hs := hi.sz
  have hm := h.mem.of_blocks h2.msz h2.mem
  have hse := lowTo_ser L 15 (by decide)
  have hcc : (lowTo L 16).cells = L.cells := by simp [lowTo]
  refine ⟨h2.rebase, ⟨?_, ?_, ?_, ?_⟩, h.row.of_blocks h2.msz (h2.mem _ h.far h.row.1), h.far, fun hk => absurd hk (by decide)⟩
  · rw [hse]; exact hm.rule
  · rw [hse]; exact hm.names
  · rw [hse]; exact hm.moves
  · rw [hcc]; exact ownsRow_base' h3 (by omega)
theorem RyAt.f10 (hr : RdOK L sb) (h : RyAt w L sb fa 10 s ns wr) (hu : usesB L.kind (10 : Nat) = true) :
    Calls Tryz.prog 33 #[pt (w.heap.size + 3)] wr fun e w2 => e = .returned (.tuple #[]) ∧ ∃ s' ns', RyAt w L sb fa 11 s' ns' w2 := by
  have hi := h.inn
  rw [fldsFrom_10 L sb hu] at hi
  have hs := hi.sz
  rcases hr.ser with ⟨e1, e2⟩ | ⟨N, e1, hN, hN0, hN2, h64, hg, hok, hfit, hmf⟩
  · rw [e1] at hi
    have el : lowTo L 10 = lowTo L 11 := lowTo_skip L 10 (by decide) (by unfold FldZ; exact e2)
    refine (rseries_none w wr wr (lowTo L 10) s _ hi).mono fun e w2 ⟨h1, h2⟩ => ⟨h1, s, ns, ?_⟩
    rw [el] at h2
    refine h.turn h2 ?_ fun hk => h.nil (by omega)
    rw [← el]
    exact h.mem.of_blocks h2.msz h2.mem
  · rw [e1, List.append_assoc] at hi
    refine (rseries_some w wr wr (lowTo L 10) s _ L.series N h64 hg hok hfit hmf hN hN0 hN2 hs (lowTo_ref L 10 hr.ref) hi).mono fun e w2 ⟨h1, A, c, B, d, ns', h2, h3, h4, h5⟩ => ⟨h1, { s with A := A, c := c, B := B, d := d }, ns', ?_⟩
    rw [lowTo_10] at h2
    have hm := h.mem.of_blocks h2.msz h2.mem
    have hss : (lowTo L 11).series = L.series := by simp [lowTo]
    have hcc := lowTo_cel L 10 (by decide)
    refine ⟨h2.rebase, ⟨?_, ?_, ?_, ?_⟩, h.row.of_blocks h2.msz (h2.mem _ h.far h.row.1), h.far, fun hk => h.nil (by omega)⟩
    · rw [hss]; exact h4.lower (by omega)
    · rw [hss]; exact h3.symm
    · rw [hss]; exact ownsRow_base' h5 (by omega)
    · rw [hcc]; exact hm.cells
end
end Go.Proofs.YtdakcbddlempfaaGreat

/- letter.Read of the bytes of a letter that can be read back gives the letter. -/
namespace Go.Proofs.YtdakcbddlempfaaGreat
open Go Go.RowKit

theorem LIn.start {w w1 : World} {o : Obj} {A : Option Addr} {bs : List UInt8} {c : Nat} (ho : o = .cells (ltVal zLt zSl) 37 (0, 0)) (hrb : RBlk w1 (w.heap.size + 2) (w.heap.size + 1) A bs.length c false) (hsz : w.heap.size + 2 + 3 ≤ w1.heap.size)
    (hb : Below (w.heap.size + 2) ((w.alloc o).alloc o) w1) (hl : bs.length ≤ c) (hc : c ≤ 9223372036854775807) (hby : BytesAt w w.heap.size A bs) (hn : A = none → c = 0) : LIn w w1 w1 zLt zSl bs := by
  subst ho
  have h2 : Below w.heap.size w w1 := (((Below.refl _ w).alloc (Nat.le_refl _) _).alloc (by simp) _).trans (hb.mono (by omega))
  exact ⟨(hb.block _ (by omega)).trans (heap_alloc2_new w _ _), ⟨A, c, hrb, hl, hc, hby.keep h2, hn⟩, (hb.block _ (by omega)).trans (heap_alloc2_old w _ _), h2, by omega, Nat.le_refl _, fun _ _ _ => rfl⟩
theorem newReader_rdL (w : World) (A : Option Addr) (bs : List UInt8) (c : Nat) (hl : bs.length ≤ c) (hc : c ≤ 9223372036854775807) (hby : BytesAt w w.heap.size A bs) (hn : A = none → c = 0) :
    Calls Tryz.prog 30 #[pt (w.heap.size + 1), .slice A bs.length c] ((w.alloc (.cells (ltVal zLt zSl) 37)).alloc (.cells (ltVal zLt zSl) 37)) fun e w1 =>
      e = .returned (.tuple #[pt (w.heap.size + 3), .func (.func 58) #[] #[pt (w.heap.size + 4), pt (w.heap.size + 2)]]) ∧ LIn w w1 w1 zLt zSl bs := by
  refine (newReader_any (w.heap.size + 1) A bs.length c _).mono fun e w1 ⟨h1, h2, h3, h4⟩ => ?_
  have hs : ((w.alloc (.cells (ltVal zLt zSl) 37)).alloc (.cells (ltVal zLt zSl) 37)).heap.size = w.heap.size + 2 := by rw [World.size_alloc, World.size_alloc]
  rw [hs] at h1 h2 h3 h4
  exact ⟨h1, LIn.start rfl h2 h3 h4 hl hc hby hn⟩
theorem LIn.done {w wm w1 : World} {l : Lt} {s : Sl} (h : LIn w wm w1 l s []) : Calls Tryz.prog 58 #[pt (w.heap.size + 4), pt (w.heap.size + 2)] w1 fun e w' => e = .returned (.bool true) ∧ w1 = w' := by
  obtain ⟨A, c, hr, _⟩ := h.st
  exact done_any w1 (w.heap.size + 2) (w.heap.size + 1) A _ c false hr
def RyRel (w : World) (L : Lt) (sb : List UInt8) (fa : Nat) (i : Value) (wr : World) : Prop :=
  ∃ (k : Nat) (s : Sl) (ns : List NdV), k ≤ 17 ∧ i = .int .i64 k ∧ RyAt w L sb fa k s ns wr
def RyPost (w : World) (L : Lt) (e : Ending) (w' : World) : Prop := ∃ s ns, e = .returned (.tuple #[.agg (ltVal L s), I 0]) ∧ LtMem w.heap.size w' L s ns ∧ Below w.heap.size w w'
theorem RyAt.start {w w1 : World} {L : Lt} {sb : List UInt8} {fns : Array Value} {t : TypeId} (hf : fns = rFns (w.heap.size + 3)) (h : LIn w w1 w1 (lowTo L 0) zSl (fldsFrom L sb 0)) : RyAt w L sb w1.heap.size 0 zSl [] (w1.alloc (.cells fns t)) := by
  subst hf
  have hs := h.sz
  exact ⟨(h.grow (below_var w1 _)).rebase, ⟨⟨World.ownsRow_nil _ _ _ _, fun _ hx => nomatch hx⟩, rfl, World.ownsRow_nil _ _ _ _, World.ownsRow_nil _ _ _ _⟩, Row.new w1 _ _, by omega, fun _ => ⟨rfl, rfl⟩⟩
theorem zero_low (L : Lt) : { zLt with kind := L.kind, src := L.src, dst := L.dst } = lowTo L 0 := by simp [lowTo, zLt]
attribute [local go_sem] ltVal_get lt_get0 lt_get1 lt_get2
set_option maxRecDepth 10000 in
set_option maxHeartbeats 8000000 in
theorem read_yes (w : World) (A : Option Addr) (bs : List UInt8) (c : Nat) (L : Lt) (sb : List UInt8) (hl : bs.length ≤ c) (hc : c ≤ 9223372036854775807) (hby : BytesAt w w.heap.size A bs) (hn : A = none → c = 0) (hbs : bs = ltBytes L sb) (hr : RdOK L sb)
    (hB : ∀ w' s ns, LtMem (w.heap.size + 5) w' L s ns → Calls Tryz.prog 10 #[.agg (ltVal L s)] w' (BytesPost w' 0 bs)) :
    Calls Tryz.prog 11 #[.slice A bs.length c] w (RyPost w L) := by
  have HN := Lib.hid (newReader_rdL w A bs c hl hc hby hn)
  have HY := Lib.hid hby
  have HR := Lib.hid hr
  have HBC := Lib.hid hB
  have HBS : Hid (bs = le L.kind 1 ++ (le L.src 1 ++ (le L.dst 1 ++ fldsFrom L sb 0))) := Lib.hid (hbs.trans (ltBytes_read L sb))
  clear hby hn hB hr hbs
  go_enter Tryz.func11, Tryz.ntmps11
  go_wp2_with (first
    | (refine wpList_alloc_as rfl _ rfl (ltVal zLt zSl) lt_zero ?_)
    | (go_at_call 30; refine HN.out.mono ?_; rintro e w1 ⟨rfl, hi1⟩; rw [HBS.out] at hi1; have HI1 := Lib.hid hi1; clear hi1))
  refine (HI1.out.number1 HR.out.kind.1 HR.out.kind.2).mono ?_
  rintro e w2 ⟨rfl, hi2⟩
  have hr2 := hi2.row.2
  have hf2 := hi2.froz
  obtain ⟨x, hx⟩ : ∃ x, L.kind = x := ⟨_, rfl⟩
  have HI2 : Hid (LIn w w1 (w2.setCell ⟨w.heap.size + 1, 0, none⟩ (I x)) { zLt with kind := x } zSl (le L.src 1 ++ (le L.dst 1 ++ fldsFrom L sb 0))) := Lib.hid (hi2.store (set_kind zLt zSl x))
  have HX := Lib.hid hx
  rw [hx]
  clear hi2 HI1 hx
  go_wp2_with fail
  clear hr2 hf2
  refine (HI2.out.number1 HR.out.src.1 HR.out.src.2).mono ?_
  rintro e w3 ⟨rfl, hi3⟩
  have hr3 := hi3.row.2
  have hf3 := hi3.froz
  obtain ⟨y, hy⟩ : ∃ y, L.src = y := ⟨_, rfl⟩
  have HI3 : Hid (LIn w w1 (w3.setCell ⟨w.heap.size + 1, 1, none⟩ (I y)) { zLt with kind := x, src := y } zSl (le L.dst 1 ++ fldsFrom L sb 0)) := Lib.hid (hi3.store (set_src { zLt with kind := x } zSl y))
  have HYY := Lib.hid hy
  rw [hy]
  clear hi3 HI2 hy
  go_wp2_with fail
  clear hr3 hf3
  refine (HI3.out.number1 HR.out.dst.1 HR.out.dst.2).mono ?_
  rintro e w4 ⟨rfl, hi4⟩
  have hr4 := hi4.row.2
  have hf4 := hi4.froz
  obtain ⟨z, hz⟩ : ∃ z, L.dst = z := ⟨_, rfl⟩
  have hi4s : LIn w w1 (w4.setCell ⟨w.heap.size + 1, 2, none⟩ (I z)) { zLt with kind := x, src := y, dst := z } zSl (fldsFrom L sb 0) := hi4.store (set_dst { zLt with kind := x, src := y } zSl z)
  rw [← HX.out, ← HYY.out, ← hz, zero_low] at hi4s
  rw [hz]
  have HI4 : Hid (LIn w (w4.setCell ⟨w.heap.size + 1, 2, none⟩ (I z)) (w4.setCell ⟨w.heap.size + 1, 2, none⟩ (I z)) (lowTo L 0) zSl (fldsFrom L sb 0)) := Lib.hid (by rw [hz] at hi4s; exact hi4s.rebase)
  have hs4 : (w4.setCell ⟨w.heap.size + 1, 2, none⟩ (I z)).heap.size = w4.heap.size := by simp [World.setCell]
  have HG4 : Hid (RyAt w L sb w4.heap.size 0 zSl [] ((w4.setCell ⟨w.heap.size + 1, 2, none⟩ (I z)).alloc (.cells (rFns (w.heap.size + 3)) 65))) := Lib.hid (by rw [← hs4]; exact RyAt.start rfl HI4.out)
  clear hi4 hi4s HI3 HI4 hz hs4 HX HYY
  go_wp2_with (first
    | (refine wpList_build_as rfl _ rfl (rFns (w.heap.size + 3)) (by kernel_rfl) ?_)
    | (refine wpList_var_row rfl rfl _ _ _ rfl rfl rfl rfl _ (rFns (w.heap.size + 3)) (rFns_info _) rfl rfl rfl (rFns_one _) ?_)
    | (go_at_call 28; refine (numbers_any _ _).mono ?_; rintro e w5 ⟨rfl, hb5⟩; have HY5 := Lib.hid (HG4.out.grow hb5); clear hb5))
  clear hr4 hf4 HG4
  obtain ⟨fa, hfa⟩ : ∃ x, w4.heap.size = x := ⟨_, rfl⟩
  rw [hfa] at HY5 ⊢
  clear hfa
  go_loopw [38] (fun i wr => RyRel w L sb fa i wr) (fun i _ => 17 - (intOf i).toNat)
  case atStart => exact ⟨0, zSl, [], by omega, rfl, HY5.out⟩
  case round =>
    obtain ⟨k, s, ns, hk, rfl, hi⟩ := hrel
    have HI := Lib.hid hi
    clear hi HY5
    by_cases hlt : k < 17
    · have hk0 : wr.cell? ⟨w.heap.size + 1, 0, none⟩ = some (I L.kind) := HI.out.inn.row.2 0
      have hix := fun W => index_nums (w.heap.size + 1) k hlt W
      cases hu : usesB L.kind k
      · have HU := Lib.hid hu
        clear hu
        obtain ⟨q, hq⟩ : ∃ q, ptrAt (w.heap.size + 1) k = q := ⟨_, rfl⟩
        rw [hq] at hix
        clear hq
        go_wp2_with (go_at_call 29; refine (uses_any _ _ _ (by omega) (by omega)).mono ?_; rintro e w6 ⟨rfl, hb6⟩; have HI6 := Lib.hid (HI.out.grow hb6); rw [HU.out]; clear hb6)
        go_roundw
        case rel => exact ⟨k + 1, s, ns, by omega, by go_num, HI6.out.skip HR.out hlt HU.out⟩
        case measure => simp [intOf]; omega
      have HU := Lib.hid hu
      clear hu
      cases ho : numOff k with
      | some o =>
        have hp : ptrAt (w.heap.size + 1) k = .pointer (some ⟨w.heap.size + 1, o, none⟩) := by unfold ptrAt; rw [ho]; rfl
        rw [hp] at hix
        have HO := Lib.hid ho
        clear ho hp
        go_wp2_with (go_at_call 29; refine (uses_any _ _ _ (by omega) (by omega)).mono ?_; rintro e w6 ⟨rfl, hb6⟩; have HI6 := Lib.hid (HI.out.grow hb6); rw [HU.out]; clear hb6)
        refine (HI6.out.num HR.out hlt HU.out HO.out).mono ?_
        rintro e w7 ⟨rfl, ⟨v0, hc7⟩, hf7, hi7⟩
        have HI7 := Lib.hid hi7
        obtain ⟨v, hv⟩ : ∃ v, numF L k = v := ⟨_, rfl⟩
        rw [hv] at HI7 ⊢
        clear hi7 hv hk0
        go_wp2
        go_roundw
        case rel => exact ⟨k + 1, s, ns, by omega, by go_num, HI7.out⟩
        case measure => simp [intOf]; omega
      | none =>
        have hp : ptrAt (w.heap.size + 1) k = .pointer none := by unfold ptrAt; rw [ho]
        rw [hp] at hix
        have hks : k = 9 ∨ k = 10 ∨ k = 14 ∨ k = 15 ∨ k = 16 := none_at k hlt ho
        clear ho hp
        rcases hks with rfl | rfl | rfl | rfl | rfl
        · -- field 9: move
          have hix' : ∀ W, (Instr.index 67 (.agg (numPtrs (w.heap.size + 1))) (.int .i64 9)).run Tryz.prog W = .ok (.pointer none) W := hix
          clear hix
          go_wp2_with (first
            | (go_at_call 29; refine (uses_any _ _ _ (by omega) (by omega)).mono ?_; rintro e w6 ⟨rfl, hb6⟩; have HI6 := Lib.hid (HI.out.grow hb6); have hf6 : w6.cell? ⟨fa, 9, none⟩ = some (.func (.func 32) #[pt (w.heap.size + 3)] #[]) := HI6.out.row.2 9; first | rw [HU.out] | rw [show usesB L.kind 9 = true from HU.out]; clear hb6)
            | (go_at_call 32; refine (HI6.out.f9 HR.out HU.out).mono ?_; rintro e w7 ⟨rfl, h7⟩; have HI7 := Lib.hid h7; clear h7))
          go_roundw
          case rel => exact ⟨10, _, _, by omega, by go_num, HI7.out⟩
          case measure => simp [intOf]
        · -- field 10: series
          have hix' : ∀ W, (Instr.index 67 (.agg (numPtrs (w.heap.size + 1))) (.int .i64 10)).run Tryz.prog W = .ok (.pointer none) W := hix
          clear hix
          go_wp2_with (first
            | (go_at_call 29; refine (uses_any _ _ _ (by omega) (by omega)).mono ?_; rintro e w6 ⟨rfl, hb6⟩; have HI6 := Lib.hid (HI.out.grow hb6); have hf6 : w6.cell? ⟨fa, 10, none⟩ = some (.func (.func 33) #[pt (w.heap.size + 3)] #[]) := HI6.out.row.2 10; first | rw [HU.out] | rw [show usesB L.kind 10 = true from HU.out]; clear hb6)
            | (go_at_call 33; refine (HI6.out.f10 HR.out HU.out).mono ?_; rintro e w7 ⟨rfl, s7, ns7, h7⟩; have HI7 := Lib.hid h7; clear h7))
          go_roundw
          case rel => exact ⟨11, _, _, by omega, by go_num, HI7.out⟩
          case measure => simp [intOf]
        · -- field 14: window
          have hix' : ∀ W, (Instr.index 67 (.agg (numPtrs (w.heap.size + 1))) (.int .i64 14)).run Tryz.prog W = .ok (.pointer none) W := hix
          clear hix
          go_wp2_with (first
            | (go_at_call 29; refine (uses_any _ _ _ (by omega) (by omega)).mono ?_; rintro e w6 ⟨rfl, hb6⟩; have HI6 := Lib.hid (HI.out.grow hb6); have hf6 : w6.cell? ⟨fa, 14, none⟩ = some (.func (.func 34) #[pt (w.heap.size + 3)] #[]) := HI6.out.row.2 14; first | rw [HU.out] | rw [show usesB L.kind 14 = true from HU.out]; clear hb6)
            | (go_at_call 34; refine (HI6.out.f14 HR.out HU.out).mono ?_; rintro e w7 ⟨rfl, h7⟩; have HI7 := Lib.hid h7; clear h7))
          go_roundw
          case rel => exact ⟨15, _, _, by omega, by go_num, HI7.out⟩
          case measure => simp [intOf]
        · -- field 15: cells
          have hix' : ∀ W, (Instr.index 67 (.agg (numPtrs (w.heap.size + 1))) (.int .i64 15)).run Tryz.prog W = .ok (.pointer none) W := hix
          clear hix
          go_wp2_with (first
            | (go_at_call 29; refine (uses_any _ _ _ (by omega) (by omega)).mono ?_; rintro e w6 ⟨rfl, hb6⟩; have HI6 := Lib.hid (HI.out.grow hb6); have hf6 : w6.cell? ⟨fa, 15, none⟩ = some (.func (.func 35) #[pt (w.heap.size + 3)] #[]) := HI6.out.row.2 15; first | rw [HU.out] | rw [show usesB L.kind 15 = true from HU.out]; clear hb6)
            | (go_at_call 35; refine (HI6.out.f15 HR.out HU.out).mono ?_; rintro e w7 ⟨rfl, s7, h7⟩; have HI7 := Lib.hid h7; clear h7))
          go_roundw
          case rel => exact ⟨16, _, _, by omega, by go_num, HI7.out⟩
          case measure => simp [intOf]
        · -- field 16: ref
          have hix' : ∀ W, (Instr.index 67 (.agg (numPtrs (w.heap.size + 1))) (.int .i64 16)).run Tryz.prog W = .ok (.pointer none) W := hix
          clear hix
          go_wp2_with (first
            | (go_at_call 29; refine (uses_any _ _ _ (by omega) (by omega)).mono ?_; rintro e w6 ⟨rfl, hb6⟩; have HI6 := Lib.hid (HI.out.grow hb6); have hf6 : w6.cell? ⟨fa, 16, none⟩ = some (.func (.func 36) #[pt (w.heap.size + 3)] #[]) := HI6.out.row.2 16; first | rw [HU.out] | rw [show usesB L.kind 16 = true from HU.out]; clear hb6)
            | (go_at_call 36; refine (HI6.out.f16 HR.out HU.out).mono ?_; rintro e w7 ⟨rfl, h7⟩; have HI7 := Lib.hid h7; clear h7))
          go_roundw
          case rel => exact ⟨17, _, _, by omega, by go_num, HI7.out⟩
          case measure => simp [intOf]
    · have hke : k = 17 := by omega
      subst hke
      clear hlt hk HN
      have HIN : Hid (LIn w wr wr L s []) := Lib.hid (by have h := HI.out.inn; rw [lowTo_17, fldsFrom_end] at h; exact h)
      have HM : Hid (LtMem (w.heap.size + 5) wr L s ns) := Lib.hid (by have h := HI.out.mem; rw [lowTo_17] at h; exact h)
      have HW := Lib.hid HIN.out.row
      have HSZ := Lib.hid (size62 L s HR.out.ref)
      have HQE : Hid ((bs == bs) = true) := Lib.hid (by simp)
      clear HI
      go_wp2_with (first
        | (go_at_call 58; refine HIN.out.done.mono ?_; rintro e w8 ⟨rfl, rfl⟩)
        | (with_reducible refine g_load 37 ?_; refine wpList_load_Row rfl _ _ rfl (w.heap.size + 1) rfl (ltVal L s) HW.out _ Tryz.underlying37 rfl HSZ.out ?_)
        | (with_reducible refine g_load 37 ?_; refine wpList_load_Row rfl _ _ rfl (w.heap.size + 1) rfl (ltVal L s) HI9.out.row _ Tryz.underlying37 rfl HSZ.out ?_)
        | (go_at_call 10; refine (HBC.out _ _ _ HM.out).mono ?_; rintro e w9 ⟨h9, hb9⟩; rw [if_pos rfl] at h9; obtain ⟨v, rfl, hv⟩ := h9; obtain ⟨A9, c9, rfl, _, _, _, hby9⟩ := bytesAt_own hv; have HY9 := Lib.hid hby9; have HI9 := Lib.hid (HIN.out.grow hb9); have HB9 := Lib.hid hb9; clear hb9 hv hby9)
        | (go_at_call 37; refine (bytesEqual_any _ A9 A bs bs c9 c _ _ HY9.out (HY.out.keep HI9.out.lo)).mono ?_; rintro e w10 ⟨rfl, rfl⟩; rw [HQE.out])
        | (with_reducible refine g_store 37 ?_; refine wpList_store_row rfl _ _ _ rfl w.heap.size (ltVal L s) rfl rfl 37 (ltVal zLt zSl) HI9.out.res HSZ.out (sz_eq L s HR.out.ref) (ltVal_one _ _) ?_))
      refine bodyPost_ret (v := .tuple #[.agg (ltVal L s), I 0]) (results_row_tmp rfl _ _ w.heap.size _ (ltVal L s) (0, 0) _ rfl (setRow_heap _ _ _ _ _ _ HI9.out.res) Tryz.underlying37 rfl (size62 _ _ HR.out.ref) _ rfl) rfl ?_
      refine ⟨s, ns, rfl, (LtMem.of_blocks HM.out ?_ fun j h1 h2 => ?_).lower (by omega), below_setRow HI9.out.lo (Nat.le_refl _) _⟩
      · have h := HB9.out.size
        simpa [World.setRow] using h
      · rw [setRow_other _ _ j _ (by omega)]
        exact HB9.out.block j h2
end Go.Proofs.YtdakcbddlempfaaGreat

/- LetterRoundTrip: the plain part: a made letter's rule in other memory; letter.Read of the bytes of a letter with a made series; letter.Read of no bytes; kalendsref20.Same of one letter in two memories. -/
namespace Go.Proofs.YtdakcbddlempfaaGreat
open Go Go.RowKit

theorem movedN_swap (k : Int) (ms : List NdV) : ∀ b : List NdV, b.map (·.d) = (movedN k ms).map (·.d) → ∃ ms', movedN k ms' = b ∧ ms'.map (·.d) = ms.map (·.d) := by
  induction ms with
  | nil =>
    intro b h
    have : b = [] := by simpa [movedN] using h
    exact ⟨[], by rw [this]; rfl, rfl⟩
  | cons m ms ih =>
    intro b h
    cases b with
    | nil => simp [movedN] at h
    | cons y b =>
      unfold movedN at h
      rw [List.map_cons, List.map_cons, List.map_cons] at h
      injection h with h1 h2
      obtain ⟨ms', e1, e2⟩ := ih b h2
      refine ⟨⟨m.d, y.A, y.c⟩ :: ms', ?_, by rw [List.map_cons, List.map_cons, e2]⟩
      unfold movedN at *
      rw [List.map_cons, e1]
      congr 1
      obtain ⟨yd, yA, yc⟩ := y
      have h1 : yd = (mvd k m).d := h1
      rw [h1]
      rfl
theorem one_swap {b : List NdV} {d : Nd} (h : b.map (·.d) = [d]) : ∃ A c, b = [⟨d, A, c⟩] := by
  match b, h with
  | [y], h =>
    obtain ⟨yd, yA, yc⟩ := y
    have e : yd = d := by simpa using h
    exact ⟨yA, yc, by rw [e]⟩
theorem MRule.swap {cals : Int} {ns : List NdV} (h : MRule cals ns) : ∀ ns2 : List NdV, ns2.map (·.d) = ns.map (·.d) → MRule cals ns2 := by
  induction h with
  | leaf x h =>
    intro ns2 he
    obtain ⟨A, c, rfl⟩ := one_swap (d := x.d) he
    exact .leaf _ h
  | one ns x hn h ih =>
    intro ns2 he
    unfold overN at he
    rw [List.map_append] at he
    obtain ⟨a, b, rfl, ha, hb⟩ := List.map_eq_append_iff.1 he
    obtain ⟨A, c, rfl⟩ := one_swap hb
    have hl : a.length = ns.length := by have := congrArg List.length ha; simpa using this
    have h2 := MRule.one a ⟨x.d, A, c⟩ (ih a ha) h
    unfold overN at h2
    rw [hl] at h2
    exact h2
  | two ns ms x hn hm h ih1 ih2 =>
    intro ns2 he
    unfold bothN at he
    rw [List.map_append, List.map_append] at he
    obtain ⟨ab, c, rfl, hab, hc⟩ := List.map_eq_append_iff.1 he
    obtain ⟨a, b, rfl, ha, hb⟩ := List.map_eq_append_iff.1 hab
    obtain ⟨A, cc, rfl⟩ := one_swap hc
    obtain ⟨ms', rfl, hms⟩ := movedN_swap _ _ _ hb
    have hl : a.length = ns.length := by have := congrArg List.length ha; simpa using this
    have hl2 : ms'.length = ms.length := by have := congrArg List.length hms; simpa using this
    have h2 := MRule.two a ms' ⟨x.d, A, cc⟩ (ih1 a ha) (ih2 ms' hms) h
    unfold bothN at h2
    rw [hl, hl2] at h2
    exact h2
theorem mem_swap {ns ns2 : List NdV} (he : ns2.map (·.d) = ns.map (·.d)) {x : NdV} (hx : x ∈ ns2) : ∃ y ∈ ns, y.d = x.d := by
  have h : x.d ∈ ns.map (·.d) := by rw [← he]; exact List.mem_map_of_mem hx
  obtain ⟨y, hy, e⟩ := List.mem_map.1 h
  exact ⟨y, hy, e⟩
theorem SerOK.swap {ns ns2 : List NdV} {se : Ser} (h : SerOK ns se) (he : ns2.map (·.d) = ns.map (·.d)) : SerOK ns2 se :=
  { h with
    names := h.names.trans he.symm
    made := h.made.swap ns2 he
    len := by have := congrArg List.length he; have := h.len; simp at *; omega
    within := fun x hx => by obtain ⟨y, hy, e⟩ := mem_swap he hx; have := h.within y hy; rw [e] at this; exact this }
theorem MadeTo.names {bare : Bool} {l0 l : Lt} {j : Nat} {ns : List NdV} (h : MadeTo bare l0 j l ns) : ∀ ns2 : List NdV, ns2.map (·.d) = ns.map (·.d) → MadeTo bare l0 j l ns2 := by
  induction h with
  | zero =>
    intro ns2 he
    have : ns2 = [] := by simpa using he
    subst this
    exact .zero
  | skip _ hs ih => exact fun ns2 he => .skip (ih ns2 he) hs
  | @step j l l' ns ns' hm hs hf ih =>
    intro ns2 he
    rcases hf with ⟨a, x, b1, b2, b3, rfl, rfl⟩ | ⟨a, rfl, b⟩ | ⟨a, ⟨b, se, rfl, c⟩ | ⟨b1, b2, rfl, rfl⟩⟩ | ⟨a, rfl, b⟩ | ⟨a, rfl, b⟩ | ⟨a, rfl, b⟩
    · exact .step (ih ns2 he) hs (.inl ⟨a, x, b1, b2, b3, rfl, rfl⟩)
    · exact .step (ih ns2 he) hs (.inr (.inl ⟨a, rfl, b⟩))
    · exact .step hm hs (.inr (.inr (.inl ⟨a, .inl ⟨b, se, rfl, c.swap he⟩⟩)))
    · exact .step (ih ns2 he) hs (.inr (.inr (.inl ⟨a, .inr ⟨b1, b2, rfl, rfl⟩⟩)))
    · exact .step (ih ns2 he) hs (.inr (.inr (.inr (.inl ⟨a, rfl, b⟩))))
    · exact .step (ih ns2 he) hs (.inr (.inr (.inr (.inr (.inl ⟨a, rfl, b⟩)))))
    · exact .step (ih ns2 he) hs (.inr (.inr (.inr (.inr (.inr ⟨a, rfl, b⟩)))))
section
variable {l L : Lt} {ns ns2 : List NdV} {s t : Sl} {lo lo2 : Nat} {w : World}
theorem MadeLt.swap (h : MadeLt l ns) (he : ns2.map (·.d) = ns.map (·.d)) : MadeLt l ns2 := by
  obtain ⟨bare, k, f, t, l1, h1, h2, h3, h4, h5, h6, h7, h8, h9, h10⟩ := h.made
  exact ⟨⟨bare, k, f, t, l1, h1, h2, h3, h4, h5, h6, h7, h8, h9.names ns2 he, h10⟩, h.ref⟩
theorem MadeLt.names (h : MadeLt l ns) : l.series.rule = ns.map (·.d) := by
  obtain ⟨k, f, t, _, _, _, _, _, _, _, hv, _⟩ := h.inv
  rcases hv.ser with ⟨h1, h2⟩ | h1
  · rw [h1, h2]; rfl
  · exact h1.names
theorem VarOf.same (h : MadeLt l ns) : VarOf l l := ⟨rfl, rfl, h.ref⟩
theorem MadeLt.vc (h : MadeLt l ns) : vc l = 0 := by
  have hv := h.v
  unfold Go.Proofs.YtdakcbddlempfaaGreat.vc
  rw [h.head, hv.body, if_neg (by decide), if_neg (by decide)]
  rcases hv.ser with h1 | ⟨_, h2, _⟩
  · rw [h1, if_pos rfl]
  · rw [h2]; simp
/-- A valid letter with a made series can be read back. -/
theorem VarOf.rd (hl : MadeLt l ns) (hv : VarOf l L) (h0 : Go.Proofs.YtdakcbddlempfaaGreat.vc L = 0) : RdOK L (sbOf L) := by
  rcases vc_cases L with e | ⟨_, hh, hb⟩
  · rw [h0] at e; cases e
  obtain ⟨⟨k1, k2⟩, hsrc, hdst, _⟩ := headOK_iff hh
  have hsr : 0 ≤ L.src ∧ L.src < 16 := by unfold srvIn at hsrc; exact of_decide_eq_true hsrc
  have hds : 0 ≤ L.dst ∧ L.dst < 16 := by unfold srvIn at hdst; exact of_decide_eq_true hdst
  have hlen := hl.lens
  refine ⟨by omega, by omega, by omega, body_fits hh hb, hv.ref, body_cells hb, by rw [hv.cells]; omega, fun k hk hu => body_unused hb k hk hu, ?_⟩
  rcases hl.se with hs | hs
  · refine .inl ⟨?_, by rw [hv.ser, hs]⟩
    have hnz : nzOf L = true := by unfold nzOf; rw [hv.ser, hs]; rfl
    unfold sbOf
    rw [hnz]
    rfl
  · have hnz : nzOf L = false := hv.nz.trans hs.nz
    have hbl := seBytes_len hs
    rw [hv.ser]
    refine .inr ⟨(seBytes l.series).length, ?_, rfl, hbl.1, by omega, by omega, hs.good, fun ns2 he => (hs.swap (ns2 := ns2) (by rw [he]; exact hs.names)).rulesOK, by rw [hs.names]; exact rule_fits hs.rulesOK, fun x hx z hz => ?_⟩
    · unfold sbOf
      rw [hnz, hv.ser]
      rfl
    · obtain ⟨dd, d1, d2⟩ := hs.mok
      obtain ⟨⟨_, hm⟩, m1, m2⟩ := d2.ok x hx
      unfold mvNums at hz
      unfold fits
      simp only [List.mem_cons, List.not_mem_nil, or_false] at hz
      rcases hm with ⟨e, a, b, c⟩ | ⟨e, a, b, c, d, f, g⟩
      · rw [e, a, b, c] at hz
        rcases hz with rfl | rfl | rfl | rfl | rfl <;> first | omega | (simp; done) | (simp; omega)
      · rw [e] at hz
        rcases hz with rfl | rfl | rfl | rfl | rfl <;> first | omega | (simp; done) | (simp; omega)
/-- letter.Read of the bytes of a valid letter with a made series. -/
theorem read_var (hl : MadeLt l ns) (hv : VarOf l L) (h0 : Go.Proofs.YtdakcbddlempfaaGreat.vc L = 0) (A : Option Addr) (bs : List UInt8) (c : Nat) (hlen : bs.length ≤ c) (hc : c ≤ 9223372036854775807) (hby : BytesAt w w.heap.size A bs) (hn : A = none → c = 0) (hbs : bs = ltBytes L (sbOf L)) :
    Calls Tryz.prog 11 #[.slice A bs.length c] w (RyPost w L) :=
  read_yes w A bs c L (sbOf L) hlen hc hby hn hbs (hv.rd hl h0) fun w' s ns2 hm => by
    have hl2 := hl.swap (ns2 := ns2) (by rw [← hm.names, hv.ser, hl.names])
    have hm2 : LtMem (w.heap.size + 5) w' l s ns2 := hm.other hv.ser.symm hv.cells.symm
    have h := bytes_var hl2 hm2 (by omega) hv
    rw [h0, ← hbs] at h
    exact h
theorem rdTo_none (r : RS) (h : r.l.kind = 0) (k : Nat) : rdTo r k = r := by
  induction k with
  | zero => rfl
  | succ k ih =>
    unfold rdTo
    rw [h, if_neg (by unfold usesB; simp), ih]
theorem head_nil : (rdHead []).l.kind = 0 ∧ rdOK (rdHead []) = false := ⟨by kernel_rfl, by kernel_rfl⟩
/-- letter.Read of no bytes: ErrForm. -/
theorem read_nil (w : World) : Calls Tryz.prog 11 #[.slice none 0 0] w (ReadGot w 3 zLt) := by
  have e := rdTo_none (rdHead []) head_nil.1 17
  have h := read_nums w none [] 0 (Nat.le_refl _) (by omega) (.inl rfl) (fun _ => rfl) (fun k _ hu => by rw [head_nil.1] at hu; unfold usesB at hu; simp at hu) 0 [] (fun hr => by rw [e, head_nil.2] at hr; cases hr) false (by rw [e, head_nil.2]; rfl)
  exact h
theorem numsEq_self (L : Lt) : numsEq L L = true := numsEq_yes fun _ _ => by simp
/-- kalendsref20.Same: one letter in two memories. -/
theorem refSame_self (hl : MadeLt l ns) (hl2 : MadeLt l ns2) (hv : VarOf l L) (h1 : LtMem lo w L s ns) (h2 : LtMem lo2 w L t ns2) (hlo : 0 < lo) (hlo2 : 0 < lo2) :
    Calls Tryz.prog 13 #[.agg (ltVal L s), .agg (ltVal L t)] w (Gives (.bool true) w) := by
  have hlen := hl.lens
  have hlen2 := hl2.lens
  have h := refSame_twin L L s t w ⟨rfl, rfl, rfl, rfl, rfl, rfl, rfl, rfl, rfl, hv.ref⟩
    (fun w' hb => by
      have m1 := h1.grow hb hlo
      have m2 := h2.grow hb hlo2
      have := sameInts_any s.C t.C s.e t.e L.cells L.cells w' m1.ints m2.ints (by rw [hv.cells]; omega)
      rw [beq_self_eq_true] at this
      exact this)
    (fun w' hb => by
      have m1 := h1.grow hb hlo
      have m2 := h2.grow hb hlo2
      exact refSeries_eq L.series s.A t.A s.B t.B s.c t.c s.d t.d ns ns2 w' h1.names h2.names (m1.rules hlen.2.2.2) (m2.rules hlen2.2.2.2) m1.mvs m2.mvs (by rw [hv.ser]; omega) (by rw [hv.ser]; omega))
  rw [numsEq_self] at h
  exact h
end
end Go.Proofs.YtdakcbddlempfaaGreat

/- kalendslaw20.LetterRoundTrip: for every input it returns true (printed by gen_rt.py). -/
namespace Go.Proofs.YtdakcbddlempfaaGreat
open Go Go.RowKit

/-- The pair's box, the letter's variable, and what was there before. -/
structure XM (w : World) (bc : Array Value) (wz : World) (mb : Nat) (mc : Array Value) (W : World) : Prop where
  bx : Row W w.heap.size bc
  lv : Row W mb mc
  up : Below wz.heap.size wz W
section
variable {w wz W W' : World} {bc mc : Array Value} {mb : Nat}
theorem XM.below (h : XM w bc wz mb mc W) (hb : Below W.heap.size W W') : XM w bc wz mb mc W' := ⟨h.bx.keep hb, h.lv.keep hb, below_trans h.up hb⟩
theorem XM.drew (h : XM w bc wz mb mc W) : XM w bc wz mb mc W.drew := h.below (Below.refl _ W).drew
theorem XM.alloc (h : XM w bc wz mb mc W) (o : Obj) : XM w bc wz mb mc (W.alloc o) := h.below (below_var W o)
theorem XM.row (h : XM w bc wz mb mc W) (b : Nat) (ds : Array Value) (h1 : w.heap.size ≠ b) (h2 : mb ≠ b) (h3 : wz.heap.size ≤ b) : XM w bc wz mb mc (W.setRow b ds) :=
  ⟨⟨by simpa using h.bx.1, fun i => (World.cell?_of_block (a := ⟨w.heap.size, i, none⟩) (setRow_other W b w.heap.size ds h1)).trans (h.bx.2 i)⟩, ⟨by simpa using h.lv.1, fun i => (World.cell?_of_block (a := ⟨mb, i, none⟩) (setRow_other W b mb ds h2)).trans (h.lv.2 i)⟩, below_setRow h.up h3 _⟩
/-- Behind the second letter's statement. -/
def RCut (wz : World) (L : Lt) (s : Sl) (p : Value) (wx : World) : Prop :=
  ∃ nb : Nat, p = pt nb ∧ wx.heap[nb]? = some (.cells (ltVal L s) 37 (0, 0)) ∧ Below wz.heap.size wz wx
/-- The two letters, as they lie, and the first one's memory. -/
structure RT (wc : World) (mb nb lo : Nat) (l L : Lt) (s : Sl) (ns : List NdV) (W : World) : Prop where
  m : Row W mb (ltVal l s)
  n : Row W nb (ltVal L s)
  mem : LtMem lo W l s ns
  pos : 0 < lo
  up : Below wc.heap.size wc W
theorem RT.below {wc : World} {nb lo : Nat} {l L : Lt} {s : Sl} {ns : List NdV} (h : RT wc mb nb lo l L s ns W) (hb : Below W.heap.size W W') : RT wc mb nb lo l L s ns W' := ⟨h.m.keep hb, h.n.keep hb, h.mem.grow hb h.pos, h.pos, below_trans h.up hb⟩
end
attribute [local go_sem] ltVal_get lt_get0 lt_get1 lt_get2
set_option maxRecDepth 10000 in
set_option maxHeartbeats 4000000 in
theorem letterRoundTrip_any (w : World) (A : Option Addr) (n c : Nat) (xs : List Int) (f x : Int) (hn : xs.length = n) (hA : IntsAt w w.heap.size A xs) (hfit : ∀ j, j < xs.length → fits (xs[j]?.getD 0)) (hc : n ≤ c) (hbig : c ≤ 9223372036854775807) (ff : fits f) (_fx : fits x) :
    Calls Tryz.prog 3 #[.slice A n c, .agg #[I f, I x]] w (Gives (.bool true) w) := by
  have HM : Hid (∀ w', Below w.heap.size w w' → Calls Tryz.prog 7 #[.slice A n c] w' (MadeQ w')) := Lib.hid fun w' hb => refMade_any w' A n c xs hn ((hA.keep hb).more hb.size) hfit hc hbig
  have HFF := Lib.hid ff
  have HS0 : Hid (XS w #[I f, I x] (w.alloc (.cells #[I f, I x] 23))) := Lib.hid ⟨Row.new w _ _, below_var w _⟩
  obtain ⟨k, hk⟩ : ∃ k : Nat, f % 17 = (k : Int) := ⟨(f % 17).toNat, by omega⟩
  have hk17 : k < 17 := by omega
  have HK := Lib.hid hk
  clear hA hfit hn hc hbig ff hk
  go_enter Tryz.func3, Tryz.ntmps3
  go_wp2_with fail
  refine (sanity_any _).mono ?_
  rintro e w1 ⟨rfl, hb1⟩
  have HS1 := Lib.hid (HS0.out.below hb1)
  clear hb1 HS0
  go_wp2_with fail
  refine (HM.out _ HS1.out.lo).mono ?_
  rintro e w2 ⟨l, s, ns, rfl, hml, hmem, hb2⟩
  have HS2 := Lib.hid (HS1.out.below hb2)
  have HML := Lib.hid hml
  have HRL := Lib.hid hml.ref
  have HRN : Hid ((setNum l k x).ref.length = 32) := Lib.hid (by rw [setNum_ref]; exact hml.ref)
  obtain ⟨lo, hlo⟩ : ∃ lo, lo = w1.heap.size + 2 := ⟨_, rfl⟩
  rw [← hlo] at hmem
  have HLO : Hid (0 < lo) := Lib.hid (by omega)
  have HMEM := Lib.hid hmem
  clear hml hmem hb2 HS1 HM hlo
  obtain ⟨mb, hmb⟩ : ∃ mb, w2.heap.size = mb := ⟨_, rfl⟩
  go_upto_region 3 with (first
    | (with_reducible refine g_alloc 37 ?_; refine wpList_alloc_as rfl _ rfl (ltVal zLt zSl) lt_zero ?_)
    | (with_reducible refine g_store 37 ?_; refine wpList_store_newrow rfl _ _ _ rfl (ltVal l s) rfl rfl 37 (ltVal zLt zSl) rfl (size62 _ _ HRL.out) (sz_eq _ _ HRL.out) (ltVal_one _ _) ?_; intro wz hbz hlz hrz; have HZ : Hid (XM w #[I f, I x] wz mb (ltVal l s) wz) := Lib.hid ⟨(HS2.out.below hbz).bx, by rw [← hmb]; exact hrz, Below.refl _ _⟩; have HMZ := Lib.hid (HMEM.out.grow hbz HLO.out); have HLZ : Hid (Below w.heap.size w wz) := Lib.hid (HS2.out.below hbz).lo; clear hbz hlz hrz; rw [hmb]))
  clear hmb HS2 HMEM
  try simp only [Act.put, List.setIfInBounds_toArray, List.set_cons_zero, List.set_cons_succ]
  go_cut [7] (fun p wx => RCut wz (setNum l k x) s p wx)
  case first =>
    have hS1 := HZ.out.drew
    refine wp_region_held_drew (S := XM w #[I f, I x] wz mb (ltVal l s)) (by kernel_rfl) hS1 (fun hH0 => ?_)
    refine wpAnyH_take_dst (i := 0) (v := .agg (ltVal l s)) (d := 19) rfl rfl (by kernel_rfl) (by kernel_rfl) (by kernel_rfl) (fun _ _ _ h => h) (yieldsIf_load_Row rfl _ _ rfl mb rfl (ltVal l s) _ (fun _ h => h.lv) Tryz.underlying37 rfl (size62 _ _ HRL.out)) (by assumption) ?r0a
    try simp only [Act.put, List.setIfInBounds_toArray, List.set_cons_zero, List.set_cons_succ]
    refine wpAnyH_take_dst (i := 1) (v := ?v1a) (d := 20) rfl rfl (by kernel_rfl) (by kernel_rfl) (by kernel_rfl) (fun _ _ _ h => h) (Or.inl ⟨by rfl, ?hy1a⟩) (by assumption) ?r1a
    case hy1a => intro w' hSw; have k0 := hSw.bx.2; clear hSw; first | (go_simp; done) | (go_simp; with_reducible rfl)
    try simp only [Act.put, List.setIfInBounds_toArray, List.set_cons_zero, List.set_cons_succ]
    refine wpAnyH_take_dst (i := 2) (v := I f) (d := 21) rfl rfl (by kernel_rfl) (by kernel_rfl) (by kernel_rfl) (fun _ _ _ h => h) (Or.inl ⟨by rfl, ?hy2a⟩) (by assumption) ?r2a
    case hy2a => intro w' hSw; have k0 : w'.cell? ⟨w.heap.size, 0, none⟩ = some (I f) := hSw.bx.2 0; clear hSw; first | (go_simp; done) | (go_simp; with_reducible rfl)
    try simp only [Act.put, List.setIfInBounds_toArray, List.set_cons_zero, List.set_cons_succ]
    refine wpAnyH_take_dst (i := 4) (v := ?v4a) (d := 23) rfl rfl (by kernel_rfl) (by kernel_rfl) (by kernel_rfl) (fun _ _ _ h => h) (Or.inl ⟨by rfl, ?hy4a⟩) (by assumption) ?r4a
    case hy4a => intro w' hSw; have k0 := hSw.bx.2; clear hSw; first | (go_simp; done) | (go_simp; with_reducible rfl)
    try simp only [Act.put, List.setIfInBounds_toArray, List.set_cons_zero, List.set_cons_succ]
    refine wpAnyH_take_dst (i := 5) (v := I x) (d := 24) rfl rfl (by kernel_rfl) (by kernel_rfl) (by kernel_rfl) (fun _ _ _ h => h) (Or.inl ⟨by rfl, ?hy5a⟩) (by assumption) ?r5a
    case hy5a => intro w' hSw; have k0 : w'.cell? ⟨w.heap.size, 1, none⟩ = some (I x) := hSw.bx.2 1; clear hSw; first | (go_simp; done) | (go_simp; with_reducible rfl)
    try simp only [Act.put, List.setIfInBounds_toArray, List.set_cons_zero, List.set_cons_succ]
    refine wpAnyH_ready (rs := [3, 7]) (by kernel_rfl) (by simp) ?_
    refine AllReadyH.cons rfl (fun K hK => ?_) (AllReadyH.cons rfl (fun K hK => ?_) AllReadyH.nil)
    · go_simp
      refine (refMod_any f 17 _ (by omega) (by omega) HFF.out).mono ?_
      rintro e w21 ⟨rfl, rfl⟩
      rw [HK.out]
      refine hK.out _ _ hS1 (fun hHeld => ?_)
      clear hHeld hK K
      try simp only [Act.put, List.setIfInBounds_toArray, List.set_cons_zero, List.set_cons_succ]
      refine wpAnyH_ready (rs := [6, 7]) (by kernel_rfl) (by simp) ?_
      refine AllReadyH.cons rfl (fun K hK => ?_) (AllReadyH.cons rfl (fun K hK => ?_) AllReadyH.nil)
      · go_simp
        refine (setNumber_any l s k hk17 x _ HRL.out).mono ?_
        rintro e w22 ⟨rfl, hb2⟩
        have hS22 := hS1.below hb2
        refine hK.out _ _ hS22 (fun hHeld => ?_)
        clear hHeld hK K
        try simp only [Act.put, List.setIfInBounds_toArray, List.set_cons_zero, List.set_cons_succ]
        refine wpAnyH_ready (rs := [7]) (by kernel_rfl) (by simp) ?_
        refine AllReadyH.cons rfl (fun K hK => ?_) AllReadyH.nil
        refine step_alloc_as (o := ⟨some 7, .alloc 37, _, _, _, none⟩) rfl 37 rfl (ltVal zLt zSl) lt_zero ?_
        have hS23 := hS22.alloc (.cells (ltVal zLt zSl) 37)
        have hz3 := heap_alloc_last w22 (.cells (ltVal zLt zSl) 37)
        have hw3 := hS22.bx.1
        have hm3 := hS22.lv.1
        have hu3 := hS22.up.size
        refine hK.out _ _ hS23 (fun hHeld => ?_)
        clear hHeld hK K
        try simp only [Act.put, List.setIfInBounds_toArray, List.set_cons_zero, List.set_cons_succ]
        refine wpAnyH_ready (rs := [8]) (by kernel_rfl) (by simp) ?_
        refine AllReadyH.cons rfl (fun K hK => ?_) AllReadyH.nil
        refine step_store_row (o := ⟨none, .store 37 (.tmp 7) (.tmp 25), _, _, _, none⟩) rfl 37 _ _ rfl (w22.heap.size) (ltVal (setNum l k x) s) rfl rfl 37 (ltVal zLt zSl) hz3 (size62 _ _ HRN.out) (sz_eq _ _ HRN.out) (ltVal_one _ _) ?_
        have hS6 : XM w #[I f, I x] wz mb (ltVal l s) (World.setRow _ (w22.heap.size) (ltVal (setNum l k x) s)) := hS23.row (w22.heap.size) _ (Nat.ne_of_lt hw3) (Nat.ne_of_lt hm3) hu3
        refine hK.out _ _ hS6 (fun hHeld => ?_)
        clear hHeld hK K
        try simp only [Act.put]
        refine wpAnyH_done (by kernel_rfl) ?_ _
        clear hH0
        have hcut : RCut wz (setNum l k x) s _ _ := ⟨(w22.heap.size), rfl, setRow_heap _ _ _ _ _ _ hz3, hS6.up⟩
        go_wp2_with fail
        go_meet
        exact hcut
      · refine step_alloc_as (o := ⟨some 7, .alloc 37, _, _, _, none⟩) rfl 37 rfl (ltVal zLt zSl) lt_zero ?_
        have hS24 := hS1.alloc (.cells (ltVal zLt zSl) 37)
        have hz4 := heap_alloc_last wz.drew (.cells (ltVal zLt zSl) 37)
        have hw4 := hS1.bx.1
        have hm4 := hS1.lv.1
        have hu4 := hS1.up.size
        refine hK.out _ _ hS24 (fun hHeld => ?_)
        clear hHeld hK K
        try simp only [Act.put, List.setIfInBounds_toArray, List.set_cons_zero, List.set_cons_succ]
        refine wpAnyH_ready (rs := [6]) (by kernel_rfl) (by simp) ?_
        refine AllReadyH.cons rfl (fun K hK => ?_) AllReadyH.nil
        go_simp
        refine (setNumber_any l s k hk17 x _ HRL.out).mono ?_
        rintro e w25 ⟨rfl, hb5⟩
        have hS25 := hS24.below hb5
        have hz5 := (hb5.block _ (Array.getElem?_eq_some_iff.1 hz4).1).trans hz4
        refine hK.out _ _ hS25 (fun hHeld => ?_)
        clear hHeld hK K
        try simp only [Act.put, List.setIfInBounds_toArray, List.set_cons_zero, List.set_cons_succ]
        refine wpAnyH_ready (rs := [8]) (by kernel_rfl) (by simp) ?_
        refine AllReadyH.cons rfl (fun K hK => ?_) AllReadyH.nil
        refine step_store_row (o := ⟨none, .store 37 (.tmp 7) (.tmp 25), _, _, _, none⟩) rfl 37 _ _ rfl (wz.drew.heap.size) (ltVal (setNum l k x) s) rfl rfl 37 (ltVal zLt zSl) hz5 (size62 _ _ HRN.out) (sz_eq _ _ HRN.out) (ltVal_one _ _) ?_
        have hS6 : XM w #[I f, I x] wz mb (ltVal l s) (World.setRow _ (wz.drew.heap.size) (ltVal (setNum l k x) s)) := hS25.row (wz.drew.heap.size) _ (Nat.ne_of_lt hw4) (Nat.ne_of_lt hm4) hu4
        refine hK.out _ _ hS6 (fun hHeld => ?_)
        clear hHeld hK K
        try simp only [Act.put]
        refine wpAnyH_done (by kernel_rfl) ?_ _
        clear hH0
        have hcut : RCut wz (setNum l k x) s _ _ := ⟨(wz.drew.heap.size), rfl, setRow_heap _ _ _ _ _ _ hz5, hS6.up⟩
        go_wp2_with fail
        go_meet
        exact hcut
    · refine step_alloc_as (o := ⟨some 7, .alloc 37, _, _, _, none⟩) rfl 37 rfl (ltVal zLt zSl) lt_zero ?_
      have hS26 := hS1.alloc (.cells (ltVal zLt zSl) 37)
      have hz6 := heap_alloc_last wz.drew (.cells (ltVal zLt zSl) 37)
      have hw6 := hS1.bx.1
      have hm6 := hS1.lv.1
      have hu6 := hS1.up.size
      refine hK.out _ _ hS26 (fun hHeld => ?_)
      clear hHeld hK K
      try simp only [Act.put, List.setIfInBounds_toArray, List.set_cons_zero, List.set_cons_succ]
      refine wpAnyH_ready (rs := [3]) (by kernel_rfl) (by simp) ?_
      refine AllReadyH.cons rfl (fun K hK => ?_) AllReadyH.nil
      go_simp
      refine (refMod_any f 17 _ (by omega) (by omega) HFF.out).mono ?_
      rintro e w27 ⟨rfl, rfl⟩
      rw [HK.out]
      refine hK.out _ _ hS26 (fun hHeld => ?_)
      clear hHeld hK K
      try simp only [Act.put, List.setIfInBounds_toArray, List.set_cons_zero, List.set_cons_succ]
      refine wpAnyH_ready (rs := [6]) (by kernel_rfl) (by simp) ?_
      refine AllReadyH.cons rfl (fun K hK => ?_) AllReadyH.nil
      go_simp
      refine (setNumber_any l s k hk17 x _ HRL.out).mono ?_
      rintro e w28 ⟨rfl, hb8⟩
      have hS28 := hS26.below hb8
      have hz8 := (hb8.block _ (Array.getElem?_eq_some_iff.1 hz6).1).trans hz6
      refine hK.out _ _ hS28 (fun hHeld => ?_)
      clear hHeld hK K
      try simp only [Act.put, List.setIfInBounds_toArray, List.set_cons_zero, List.set_cons_succ]
      refine wpAnyH_ready (rs := [8]) (by kernel_rfl) (by simp) ?_
      refine AllReadyH.cons rfl (fun K hK => ?_) AllReadyH.nil
      refine step_store_row (o := ⟨none, .store 37 (.tmp 7) (.tmp 25), _, _, _, none⟩) rfl 37 _ _ rfl (wz.drew.heap.size) (ltVal (setNum l k x) s) rfl rfl 37 (ltVal zLt zSl) hz8 (size62 _ _ HRN.out) (sz_eq _ _ HRN.out) (ltVal_one _ _) ?_
      have hS6 : XM w #[I f, I x] wz mb (ltVal l s) (World.setRow _ (wz.drew.heap.size) (ltVal (setNum l k x) s)) := hS28.row (wz.drew.heap.size) _ (Nat.ne_of_lt hw6) (Nat.ne_of_lt hm6) hu6
      refine hK.out _ _ hS6 (fun hHeld => ?_)
      clear hHeld hK K
      try simp only [Act.put]
      refine wpAnyH_done (by kernel_rfl) ?_ _
      clear hH0
      have hcut : RCut wz (setNum l k x) s _ _ := ⟨(wz.drew.heap.size), rfl, setRow_heap _ _ _ _ _ _ hz8, hS6.up⟩
      go_wp2_with fail
      go_meet
      exact hcut
  case rest =>
    obtain ⟨nb, rfl, hvar, hbel⟩ := hcut
    have HT0 : Hid (RT wc mb nb lo l (setNum l k x) s ns wc) := Lib.hid ⟨HZ.out.lv.keep hbel, Row.of_blk hvar, HMZ.out.grow hbel HLO.out, HLO.out, Below.refl _ _⟩
    have HBEL : Hid (Below w.heap.size w wc) := Lib.hid (below_trans HLZ.out hbel)
    have HV := Lib.hid (VarOf.num HML.out k x)
    have HVS := Lib.hid (VarOf.same HML.out)
    obtain ⟨L, hL⟩ : ∃ L, setNum l k x = L := ⟨_, rfl⟩
    rw [hL] at HT0 HV HRN
    have hvc := vc_cases L
    clear hL hvar hbel HZ HMZ HLZ HFF HK hk17
    go_wp2_with (with_reducible refine g_load 37 ?_; refine wpList_load_Row rfl _ _ rfl mb rfl (ltVal l s) HT0.out.m _ Tryz.underlying37 rfl (size62 _ _ HRL.out) ?_)
    refine (bytes_var HML.out HT0.out.mem HLO.out HVS.out).mono ?_
    intro e w3 hp
    unfold BytesPost at hp
    obtain ⟨hp, hb3⟩ := hp
    rw [HML.out.vc, if_pos rfl] at hp
    obtain ⟨v3, rfl, hown⟩ := hp
    obtain ⟨A3, c3, rfl, h31, h32, h33, hby3⟩ := bytesAt_own hown
    have HT3 := Lib.hid (HT0.out.below hb3)
    have HRD : Hid (Calls Tryz.prog 11 #[.slice A3 (ltBytes l (sbOf l)).length c3] w3 (RyPost w3 l)) := Lib.hid (read_var HML.out HVS.out HML.out.vc A3 _ c3 h31 h32 hby3 h33 rfl)
    obtain ⟨N3, hN3⟩ : ∃ N, (ltBytes l (sbOf l)).length = N := ⟨_, rfl⟩
    rw [hN3] at HRD ⊢
    clear hb3 hown h31 h32 h33 hby3 HT0 hN3
    go_wp2_with fail
    refine HRD.out.mono ?_
    rintro e w4 ⟨s4, ns4, rfl, hm4, hb4⟩
    have HT4 := Lib.hid (HT3.out.below hb4)
    obtain ⟨lo4, hlo4⟩ : ∃ q, q = w3.heap.size := ⟨_, rfl⟩
    have HL4 : Hid (0 < lo4) := Lib.hid (by have := HT3.out.m.1; omega)
    rw [← hlo4] at hm4
    have HM4 := Lib.hid hm4
    have HN4 : Hid (MadeLt l ns4) := Lib.hid (HML.out.swap (by rw [← hm4.names, HML.out.names]))
    clear hm4 hb4 hlo4 HT3 HRD
    go_wp2_with (first
      | (with_reducible refine g_alloc 37 ?_; refine wpList_alloc_as rfl _ rfl (ltVal zLt zSl) lt_zero ?_)
      | (with_reducible refine g_store 37 ?_; refine wpList_store_newrow rfl _ _ _ rfl (ltVal l s4) rfl rfl 37 (ltVal zLt zSl) rfl (size62 _ _ HRL.out) (sz_eq _ _ HRL.out) (ltVal_one _ _) ?_; intro w5 hb5 hl5 hr5; have HT5 := Lib.hid (HT4.out.below hb5); have HM5 := Lib.hid (HM4.out.grow hb5 HL4.out); have HR5 := Lib.hid hr5; clear hb5 hl5 hr5)
      | (with_reducible refine g_load 37 ?_; refine wpList_load_Row rfl _ _ rfl mb rfl (ltVal l s) HT5.out.m _ Tryz.underlying37 rfl (size62 _ _ HRL.out) ?_))
    refine (valid_made l s ns lo _ HML.out HT5.out.mem HLO.out).mono ?_
    rintro e w6 ⟨rfl, hb6⟩
    have HT6 := Lib.hid (HT5.out.below hb6)
    have HM6 := Lib.hid (HM5.out.grow hb6 HL4.out)
    have HR6 := Lib.hid (HR5.out.keep hb6)
    clear hb6 HT5 HM5 HR5 HT4 HM4
    go_wp2_with (first
      | (with_reducible refine g_load 37 ?_; refine wpList_load_Row rfl _ _ rfl mb rfl (ltVal l s) HT6.out.m _ Tryz.underlying37 rfl (size62 _ _ HRL.out) ?_)
      | (with_reducible refine g_load 37 ?_; refine wpList_load_Row rfl _ _ rfl w4.heap.size rfl (ltVal l s4) HR6.out _ Tryz.underlying37 rfl (size62 _ _ HRL.out) ?_))
    refine (refSame_self HN4.out HML.out HVS.out HM6.out HT6.out.mem HL4.out HLO.out).mono ?_
    rintro e w7 ⟨rfl, hb7⟩
    have HT7 := Lib.hid (HT6.out.below hb7)
    clear hb7 HT6 HM6 HR6 HN4 HL4
    go_wp2_with (with_reducible refine g_load 37 ?_; refine wpList_load_Row rfl _ _ rfl nb rfl (ltVal L s) HT7.out.n _ Tryz.underlying37 rfl (size62 _ _ HRN.out) ?_)
    refine (bytes_var HML.out HT7.out.mem HLO.out HV.out).mono ?_
    intro e w8 hp
    unfold BytesPost at hp
    obtain ⟨hp, hb8⟩ := hp
    have HT8 := Lib.hid (HT7.out.below hb8)
    clear hb8 HT7
    rcases hvc with hv | ⟨hv, _, _⟩
    · rw [hv, if_neg (by decide)] at hp
      subst hp
      have HVC := Lib.hid hv
      clear hv
      go_wp2_with fail
      refine (read_nil _).mono ?_
      rintro e w9 ⟨rfl, hb9⟩
      have HT9 := Lib.hid (HT8.out.below hb9)
      clear hb9
      go_wp2_with (first
        | (with_reducible refine g_alloc 37 ?_; refine wpList_alloc_as rfl _ rfl (ltVal zLt zSl) lt_zero ?_)
        | (with_reducible refine g_store 37 ?_; refine wpList_store_newrow rfl _ _ _ rfl (ltVal zLt zSl) rfl rfl 37 (ltVal zLt zSl) rfl (size62 _ _ rfl) rfl (ltVal_one _ _) ?_; intro w10 hb10 hl10 hr10; have HT10 := Lib.hid (HT9.out.below hb10); clear hb10 hl10 hr10)
        | (with_reducible refine g_load 37 ?_; refine wpList_load_Row rfl _ _ rfl nb rfl (ltVal L s) HT10.out.n _ Tryz.underlying37 rfl (size62 _ _ HRN.out) ?_))
      refine (valid_var HML.out HT10.out.mem HLO.out HV.out).mono ?_
      rw [HVC.out]
      rintro e w11 ⟨rfl, hb11⟩
      have HT11 := Lib.hid (HT10.out.below hb11)
      clear hb11 HT8 HT9 HT10
      go_wp2_with (with_reducible refine g_load 37 ?_; refine wpList_load_Row rfl _ _ rfl nb rfl (ltVal L s) HT11.out.n _ Tryz.underlying37 rfl (size62 _ _ HRN.out) ?_)
      refine (valid_var HML.out HT11.out.mem HLO.out HV.out).mono ?_
      rw [HVC.out]
      rintro e w12 ⟨rfl, hb12⟩
      have HT12 := Lib.hid (HT11.out.below hb12)
      clear hb12 HT11
      go_wp2_with fail
      go_ret
      exact ⟨rfl, below_trans HBEL.out HT12.out.up⟩
    · have HVC := Lib.hid hv
      rw [hv, if_pos rfl] at hp
      obtain ⟨v8, rfl, hown⟩ := hp
      obtain ⟨A8, c8, rfl, h81, h82, h83, hby8⟩ := bytesAt_own hown
      have HRD : Hid (Calls Tryz.prog 11 #[.slice A8 (ltBytes L (sbOf L)).length c8] w8 (RyPost w8 L)) := Lib.hid (read_var HML.out HV.out HVC.out A8 _ c8 h81 h82 hby8 h83 rfl)
      obtain ⟨N8, hN8⟩ : ∃ N, (ltBytes L (sbOf L)).length = N := ⟨_, rfl⟩
      rw [hN8] at HRD ⊢
      clear hown h81 h82 h83 hby8 hN8 hv
      go_wp2_with fail
      refine HRD.out.mono ?_
      rintro e w9 ⟨s9, ns9, rfl, hm9, hb9⟩
      have HT9 := Lib.hid (HT8.out.below hb9)
      obtain ⟨lo9, hlo9⟩ : ∃ q, q = w8.heap.size := ⟨_, rfl⟩
      have HL9 : Hid (0 < lo9) := Lib.hid (by have := HT8.out.m.1; omega)
      rw [← hlo9] at hm9
      have HM9 := Lib.hid hm9
      have HN9 : Hid (MadeLt l ns9) := Lib.hid (HML.out.swap (by rw [← hm9.names, HV.out.ser, HML.out.names]))
      clear hm9 hb9 hlo9 HT8 HRD
      go_wp2_with (first
        | (with_reducible refine g_alloc 37 ?_; refine wpList_alloc_as rfl _ rfl (ltVal zLt zSl) lt_zero ?_)
        | (with_reducible refine g_store 37 ?_; refine wpList_store_newrow rfl _ _ _ rfl (ltVal L s9) rfl rfl 37 (ltVal zLt zSl) rfl (size62 _ _ HRN.out) (sz_eq _ _ HRN.out) (ltVal_one _ _) ?_; intro w10 hb10 hl10 hr10; have HT10 := Lib.hid (HT9.out.below hb10); have HM10 := Lib.hid (HM9.out.grow hb10 HL9.out); have HR10 := Lib.hid hr10; clear hb10 hl10 hr10)
        | (with_reducible refine g_load 37 ?_; refine wpList_load_Row rfl _ _ rfl nb rfl (ltVal L s) HT10.out.n _ Tryz.underlying37 rfl (size62 _ _ HRN.out) ?_))
      refine (valid_var HML.out HT10.out.mem HLO.out HV.out).mono ?_
      rw [HVC.out]
      rintro e w11 ⟨rfl, hb11⟩
      have HT11 := Lib.hid (HT10.out.below hb11)
      have HM11 := Lib.hid (HM10.out.grow hb11 HL9.out)
      have HR11 := Lib.hid (HR10.out.keep hb11)
      clear hb11 HT9 HM9 HT10 HM10 HR10
      go_wp2_with (first
        | (with_reducible refine g_load 37 ?_; refine wpList_load_Row rfl _ _ rfl nb rfl (ltVal L s) HT11.out.n _ Tryz.underlying37 rfl (size62 _ _ HRN.out) ?_)
        | (with_reducible refine g_load 37 ?_; refine wpList_load_Row rfl _ _ rfl w9.heap.size rfl (ltVal L s9) HR11.out _ Tryz.underlying37 rfl (size62 _ _ HRN.out) ?_))
      refine (refSame_self HN9.out HML.out HV.out HM11.out (HT11.out.mem.other HV.out.ser HV.out.cells) HL9.out HLO.out).mono ?_
      rintro e w12 ⟨rfl, hb12⟩
      have HT12 := Lib.hid (HT11.out.below hb12)
      clear hb12 HT11 HM11 HR11
      go_wp2_with fail
      go_ret
      exact ⟨rfl, below_trans HBEL.out HT12.out.up⟩
end Go.Proofs.YtdakcbddlempfaaGreat
