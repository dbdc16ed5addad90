/- The texts MadeM, MadeW, MadeC, MadeR, Made, NdEq, in this order. -/
import Derived.Test.YtdakcbddlempfaaGreatG01
import Derived.Deep.MidRow
import Derived.Deep.DeepCutAuto
import Derived.Deep.CutBlock
/- kalendsref20.made for the fields move, series and window. -/
namespace Go.Proofs.YtdakcbddlempfaaGreat
open Go Go.RowKit

def putAll (cs : Array Value) (o : Nat) : List Value → Array Value
  | [] => cs
  | v :: r => putAll (cs.setIfInBounds o v) (o + 1) r
theorem TS.storeAll {w0 : World} {mb a nd : Nat} {xs : List Int} : ∀ (vs : List Value) (o : Nat) (cs : Array Value) (W : World), TS w0 mb xs a nd cs W → TS w0 mb xs a nd (putAll cs o vs) (W.setCells w0.heap.size o vs)
  | [], _, _, _, h => h
  | v :: r, o, _, _, h => TS.storeAll r (o + 1) _ _ (h.store o v)
theorem TS.there {w0 W : World} {mb a nd : Nat} {xs : List Int} {cs : Array Value} (h : TS w0 mb xs a nd cs W) (o n : Nat) (hn : o + n ≤ cs.size) : W.there w0.heap.size o n := by
  intro j hj
  refine ⟨?_, h.froz _⟩
  rw [h.cell, Array.getElem?_eq_getElem (by omega)]; rfl
theorem put_move (l : Lt) (s : Sl) (m : Mv) : putAll (ltVal l s) 12 (mvCells m).toList = ltVal { l with move := m } s := by
  simp [putAll, ltVal, ltCells, mvCells]
def seC (se : Ser) (A B : Option Addr) (c d : Nat) : Array Value := #[.slice A se.rule.length c, I se.minute, I se.length, .string se.zone, I se.gap, I se.fold, .slice B se.moves.length d]
theorem put_series (l : Lt) (s : Sl) (A B : Option Addr) (c d : Nat) (se : Ser) : putAll (ltVal l s) 17 (seC se A B c d).toList = ltVal { l with series := se } { s with A := A, c := c, B := B, d := d } := by
  simp [putAll, ltVal, ltCells, seC]
theorem put_wfrom (l : Lt) (s : Sl) (x : Int) : (ltVal l s).setIfInBounds 27 (I x) = ltVal { l with wfrom := x } s := by
  simp [ltVal, ltCells]
theorem put_wto (l : Lt) (s : Sl) (x : Int) : (ltVal l s).setIfInBounds 28 (I x) = ltVal { l with wto := x } s := by
  simp [ltVal, ltCells]
theorem se_size (se : Ser) (A B : Option Addr) (c d : Nat) : (Tryz.prog.info? 31).map (·.size) = some (seC se A B c d).size := by kernel_rfl
theorem se_one (se : Ser) (A B : Option Addr) (c d : Nat) : (seC se A B c d).all (·.oneCell') = true := by kernel_rfl
theorem ltVal_size (l : Lt) (s : Sl) (h : l.ref.length = 32) : (ltVal l s).size = 62 := lt_size _ _ _ _ h
theorem own_formA {w : World} {base e size n : Nat} {v : Value} {xs : List Value} (h : w.ownsRow base e size v n xs) : ∃ A c, v = .slice A n c := by
  rcases h.2 with ⟨rfl, rfl⟩ | ⟨g, cap, cur, rfl, _⟩
  · exact ⟨_, _, rfl⟩
  · exact ⟨_, _, rfl⟩
theorem LtMem.step {lo mb : Nat} {w w' : World} {l l' : Lt} {s s' : Sl} {ns ns' : List NdV} (hr : RuleIs lo w' (.slice s'.A l'.series.rule.length s'.c) ns') (hn : l'.series.rule = ns'.map (·.d)) (hm : w'.ownsRow lo 26 5 (.slice s'.B l'.series.moves.length s'.d) l'.series.moves.length (mvsCells l'.series.moves))
    (h : LtMem lo w l s ns) (hk : MKeep mb w w') (hb : mb < lo) (hc : l'.cells = l.cells) (hC : s'.C = s.C) (he : s'.e = s.e) : LtMem lo w' l' s' ns' :=
  ⟨hr, hn, hm, by rw [hc, hC, he]; exact (h.mkeep hk hb).cells⟩
theorem setCells_other : ∀ (vs : List Value) (w : World) (b o k : Nat), k ≠ b → (w.setCells b o vs).heap[k]? = w.heap[k]?
  | [], _, _, _, _, _ => rfl
  | v :: r, w, b, o, k, h => (setCells_other r _ b (o + 1) k h).trans (heap_setCell_other w _ k v h)
theorem setCells_size : ∀ (vs : List Value) (w : World) (b o : Nat), (w.setCells b o vs).heap.size = w.heap.size
  | [], _, _, _ => rfl
  | v :: r, w, b, o => (setCells_size r _ b (o + 1)).trans (by simp [World.setCell])
theorem made_ser_done {w w3 : World} {lo mb a3 n3 at_ nodes : Nat} {xs : List Int} {l : Lt} {s : Sl} {ns ns' : List NdV} {ms : List Mv} {mi ln : Int} {zv : ByteArray} {gp fo : Int} {A B : Option Addr} {cr cm : Nat} {se : Ser}
    (hmem : LtMem lo w l s ns) (hlo : mb < lo) (hlw : lo ≤ w.heap.size) (hse : se = ⟨ns'.map (·.d), mi, ln, zv, gp, fo, ms⟩)
    (g : TS w mb xs a3 n3 (ltVal { l with series := se } { s with A := A, c := cr, B := B, d := cm }) (w3.setCells w.heap.size 17 (seC se A B cr cm).toList))
    (hsm : SerMade ((w.alloc (.cells (ltVal l s) 37)).alloc (.cells (ltVal zLt zSl) 37)) ns' ms mi ln zv gp fo (.slice A ns'.length cr) (.slice B ms.length cm) w3)
    (_hk3 : MKeep mb ((w.alloc (.cells (ltVal l s) 37)).alloc (.cells (ltVal zLt zSl) 37)) w3) (hks : l.kind ≠ 6 ∨ l.scope ≠ 1) (ha : a3 ≤ at_ + 400) (hn : n3 ≤ nodes + 16) :
    MadeP w lo mb xs at_ nodes l s ns 10 (.returned (.agg (ltVal { l with series := se } { s with A := A, c := cr, B := B, d := cm }))) ((w3.setCells w.heap.size 17 (seC se A B cr cm).toList).setRow (w.heap.size + 1) (ltVal { l with series := se } { s with A := A, c := cr, B := B, d := cm })) := by
  have hB : ∀ k, w.heap.size + 2 ≤ k → ((w3.setCells w.heap.size 17 (seC se A B cr cm).toList).setRow (w.heap.size + 1) (ltVal { l with series := se } { s with A := A, c := cr, B := B, d := cm })).heap[k]? = w3.heap[k]? := fun k hk => by
    rw [setRow_other _ _ k _ (by omega)]
    exact setCells_other _ _ _ _ k (by omega)
  have hsz : w3.heap.size ≤ ((w3.setCells w.heap.size 17 (seC se A B cr cm).toList).setRow (w.heap.size + 1) (ltVal { l with series := se } { s with A := A, c := cr, B := B, d := cm })).heap.size := by
    rw [show ∀ (W : World) b ds, (W.setRow b ds).heap.size = W.heap.size from fun W b ds => by simp]
    rw [setCells_size]; exact Nat.le_refl _
  subst hse
  have h2 : ((w.alloc (.cells (ltVal l s) 37)).alloc (.cells (ltVal zLt zSl) 37)).heap.size = w.heap.size + 2 := by simp
  have hr := hsm.rule
  have hmv := hsm.moves
  rw [h2] at hr hmv
  refine g.done (.inr (.inr (.inl ⟨rfl, .inl ⟨hks, _, rfl, ⟨rfl, hsm.made, hsm.len, hsm.within, hsm.mok, hsm.mlen, hsm.min, hsm.lng, hsm.zone, hsm.gap, hsm.fold⟩⟩⟩))) ?_ (fun _ => ⟨rfl, rfl⟩) ha hn
  refine LtMem.step ?_ rfl ?_ hmem (g.fin _).2 hlo rfl rfl rfl
  · show RuleIs _ _ (.slice A (ns'.map (·.d)).length cr) _
    rw [List.length_map]
    exact (hr.of_blocks hsz fun k hk _ => hB k (by omega)).lower (by omega)
  · exact ownsRow_base' (ownsRow_blocks hmv fun k hk _ => hB k (by omega)) (by omega)
attribute [local go_sem] ltVal_get lt_get0 lt_get10 lt_get11 lt_get27
set_option maxRecDepth 10000 in
set_option maxHeartbeats 4000000 in
theorem made_move (w : World) (lo mb : Nat) (xs : List Int) (at_ nodes : Nat) (l : Lt) (s : Sl) (ns : List NdV) (h : MkSt w mb xs at_ nodes) (hx : XsOK xs) (hat : at_ ≤ 100000) (hmem : LtMem lo w l s ns) (hlo : mb < lo) (_hlw : lo ≤ w.heap.size) (hr : l.ref.length = 32) :
    Calls Tryz.prog 20 #[pt mb, .agg (ltVal l s), I 9] w (MadeP w lo mb xs at_ nodes l s ns 9) := by
  have G0 : Hid (TS w mb xs at_ nodes (ltVal l s) ((w.alloc (.cells (ltVal l s) 37)).alloc (.cells (ltVal zLt zSl) 37))) := Lib.hid (TS.start h)
  have hml := h.lt
  have HM := Lib.hid hmem
  have HR := Lib.hid hr
  have HZ := Lib.hid (ltVal_size l s hr)
  clear h hmem hr
  by_cases hk4 : l.kind = 4
  · go_enter Tryz.func20, Tryz.ntmps20
    go_wp2_with (with_reducible refine g_alloc 37 ?_; refine wpList_alloc_as rfl _ rfl (ltVal zLt zSl) lt_zero ?_)
    refine (numeric_any 9 _).mono ?_
    rintro e w1 ⟨rfl, rfl⟩
    rw [show numB 9 = false from rfl]
    go_wp2_with fail
    refine (G0.out.pick hx 40 (by omega) (by omega) (by omega)).mono ?_
    rintro e w2 ⟨dy, rfl, d1, d2, -, g2⟩
    have g2c := g2.cell
    have G2 := Lib.hid g2
    clear g2
    go_wp2_with fail
    refine (madeMove_any _ mb xs _ nodes dy G2.out.mkr hx (by omega)).mono ?_
    rintro e w3 ⟨m, a3, rfl, hmv, hm3, ha3, hk3⟩
    have G3 := Lib.hid (G2.out.step hm3 hk3)
    have HT : Hid (w3.there w.heap.size 12 (mvCells m).size) := Lib.hid (G3.out.there 12 5 (by rw [HZ.out]; omega))
    have G4 : Hid (TS w mb xs a3 nodes (ltVal { l with move := m } s) (w3.setCells w.heap.size 12 (mvCells m).toList)) := Lib.hid (by have := G3.out.storeAll (mvCells m).toList 12; rw [put_move] at this; exact this)
    have HMV := Lib.hid hmv
    clear hm3 hk3 hmv
    clear g2c
    go_wp2_with (first
      | (with_reducible refine g_store 26 ?_; refine wpList_store_mid rfl _ _ _ rfl w.heap.size 12 (mvCells m) rfl rfl HT.out (mv_size _) (mv_one _) ?_)
      | (with_reducible refine g_load 37 ?_; refine wpList_load_Row rfl _ _ rfl w.heap.size rfl (ltVal { l with move := m } s) G4.out.row _ Tryz.underlying37 rfl (size62 _ _ HR.out) ?_)
      | (with_reducible refine g_store 37 ?_; refine wpList_store_row rfl _ _ _ rfl (w.heap.size + 1) (ltVal { l with move := m } s) rfl rfl 37 (ltVal zLt zSl) G4.out.res (size62 _ _ HR.out) (sz_eq _ _ HR.out) (ltVal_one _ _) ?_))
    exact bodyPost_ret (v := .agg (ltVal { l with move := m } s)) (results_cell_row rfl _ _ (w.heap.size + 1) _ (ltVal { l with move := m } s) (0, 0) _ rfl (setRow_heap _ _ _ _ _ _ G4.out.res) Tryz.underlying37 rfl (size62 _ _ HR.out)) rfl (G4.out.done_same (at_ := at_) (nodes := nodes) (.inr (.inl ⟨rfl, rfl, .inl ⟨.inl hk4, m, rfl, by rw [HMV.out.1]; exact HMV.out, .inl ⟨hk4, by rw [HMV.out.1]; exact d1, by rw [HMV.out.1]; exact d2⟩⟩⟩)) HM.out hlo rfl rfl (by omega) (by omega))
  by_cases hs1 : l.scope = 1
  · go_enter Tryz.func20, Tryz.ntmps20
    go_wp2_with (with_reducible refine g_alloc 37 ?_; refine wpList_alloc_as rfl _ rfl (ltVal zLt zSl) lt_zero ?_)
    refine (numeric_any 9 _).mono ?_
    rintro e w1 ⟨rfl, rfl⟩
    rw [show numB 9 = false from rfl]
    go_wp2_with fail
    refine (madeMove_any _ mb xs _ nodes l.day G0.out.mkr hx (by omega)).mono ?_
    rintro e w3 ⟨m, a3, rfl, hmv, hm3, ha3, hk3⟩
    have G3 := Lib.hid (G0.out.step hm3 hk3)
    have HT : Hid (w3.there w.heap.size 12 (mvCells m).size) := Lib.hid (G3.out.there 12 5 (by rw [HZ.out]; omega))
    have G4 : Hid (TS w mb xs a3 nodes (ltVal { l with move := m } s) (w3.setCells w.heap.size 12 (mvCells m).toList)) := Lib.hid (by have := G3.out.storeAll (mvCells m).toList 12; rw [put_move] at this; exact this)
    have HMV := Lib.hid hmv
    clear hm3 hk3 hmv
    go_wp2_with (first
      | (with_reducible refine g_store 26 ?_; refine wpList_store_mid rfl _ _ _ rfl w.heap.size 12 (mvCells m) rfl rfl HT.out (mv_size _) (mv_one _) ?_)
      | (with_reducible refine g_load 37 ?_; refine wpList_load_Row rfl _ _ rfl w.heap.size rfl (ltVal { l with move := m } s) G4.out.row _ Tryz.underlying37 rfl (size62 _ _ HR.out) ?_)
      | (with_reducible refine g_store 37 ?_; refine wpList_store_row rfl _ _ _ rfl (w.heap.size + 1) (ltVal { l with move := m } s) rfl rfl 37 (ltVal zLt zSl) G4.out.res (size62 _ _ HR.out) (sz_eq _ _ HR.out) (ltVal_one _ _) ?_))
    exact bodyPost_ret (v := .agg (ltVal { l with move := m } s)) (results_cell_row rfl _ _ (w.heap.size + 1) _ (ltVal { l with move := m } s) (0, 0) _ rfl (setRow_heap _ _ _ _ _ _ G4.out.res) Tryz.underlying37 rfl (size62 _ _ HR.out)) rfl (G4.out.done_same (at_ := at_) (nodes := nodes) (.inr (.inl ⟨rfl, rfl, .inl ⟨.inr hs1, m, rfl, by rw [HMV.out.1]; exact HMV.out, .inr ⟨hk4, HMV.out.1⟩⟩⟩)) HM.out hlo rfl rfl (by omega) (by omega))
  · go_enter Tryz.func20, Tryz.ntmps20
    go_wp2_with (with_reducible refine g_alloc 37 ?_; refine wpList_alloc_as rfl _ rfl (ltVal zLt zSl) lt_zero ?_)
    refine (numeric_any 9 _).mono ?_
    rintro e w1 ⟨rfl, rfl⟩
    rw [show numB 9 = false from rfl]
    go_wp2_with (first
      | (with_reducible refine g_load 37 ?_; refine wpList_load_Row rfl _ _ rfl w.heap.size rfl (ltVal l s) G0.out.row _ Tryz.underlying37 rfl (size62 _ _ HR.out) ?_)
      | (with_reducible refine g_store 37 ?_; refine wpList_store_row rfl _ _ _ rfl (w.heap.size + 1) (ltVal l s) rfl rfl 37 (ltVal zLt zSl) G0.out.res (size62 _ _ HR.out) (sz_eq _ _ HR.out) (ltVal_one _ _) ?_))
    exact bodyPost_ret (v := .agg (ltVal l s)) (results_cell_row rfl _ _ (w.heap.size + 1) _ (ltVal l s) (0, 0) _ rfl (setRow_heap _ _ _ _ _ _ G0.out.res) Tryz.underlying37 rfl (size62 _ _ HR.out)) rfl (G0.out.done_same (at_ := at_) (nodes := nodes) (.inr (.inl ⟨rfl, rfl, .inr ⟨hk4, hs1, rfl⟩⟩)) HM.out hlo rfl rfl (by omega) (by omega))
set_option maxRecDepth 10000 in
set_option maxHeartbeats 4000000 in
theorem made_series (w : World) (lo mb : Nat) (xs : List Int) (at_ nodes : Nat) (l : Lt) (s : Sl) (ns : List NdV) (h : MkSt w mb xs at_ nodes) (hx : XsOK xs) (hat : at_ ≤ 100000) (hnd : nodes ≤ 100000) (hmem : LtMem lo w l s ns) (hlo : mb < lo) (hlw : lo ≤ w.heap.size) (hr : l.ref.length = 32) :
    Calls Tryz.prog 20 #[pt mb, .agg (ltVal l s), I 10] w (MadeP w lo mb xs at_ nodes l s ns 10) := by
  have G0 : Hid (TS w mb xs at_ nodes (ltVal l s) ((w.alloc (.cells (ltVal l s) 37)).alloc (.cells (ltVal zLt zSl) 37))) := Lib.hid (TS.start h)
  have hml := h.lt
  have HM := Lib.hid hmem
  have HR := Lib.hid hr
  have HZ := Lib.hid (ltVal_size l s hr)
  clear h hmem hr
  by_cases hks : l.kind = 6 ∧ l.scope = 1
  · obtain ⟨hk6, hs1⟩ := hks
    go_enter Tryz.func20, Tryz.ntmps20
    go_wp2_with (with_reducible refine g_alloc 37 ?_; refine wpList_alloc_as rfl _ rfl (ltVal zLt zSl) lt_zero ?_)
    refine (numeric_any 10 _).mono ?_
    rintro e w1 ⟨rfl, rfl⟩
    rw [show numB 10 = false from rfl]
    go_wp2_with (first
      | (with_reducible refine g_load 37 ?_; refine wpList_load_Row rfl _ _ rfl w.heap.size rfl (ltVal l s) G0.out.row _ Tryz.underlying37 rfl (size62 _ _ HR.out) ?_)
      | (with_reducible refine g_store 37 ?_; refine wpList_store_row rfl _ _ _ rfl (w.heap.size + 1) (ltVal l s) rfl rfl 37 (ltVal zLt zSl) G0.out.res (size62 _ _ HR.out) (sz_eq _ _ HR.out) (ltVal_one _ _) ?_))
    exact bodyPost_ret (v := .agg (ltVal l s)) (results_cell_row rfl _ _ (w.heap.size + 1) _ (ltVal l s) (0, 0) _ rfl (setRow_heap _ _ _ _ _ _ G0.out.res) Tryz.underlying37 rfl (size62 _ _ HR.out)) rfl (G0.out.done_same (at_ := at_) (nodes := nodes) (.inr (.inr (.inl ⟨rfl, .inr ⟨hk6, hs1, rfl, rfl⟩⟩))) HM.out hlo rfl rfl (by omega) (by omega))
  have HKS : Hid (l.kind ≠ 6 ∨ l.scope ≠ 1) := Lib.hid (by omega)
  by_cases hk : l.kind = 6
  · have hs1 : l.scope ≠ 1 := fun e => hks ⟨hk, e⟩
    clear hks
    go_enter Tryz.func20, Tryz.ntmps20
    go_wp2_with (with_reducible refine g_alloc 37 ?_; refine wpList_alloc_as rfl _ rfl (ltVal zLt zSl) lt_zero ?_)
    refine (numeric_any 10 _).mono ?_
    rintro e w1 ⟨rfl, rfl⟩
    rw [show numB 10 = false from rfl]
    go_wp2_with fail
    refine (madeSeries_any _ mb xs at_ nodes G0.out.mkr hx hat hnd).mono ?_
    rintro e w3 ⟨ns', ms, mi, ln, zv, gp, fo, vr, vm, a3, n3, rfl, hsm, hm3, ha3, hn3, hk3⟩
    obtain ⟨B, cm, rfl⟩ := own_formA hsm.moves
    obtain ⟨A, cr, rfl⟩ := own_formA hsm.rule.row
    obtain ⟨se, hse⟩ : ∃ se : Ser, se = ⟨ns'.map (·.d), mi, ln, zv, gp, fo, ms⟩ := ⟨_, rfl⟩
    have hv : #[.slice A ns'.length cr, I mi, I ln, .string zv, I gp, I fo, .slice B ms.length cm] = seC se A B cr cm := by subst hse; simp [seC]
    rw [hv]
    have G3 := Lib.hid (G0.out.step hm3 hk3)
    have HT : Hid (w3.there w.heap.size 17 (seC se A B cr cm).size) := Lib.hid (G3.out.there 17 7 (by rw [HZ.out]; omega))
    have HSM := Lib.hid hsm
    have HSE := Lib.hid hse
    have G4 : Hid (TS w mb xs a3 n3 (ltVal { l with series := se } { s with A := A, c := cr, B := B, d := cm }) (w3.setCells w.heap.size 17 (seC se A B cr cm).toList)) := Lib.hid (by have := G3.out.storeAll (seC se A B cr cm).toList 17; rw [put_series] at this; exact this)
    have HK3 := Lib.hid hk3
    clear hm3 hk3 hsm hse hv
    go_wp2_with (first
      | (with_reducible refine g_store 31 ?_; refine wpList_store_mid rfl _ _ _ rfl w.heap.size 17 (seC se A B cr cm) rfl rfl HT.out (se_size _ _ _ _ _) (se_one _ _ _ _ _) ?_)
      | (with_reducible refine g_load 37 ?_; refine wpList_load_Row rfl _ _ rfl w.heap.size rfl (ltVal { l with series := se } { s with A := A, c := cr, B := B, d := cm }) G4.out.row _ Tryz.underlying37 rfl (size62 _ _ HR.out) ?_)
      | (with_reducible refine g_store 37 ?_; refine wpList_store_row rfl _ _ _ rfl (w.heap.size + 1) (ltVal { l with series := se } { s with A := A, c := cr, B := B, d := cm }) rfl rfl 37 (ltVal zLt zSl) G4.out.res (size62 _ _ HR.out) (sz_eq _ _ HR.out) (ltVal_one _ _) ?_))
    exact bodyPost_ret (v := .agg (ltVal { l with series := se } { s with A := A, c := cr, B := B, d := cm })) (results_cell_row rfl _ _ (w.heap.size + 1) _ (ltVal { l with series := se } { s with A := A, c := cr, B := B, d := cm }) (0, 0) _ rfl (setRow_heap _ _ _ _ _ _ G4.out.res) Tryz.underlying37 rfl (size62 _ _ HR.out)) rfl (made_ser_done HM.out hlo hlw HSE.out G4.out HSM.out HK3.out HKS.out (by omega) (by omega))
  · clear hks
    go_enter Tryz.func20, Tryz.ntmps20
    go_wp2_with (with_reducible refine g_alloc 37 ?_; refine wpList_alloc_as rfl _ rfl (ltVal zLt zSl) lt_zero ?_)
    refine (numeric_any 10 _).mono ?_
    rintro e w1 ⟨rfl, rfl⟩
    rw [show numB 10 = false from rfl]
    go_wp2_with fail
    refine (madeSeries_any _ mb xs at_ nodes G0.out.mkr hx hat hnd).mono ?_
    rintro e w3 ⟨ns', ms, mi, ln, zv, gp, fo, vr, vm, a3, n3, rfl, hsm, hm3, ha3, hn3, hk3⟩
    obtain ⟨B, cm, rfl⟩ := own_formA hsm.moves
    obtain ⟨A, cr, rfl⟩ := own_formA hsm.rule.row
    obtain ⟨se, hse⟩ : ∃ se : Ser, se = ⟨ns'.map (·.d), mi, ln, zv, gp, fo, ms⟩ := ⟨_, rfl⟩
    have hv : #[.slice A ns'.length cr, I mi, I ln, .string zv, I gp, I fo, .slice B ms.length cm] = seC se A B cr cm := by subst hse; simp [seC]
    rw [hv]
    have G3 := Lib.hid (G0.out.step hm3 hk3)
    have HT : Hid (w3.there w.heap.size 17 (seC se A B cr cm).size) := Lib.hid (G3.out.there 17 7 (by rw [HZ.out]; omega))
    have HSM := Lib.hid hsm
    have HSE := Lib.hid hse
    have G4 : Hid (TS w mb xs a3 n3 (ltVal { l with series := se } { s with A := A, c := cr, B := B, d := cm }) (w3.setCells w.heap.size 17 (seC se A B cr cm).toList)) := Lib.hid (by have := G3.out.storeAll (seC se A B cr cm).toList 17; rw [put_series] at this; exact this)
    have HK3 := Lib.hid hk3
    clear hm3 hk3 hsm hse hv
    go_wp2_with (first
      | (with_reducible refine g_store 31 ?_; refine wpList_store_mid rfl _ _ _ rfl w.heap.size 17 (seC se A B cr cm) rfl rfl HT.out (se_size _ _ _ _ _) (se_one _ _ _ _ _) ?_)
      | (with_reducible refine g_load 37 ?_; refine wpList_load_Row rfl _ _ rfl w.heap.size rfl (ltVal { l with series := se } { s with A := A, c := cr, B := B, d := cm }) G4.out.row _ Tryz.underlying37 rfl (size62 _ _ HR.out) ?_)
      | (with_reducible refine g_store 37 ?_; refine wpList_store_row rfl _ _ _ rfl (w.heap.size + 1) (ltVal { l with series := se } { s with A := A, c := cr, B := B, d := cm }) rfl rfl 37 (ltVal zLt zSl) G4.out.res (size62 _ _ HR.out) (sz_eq _ _ HR.out) (ltVal_one _ _) ?_))
    exact bodyPost_ret (v := .agg (ltVal { l with series := se } { s with A := A, c := cr, B := B, d := cm })) (results_cell_row rfl _ _ (w.heap.size + 1) _ (ltVal { l with series := se } { s with A := A, c := cr, B := B, d := cm }) (0, 0) _ rfl (setRow_heap _ _ _ _ _ _ G4.out.res) Tryz.underlying37 rfl (size62 _ _ HR.out)) rfl (made_ser_done HM.out hlo hlw HSE.out G4.out HSM.out HK3.out HKS.out (by omega) (by omega))
end Go.Proofs.YtdakcbddlempfaaGreat

/- kalendsref20.made for the window. -/
namespace Go.Proofs.YtdakcbddlempfaaGreat
open Go Go.RowKit

attribute [local go_sem] ltVal_get lt_get27
set_option maxRecDepth 10000 in
set_option maxHeartbeats 4000000 in
theorem made_window (w : World) (lo mb : Nat) (xs : List Int) (at_ nodes : Nat) (l : Lt) (s : Sl) (ns : List NdV) (h : MkSt w mb xs at_ nodes) (hx : XsOK xs) (hat : at_ ≤ 100000) (hmem : LtMem lo w l s ns) (hlo : mb < lo) (_hlw : lo ≤ w.heap.size) (hr : l.ref.length = 32) :
    Calls Tryz.prog 20 #[pt mb, .agg (ltVal l s), I 14] w (MadeP w lo mb xs at_ nodes l s ns 14) := by
  have G0 : Hid (TS w mb xs at_ nodes (ltVal l s) ((w.alloc (.cells (ltVal l s) 37)).alloc (.cells (ltVal zLt zSl) 37))) := Lib.hid (TS.start h)
  have hml := h.lt
  have HM := Lib.hid hmem
  have HR := Lib.hid hr
  have HZ := Lib.hid (ltVal_size l s hr)
  clear h hmem hr
  go_enter Tryz.func20, Tryz.ntmps20
  go_wp2_with (with_reducible refine g_alloc 37 ?_; refine wpList_alloc_as rfl _ rfl (ltVal zLt zSl) lt_zero ?_)
  refine (numeric_any 14 _).mono ?_
  rintro e w1 ⟨rfl, rfl⟩
  rw [show numB 14 = false from rfl]
  go_wp2_with fail
  refine (G0.out.pick hx 5000 (by omega) (by omega) (by omega)).mono ?_
  rintro e w2 ⟨x, rfl, x1, x2, -, g2⟩
  have g2c := g2.cell
  have g2f := g2.froz
  have hw1 : IntKind.i64.wrap (x - 1000) = x - 1000 := by rw [IntKind.wrap_i64]; omega
  have G2 : Hid (TS w mb xs _ nodes (ltVal { l with wfrom := x - 1000 } s) (w2.setCell ⟨w.heap.size, 27, none⟩ (I (x - 1000)))) := Lib.hid (by have := g2.store 27 (I (x - 1000)); rw [put_wfrom] at this; exact this)
  clear g2
  go_wp2_with fail
  clear g2c g2f
  have HGD : Hid (TS w mb xs (at_ + 1) nodes (ltVal { l with wfrom := x - 1000 } s) (w2.setCell ⟨w.heap.size, 27, none⟩ (I (x - 1000))).drew) := Lib.hid G2.out.drew
  have hc27 : (w2.setCell ⟨w.heap.size, 27, none⟩ (I (x - 1000))).cell? ⟨w.heap.size, 27, none⟩ = some (I (x - 1000)) := HGD.out.cell 27
  go_region_law (go_simp; go_at_call 19; refine (HGD.out.pick hx 5000 (by omega) (by omega) (by omega)).mono ?_; rintro e w5 ⟨y, rfl, y1, y2, -, g5⟩; have hc5 : w5.cell? ⟨w.heap.size, 27, none⟩ = some (I (x - 1000)) := g5.cell 27; have hc58 : w5.cell? ⟨w.heap.size, 28, none⟩ = some (I l.wto) := g5.cell 28; have hf58 := g5.froz 28; have hw2 : IntKind.i64.wrap (x - 1000 + y) = x - 1000 + y := (by rw [IntKind.wrap_i64]; omega); have G5 : Hid (TS w mb xs (at_ + 1 + 1) nodes (ltVal { l with wfrom := x - 1000, wto := x - 1000 + y } s) (w5.setCell ⟨w.heap.size, 28, none⟩ (I (x - 1000 + y)))) := Lib.hid (by have := g5.store 28 (I (x - 1000 + y)); rw [put_wto] at this; exact this); clear g5)
  all_goals
    go_wp2_with (first
      | (with_reducible refine g_load 37 ?_; refine wpList_load_Row rfl _ _ rfl w.heap.size rfl (ltVal { l with wfrom := x - 1000, wto := x - 1000 + y } s) G5.out.row _ Tryz.underlying37 rfl (size62 _ _ HR.out) ?_)
      | (with_reducible refine g_store 37 ?_; refine wpList_store_row rfl _ _ _ rfl (w.heap.size + 1) (ltVal { l with wfrom := x - 1000, wto := x - 1000 + y } s) rfl rfl 37 (ltVal zLt zSl) G5.out.res (size62 _ _ HR.out) (sz_eq _ _ HR.out) (ltVal_one _ _) ?_))
    exact bodyPost_ret (v := .agg (ltVal { l with wfrom := x - 1000, wto := x - 1000 + y } s)) (results_cell_row rfl _ _ (w.heap.size + 1) _ (ltVal { l with wfrom := x - 1000, wto := x - 1000 + y } s) (0, 0) _ rfl (setRow_heap _ _ _ _ _ _ G5.out.res) Tryz.underlying37 rfl (size62 _ _ HR.out)) rfl (G5.out.done_same (at_ := at_) (nodes := nodes) (.inr (.inr (.inr (.inl ⟨rfl, rfl, x - 1000, x - 1000 + y, by omega, by omega, by omega, rfl⟩)))) HM.out hlo rfl rfl (by omega) (by omega))
end Go.Proofs.YtdakcbddlempfaaGreat

/- kalendsref20.made for the cells. -/
namespace Go.Proofs.YtdakcbddlempfaaGreat
open Go Go.RowKit

theorem put_cells (l : Lt) (s : Sl) (zs : List Int) (C : Option Addr) (n e : Nat) (hn : zs.length = n) : (ltVal l s).setIfInBounds 29 (.slice C n e) = ltVal { l with cells := zs } { s with C := C, e := e } := by
  subst hn
  simp [ltVal, ltCells]
theorem TS.grown {w0 W w' : World} {mb a nd base e size n : Nat} {xs : List Int} {cs : Array Value} {v : Value} {ys : List Value} {o : Obj} (h : TS w0 mb xs a nd cs W) (hown : W.ownsRow base e size v n ys) (hb : w0.heap.size + 1 < base) (hg : (W.alloc o).grownBy w' v.ownBlock) : TS w0 mb xs a nd cs w' := by
  have h1 := h.hm
  have h4 := h.lt
  have hs := h.keep.size
  have hB : ∀ k, k < W.heap.size → k < base → w'.heap[k]? = W.heap[k]? := fun k hk hkb => by rw [hg.block k (by simp; omega) (own_ge hown k hkb), Below.heap_alloc W o k hk]
  exact ⟨h.hm, (mk_grown h.mkr hown (by omega) hg).1, ⟨hg.os.trans h.keep.os, hg.tape.trans h.keep.tape, hg.output.trans h.keep.output, by have := hg.size; simp at this; omega, fun k hk hn => (hB k (by omega) (by omega)).trans (h.keep.block k hk hn)⟩, (hB _ (by omega) (by omega)).trans h.var, (hB _ (by omega) (by omega)).trans h.res⟩
structure CP (nn : Int) (j : Nat) (zs : List Int) : Prop where
  len : zs.length = j
  rng : ∀ z ∈ zs, 0 ≤ z ∧ z < nn
  up : zs.Pairwise (· < ·)
  lo : 0 ≤ nn
  hi : nn ≤ 3 + 2 * j
  top : ∀ z ∈ zs, z ≤ 1 + 2 * (j : Int)
theorem CP.more {nn : Int} {j : Nat} {zs : List Int} (h : CP nn j zs) {r : Int} (h0 : 0 ≤ r) (h1 : r < 2) : CP (nn + 1 + r) (j + 1) (zs ++ [nn]) := by
  have hl := h.lo
  have hh := h.hi
  refine ⟨by rw [List.length_append, h.len]; rfl, fun z hz => ?_, ?_, by omega, by push_cast; omega, fun z hz => ?_⟩
  · rcases List.mem_append.1 hz with hz | hz
    · have := h.rng z hz; omega
    · rw [List.mem_singleton.1 hz]; omega
  · rw [List.pairwise_append]
    exact ⟨h.up, List.pairwise_singleton _ _, fun a ha b hb => by rw [List.mem_singleton.1 hb]; exact (h.rng a ha).2⟩
  · rcases List.mem_append.1 hz with hz | hz
    · have := h.top z hz; push_cast; omega
    · rw [List.mem_singleton.1 hz]; push_cast; omega
def ClRel (w : World) (mb : Nat) (xs : List Int) (a0 nodes : Nat) (l : Lt) (s : Sl) (kk : Int) (n i : Value) (wr : World) : Prop :=
  ∃ (j : Nat) (nn : Int) (zs : List Int) (a' : Nat) (C : Option Addr) (e : Nat), (j : Int) ≤ kk ∧ i = I j ∧ n = I nn ∧ CP nn j zs ∧ a' ≤ a0 + j ∧
    TS w mb xs a' nodes (ltVal { l with cells := zs } { s with C := C, e := e }) wr ∧ wr.ownsRow (w.heap.size + 2) 3 1 (.slice C j e) j (zs.map I)
theorem cells_done {w wr : World} {lo mb a nodes at_ j e : Nat} {xs : List Int} {l : Lt} {s : Sl} {ns : List NdV} {zs : List Int} {nn : Int} {C : Option Addr} (hm : LtMem lo w l s ns) (hlo : mb < lo) (hlw : lo ≤ w.heap.size) (h : TS w mb xs a nodes (ltVal { l with cells := zs } { s with C := C, e := e }) wr)
    (ho : wr.ownsRow (w.heap.size + 2) 3 1 (.slice C j e) j (zs.map I)) (hp : CP nn j zs) (h1 : 1 ≤ j) (h5 : j ≤ 5) (ha : a ≤ at_ + 400) :
    MadeP w lo mb xs at_ nodes l s ns 15 (.returned (.agg (ltVal { l with cells := zs } { s with C := C, e := e }))) (wr.setRow (w.heap.size + 1) (ltVal { l with cells := zs } { s with C := C, e := e })) := by
  have hml := h.hm
  have hl := hp.len
  have hpl := hp.lo
  have hhi := hp.hi
  refine h.done (.inr (.inr (.inr (.inr (.inl ⟨rfl, rfl, zs, rfl, ⟨by omega, by omega, fun z hz => ?_, hp.up⟩⟩))))) ?_ (fun h => absurd rfl h) ha (by omega)
  · refine ⟨(hp.rng z hz).1, ?_⟩
    have := hp.top z hz
    omega
  · have k := hm.mkeep (h.fin (ltVal { l with cells := zs } { s with C := C, e := e })).2 hlo
    refine ⟨k.rule, k.names, k.moves, ?_⟩
    show World.ownsRow _ _ _ _ (.slice C zs.length e) zs.length _
    rw [hl]
    exact ownsRow_base' (ownsRow_blocks ho fun k hk _ => setRow_other _ _ k _ (by omega)) (by omega)
attribute [local go_sem] ltVal_get lt_get29
set_option maxRecDepth 10000 in
set_option maxHeartbeats 4000000 in
theorem made_cells (w : World) (lo mb : Nat) (xs : List Int) (at_ nodes : Nat) (l : Lt) (s : Sl) (ns : List NdV) (h : MkSt w mb xs at_ nodes) (hx : XsOK xs) (hat : at_ ≤ 100000) (hc0 : l.cells = []) (hC : s.C = none) (he : s.e = 0) (hmem : LtMem lo w l s ns) (hlo : mb < lo) (hlw : lo ≤ w.heap.size) (hr : l.ref.length = 32) :
    Calls Tryz.prog 20 #[pt mb, .agg (ltVal l s), I 15] w (MadeP w lo mb xs at_ nodes l s ns 15) := by
  have G0 : Hid (TS w mb xs at_ nodes (ltVal l s) ((w.alloc (.cells (ltVal l s) 37)).alloc (.cells (ltVal zLt zSl) 37))) := Lib.hid (TS.start h)
  have hml := h.lt
  have HM := Lib.hid hmem
  have HR := Lib.hid hr
  have HZ := Lib.hid (ltVal_size l s hr)
  clear h hmem hr
  go_enter Tryz.func20, Tryz.ntmps20
  go_wp2_with (with_reducible refine g_alloc 37 ?_; refine wpList_alloc_as rfl _ rfl (ltVal zLt zSl) lt_zero ?_)
  refine (numeric_any 15 _).mono ?_
  rintro e w1 ⟨rfl, rfl⟩
  rw [show numB 15 = false from rfl]
  go_wp2_with fail
  refine (G0.out.pick hx 4 (by omega) (by omega) (by omega)).mono ?_
  rintro e w2 ⟨n0, rfl, n1, n2, -, g2⟩
  have G2 := Lib.hid g2
  clear g2
  go_wp2_with fail
  refine (G2.out.pick hx 5 (by omega) (by omega) (by omega)).mono ?_
  rintro e w3 ⟨k0, rfl, k1, k2, -, g3⟩
  have G3 := Lib.hid g3
  clear g3
  go_wp2_with fail
  have GL : Hid (TS w mb xs (at_ + 1 + 1) nodes (ltVal { l with cells := [] } { s with C := none, e := 0 }) w3) := Lib.hid (by have := G3.out; rw [show ltVal { l with cells := [] } { s with C := none, e := 0 } = ltVal l s by unfold ltVal; rw [hc0, hC, he]; rfl]; exact this)
  clear G0 G2 G3 hc0 hC he
  go_loopw [10, 12] (fun n i wr => ClRel w mb xs (at_ + 2) nodes l s (1 + k0) n i wr) (fun _ i _ => (1 + k0 - intOf i).toNat)
  case atStart => exact ⟨0, n0, [], _, none, 0, by omega, rfl, rfl, ⟨rfl, (fun z hz => nomatch hz), List.Pairwise.nil, n1, by omega, (fun z hz => nomatch hz)⟩, by omega, GL.out, World.ownsRow_nil _ _ _ _⟩
  case round =>
    obtain ⟨j, nn, zs, a', C, e, hj, rfl, rfl, hcp, ha', hts, hown⟩ := hrel
    have HG := Lib.hid hts
    have HO := Lib.hid hown
    have HP := Lib.hid hcp
    have hlt1 := hts.lt
    have hpl := hcp.lo
    have hhi := hcp.hi
    have hc29 : wr.cell? ⟨w.heap.size, 29, none⟩ = some (.slice C j e) := by rw [hts.cell, ← hcp.len]; rfl
    clear hts hown hcp GL
    by_cases hlt : (j : Int) < 1 + k0
    · go_wp2_with (at_builtin; refine wpList_app_int rfl _ _ rfl (w.heap.size + 2) _ j (zs.map I) rfl HO.out nn rfl (by omega) (by omega) ?_)
      intro v' w4 hown' hgrow
      obtain ⟨gg, cap, rfl⟩ := ownsRow_succ hown'
      have hg4 := HG.out.grown HO.out (by omega) hgrow
      have hc4 : w4.cell? ⟨w.heap.size, 29, none⟩ = some (.slice C zs.length e) := hg4.cell 29
      have hf4 := hg4.froz 29
      have G4 : Hid (TS w mb xs a' nodes (ltVal { l with cells := zs ++ [nn] } { s with C := some ⟨gg, 0, none⟩, e := cap }) (w4.setCell ⟨w.heap.size, 29, none⟩ (.slice (some ⟨gg, 0, none⟩) (j + 1) cap))) := Lib.hid (by have := hg4.store 29 (.slice (some ⟨gg, 0, none⟩) (j + 1) cap); rw [put_cells _ _ (zs ++ [nn]) _ _ _ (by rw [List.length_append, HP.out.len]; rfl)] at this; exact this)
      have HO4 := Lib.hid (ownsRow_setCell_below (a := ⟨w.heap.size, 29, none⟩) hown' (by show w.heap.size < _; omega) (.slice (some ⟨gg, 0, none⟩) (j + 1) cap))
      clear hown' hgrow hg4 hc29
      go_wp2_with fail
      refine (G4.out.pick hx 2 (by omega) (by omega) (by omega)).mono ?_
      rintro e w5 ⟨r, rfl, r1, r2, hk5, g5⟩
      have G5 := Lib.hid g5
      have HO5 := Lib.hid (ownsRow_mkeep HO4.out hk5 (by omega))
      clear hk5 g5 hc4 hf4
      go_wp2_with fail
      go_roundw
      case rel => exact ⟨j + 1, _, zs ++ [nn], _, _, _, by omega, by go_num, by first | rfl | go_num, HP.out.more r1 r2, by omega, G5.out, by rw [List.map_append]; exact HO5.out⟩
      case measure => simp [intOf]; omega
    · go_wp2_with (first
        | (with_reducible refine g_load 37 ?_; refine wpList_load_Row rfl _ _ rfl w.heap.size rfl (ltVal { l with cells := zs } { s with C := C, e := e }) HG.out.row _ Tryz.underlying37 rfl (size62 _ _ HR.out) ?_)
        | (with_reducible refine g_store 37 ?_; refine wpList_store_row rfl _ _ _ rfl (w.heap.size + 1) (ltVal { l with cells := zs } { s with C := C, e := e }) rfl rfl 37 (ltVal zLt zSl) HG.out.res (size62 _ _ HR.out) (sz_eq _ _ HR.out) (ltVal_one _ _) ?_))
      exact bodyPost_ret (v := .agg (ltVal { l with cells := zs } { s with C := C, e := e })) (results_cell_row rfl _ _ (w.heap.size + 1) _ (ltVal { l with cells := zs } { s with C := C, e := e }) (0, 0) _ rfl (setRow_heap _ _ _ _ _ _ HG.out.res) Tryz.underlying37 rfl (size62 _ _ HR.out)) rfl (cells_done HM.out hlo hlw HG.out HO.out HP.out (by omega) (by omega) (by omega))
end Go.Proofs.YtdakcbddlempfaaGreat

/- kalendsref20.made for the digest; made for every field. -/
namespace Go.Proofs.YtdakcbddlempfaaGreat
open Go Go.RowKit

theorem put_ref (l : Lt) (s : Sl) (o : Nat) (x : Int) (h0 : 0 ≤ x) (h1 : x < 256) : ∃ b : UInt8, (ltVal l s).setIfInBounds (30 + o) (.int .u8 x) = ltVal { l with ref := l.ref.set o b } s := by
  obtain ⟨n, rfl⟩ := Int.eq_ofNat_of_zero_le h0
  refine ⟨UInt8.ofNat n, ?_⟩
  have hb : Extern.Stop.cell (UInt8.ofNat n) = .int .u8 (n : Int) := by
    unfold Extern.Stop.cell
    simp
    omega
  unfold ltVal ltCells refCells
  rw [List.setIfInBounds_toArray, List.set_append_right _ _ (by simp), List.map_set, hb]
  simp
def RfRel (w : World) (mb : Nat) (xs : List Int) (a0 nodes : Nat) (l : Lt) (s : Sl) (i : Value) (wr : World) : Prop :=
  ∃ (j : Nat) (r : List UInt8) (a' : Nat), j ≤ 4 ∧ i = I j ∧ r.length = 32 ∧ a' ≤ a0 + j ∧ TS w mb xs a' nodes (ltVal { l with ref := r } s) wr
attribute [local go_sem] ltVal_get
set_option maxRecDepth 10000 in
set_option maxHeartbeats 4000000 in
theorem made_ref (w : World) (lo mb : Nat) (xs : List Int) (at_ nodes : Nat) (l : Lt) (s : Sl) (ns : List NdV) (h : MkSt w mb xs at_ nodes) (hx : XsOK xs) (hat : at_ ≤ 100000) (hmem : LtMem lo w l s ns) (hlo : mb < lo) (_hlw : lo ≤ w.heap.size) (hr : l.ref.length = 32) :
    Calls Tryz.prog 20 #[pt mb, .agg (ltVal l s), I 16] w (MadeP w lo mb xs at_ nodes l s ns 16) := by
  have G0 : Hid (TS w mb xs at_ nodes (ltVal l s) ((w.alloc (.cells (ltVal l s) 37)).alloc (.cells (ltVal zLt zSl) 37))) := Lib.hid (TS.start h)
  have hml := h.lt
  have HM := Lib.hid hmem
  have HR := Lib.hid hr
  have HZ := Lib.hid (ltVal_size l s hr)
  clear h hmem hr
  go_enter Tryz.func20, Tryz.ntmps20
  go_wp2_with (with_reducible refine g_alloc 37 ?_; refine wpList_alloc_as rfl _ rfl (ltVal zLt zSl) lt_zero ?_)
  refine (numeric_any 16 _).mono ?_
  rintro e w1 ⟨rfl, rfl⟩
  rw [show numB 16 = false from rfl]
  go_wp2_with fail
  clear HZ
  go_loopw [13] (fun i wr => RfRel w mb xs at_ nodes l s i wr) (fun i _ => (4 - intOf i).toNat)
  case atStart => exact ⟨0, l.ref, _, by omega, rfl, HR.out, by omega, G0.out⟩
  case round =>
    obtain ⟨j, r, a', hj, rfl, hrl, ha', hts⟩ := hrel
    have HG := Lib.hid hts
    have HRL := Lib.hid hrl
    have hlt1 := hts.lt
    clear hts hrl G0
    by_cases hlt : (j : Int) < 4
    · have hj4 : j = 0 ∨ j = 1 ∨ j = 2 ∨ j = 3 := by omega
      rcases hj4 with rfl | rfl | rfl | rfl
      · go_wp2_with fail
        refine (HG.out.pick hx 256 (by omega) (by omega) (by omega)).mono ?_
        rintro e w2 ⟨x, rfl, x1, x2, -, g2⟩
        have hcx : ∃ v, w2.cell? ⟨w.heap.size, 30, none⟩ = some v := ⟨_, (g2.cell 30).trans (Array.getElem?_eq_getElem (by rw [ltVal_size _ _ HRL.out]; omega))⟩
        obtain ⟨v0, hc2⟩ := hcx
        have hf2 := g2.froz 30
        have hwx : IntKind.u8.wrap x = x := by rw [IntKind.wrap_u8]; omega
        obtain ⟨b, hb⟩ := put_ref { l with ref := r } s 0 x x1 x2
        have G3 : Hid (TS w mb xs (a' + 1) nodes (ltVal { l with ref := r.set 0 b } s) (w2.setCell ⟨w.heap.size, 30, none⟩ (.int .u8 x))) := Lib.hid (by have := g2.store 30 (.int .u8 x); rw [show 30 = 30 + 0 from rfl, hb] at this; exact this)
        have HLN : Hid ((r.set 0 b).length = 32) := Lib.hid (by rw [List.length_set]; exact HRL.out)
        clear g2 hb
        go_wp2_with fail
        go_roundw
        case rel => exact ⟨1, _, _, by omega, by go_num, HLN.out, by omega, G3.out⟩
        case measure => simp [intOf]
      · go_wp2_with fail
        refine (HG.out.pick hx 256 (by omega) (by omega) (by omega)).mono ?_
        rintro e w2 ⟨x, rfl, x1, x2, -, g2⟩
        have hcx : ∃ v, w2.cell? ⟨w.heap.size, 38, none⟩ = some v := ⟨_, (g2.cell 38).trans (Array.getElem?_eq_getElem (by rw [ltVal_size _ _ HRL.out]; omega))⟩
        obtain ⟨v0, hc2⟩ := hcx
        have hf2 := g2.froz 38
        have hwx : IntKind.u8.wrap x = x := by rw [IntKind.wrap_u8]; omega
        obtain ⟨b, hb⟩ := put_ref { l with ref := r } s 8 x x1 x2
        have G3 : Hid (TS w mb xs (a' + 1) nodes (ltVal { l with ref := r.set 8 b } s) (w2.setCell ⟨w.heap.size, 38, none⟩ (.int .u8 x))) := Lib.hid (by have := g2.store 38 (.int .u8 x); rw [show 38 = 30 + 8 from rfl, hb] at this; exact this)
        have HLN : Hid ((r.set 8 b).length = 32) := Lib.hid (by rw [List.length_set]; exact HRL.out)
        clear g2 hb
        go_wp2_with fail
        go_roundw
        case rel => exact ⟨2, _, _, by omega, by go_num, HLN.out, by omega, G3.out⟩
        case measure => simp [intOf]
      · go_wp2_with fail
        refine (HG.out.pick hx 256 (by omega) (by omega) (by omega)).mono ?_
        rintro e w2 ⟨x, rfl, x1, x2, -, g2⟩
        have hcx : ∃ v, w2.cell? ⟨w.heap.size, 46, none⟩ = some v := ⟨_, (g2.cell 46).trans (Array.getElem?_eq_getElem (by rw [ltVal_size _ _ HRL.out]; omega))⟩
        obtain ⟨v0, hc2⟩ := hcx
        have hf2 := g2.froz 46
        have hwx : IntKind.u8.wrap x = x := by rw [IntKind.wrap_u8]; omega
        obtain ⟨b, hb⟩ := put_ref { l with ref := r } s 16 x x1 x2
        have G3 : Hid (TS w mb xs (a' + 1) nodes (ltVal { l with ref := r.set 16 b } s) (w2.setCell ⟨w.heap.size, 46, none⟩ (.int .u8 x))) := Lib.hid (by have := g2.store 46 (.int .u8 x); rw [show 46 = 30 + 16 from rfl, hb] at this; exact this)
        have HLN : Hid ((r.set 16 b).length = 32) := Lib.hid (by rw [List.length_set]; exact HRL.out)
        clear g2 hb
        go_wp2_with fail
        go_roundw
        case rel => exact ⟨3, _, _, by omega, by go_num, HLN.out, by omega, G3.out⟩
        case measure => simp [intOf]
      · go_wp2_with fail
        refine (HG.out.pick hx 256 (by omega) (by omega) (by omega)).mono ?_
        rintro e w2 ⟨x, rfl, x1, x2, -, g2⟩
        have hcx : ∃ v, w2.cell? ⟨w.heap.size, 54, none⟩ = some v := ⟨_, (g2.cell 54).trans (Array.getElem?_eq_getElem (by rw [ltVal_size _ _ HRL.out]; omega))⟩
        obtain ⟨v0, hc2⟩ := hcx
        have hf2 := g2.froz 54
        have hwx : IntKind.u8.wrap x = x := by rw [IntKind.wrap_u8]; omega
        obtain ⟨b, hb⟩ := put_ref { l with ref := r } s 24 x x1 x2
        have G3 : Hid (TS w mb xs (a' + 1) nodes (ltVal { l with ref := r.set 24 b } s) (w2.setCell ⟨w.heap.size, 54, none⟩ (.int .u8 x))) := Lib.hid (by have := g2.store 54 (.int .u8 x); rw [show 54 = 30 + 24 from rfl, hb] at this; exact this)
        have HLN : Hid ((r.set 24 b).length = 32) := Lib.hid (by rw [List.length_set]; exact HRL.out)
        clear g2 hb
        go_wp2_with fail
        go_roundw
        case rel => exact ⟨4, _, _, by omega, by go_num, HLN.out, by omega, G3.out⟩
        case measure => simp [intOf]
    · have HR0 := HR
      clear HR
      have HR : Hid (r.length = 32) := HRL
      go_wp2_with (first
        | (with_reducible refine g_load 37 ?_; refine wpList_load_Row rfl _ _ rfl w.heap.size rfl (ltVal { l with ref := r } s) HG.out.row _ Tryz.underlying37 rfl (size62 _ _ HR.out) ?_)
        | (with_reducible refine g_store 37 ?_; refine wpList_store_row rfl _ _ _ rfl (w.heap.size + 1) (ltVal { l with ref := r } s) rfl rfl 37 (ltVal zLt zSl) HG.out.res (size62 _ _ HR.out) (sz_eq _ _ HR.out) (ltVal_one _ _) ?_))
      exact bodyPost_ret (v := .agg (ltVal { l with ref := r } s)) (results_cell_row rfl _ _ (w.heap.size + 1) _ (ltVal { l with ref := r } s) (0, 0) _ rfl (setRow_heap _ _ _ _ _ _ HG.out.res) Tryz.underlying37 rfl (size62 _ _ HR.out)) rfl (HG.out.done_same (at_ := at_) (nodes := nodes) (.inr (.inr (.inr (.inr (.inr ⟨rfl, rfl, r, HR.out, rfl⟩))))) HM.out hlo rfl rfl (by omega) (by omega))
theorem made_any (w : World) (lo mb : Nat) (xs : List Int) (at_ nodes : Nat) (l : Lt) (s : Sl) (ns : List NdV) (f : Nat) (h : MkSt w mb xs at_ nodes) (hx : XsOK xs) (hat : at_ ≤ 100000) (hnd : nodes ≤ 100000) (hmem : LtMem lo w l s ns) (hlo : mb < lo) (hlw : lo ≤ w.heap.size) (hr : l.ref.length = 32) (hf : f < 17)
    (hC : f = 15 → l.cells = [] ∧ s.C = none ∧ s.e = 0) : Calls Tryz.prog 20 #[pt mb, .agg (ltVal l s), I f] w (MadeP w lo mb xs at_ nodes l s ns f) := by
  cases hn : numB f with
  | true => exact made_num w lo mb xs at_ nodes l s ns f h hx hat hmem hlo hr hf hn
  | false =>
    have h5 : f = 9 ∨ f = 10 ∨ f = 14 ∨ f = 15 ∨ f = 16 := by simp [numB] at hn; omega
    rcases h5 with rfl | rfl | rfl | rfl | rfl
    · exact made_move w lo mb xs at_ nodes l s ns h hx hat hmem hlo hlw hr
    · exact made_series w lo mb xs at_ nodes l s ns h hx hat hnd hmem hlo hlw hr
    · exact made_window w lo mb xs at_ nodes l s ns h hx hat hmem hlo hlw hr
    · obtain ⟨h1, h2, h3⟩ := hC rfl
      exact made_cells w lo mb xs at_ nodes l s ns h hx hat h1 h2 h3 hmem hlo hlw hr
    · exact made_ref w lo mb xs at_ nodes l s ns h hx hat hmem hlo hlw hr
end Go.Proofs.YtdakcbddlempfaaGreat

/- kalendsref20.Made: the letters that are made. -/
namespace Go.Proofs.YtdakcbddlempfaaGreat
open Go Go.RowKit

def bareF (f : Int) : Bool := (f == 4) || (f == 5) || (f == 6) || (f == 12) || (f == 10)
def skipB (k : Int) (bare : Bool) (f : Nat) : Bool := !(usesB k f) || (bare && bareF f)
/-- The letter behind the fields below j. -/
inductive MadeTo (bare : Bool) (l0 : Lt) : Nat → Lt → List NdV → Prop
  | zero : MadeTo bare l0 0 l0 []
  | skip {j : Nat} {l : Lt} {ns : List NdV} : MadeTo bare l0 j l ns → skipB l0.kind bare j = true → MadeTo bare l0 (j + 1) l ns
  | step {j : Nat} {l l' : Lt} {ns ns' : List NdV} : MadeTo bare l0 j l ns → skipB l0.kind bare j = false → MadeF l ns j l' ns' → MadeTo bare l0 (j + 1) l' ns'
def adjust (l : Lt) : Lt := if l.kind = 6 ∧ l.scope = 3 then { l with day := 0 } else if l.kind = 5 ∧ l.other = l.person then { l with other := l.other + 1 } else l
/-- The result's variable (zero), the maker behind it, the letter's variable at lb. -/
structure MS (w0 : World) (xs : List Int) (a nd lb : Nat) (cs : Array Value) (W : World) : Prop where
  mkr : MkSt W (w0.heap.size + 1) xs a nd
  keep : Below w0.heap.size w0 W
  hb : w0.heap.size + 1 < lb
  var : W.heap[lb]? = some (.cells cs 37 (0, 0))
  res : W.heap[w0.heap.size]? = some (.cells (ltVal zLt zSl) 37 (0, 0))
section
variable {w0 W W' : World} {a a' nd nd' lb : Nat} {xs : List Int} {cs : Array Value}
theorem MS.lt (h : MS w0 xs a nd lb cs W) : lb < W.heap.size := (Array.getElem?_eq_some_iff.1 h.var).1
theorem MS.cell (h : MS w0 xs a nd lb cs W) : ∀ i, W.cell? ⟨lb, i, none⟩ = cs[i]? := fun i => cell_of_row W _ i _ _ _ h.var
theorem MS.froz (h : MS w0 xs a nd lb cs W) : ∀ i, W.frozen? ⟨lb, i, none⟩ = false := fun i => frozen_of_row W _ i _ _ h.var
theorem MS.row (h : MS w0 xs a nd lb cs W) : Row W lb cs := ⟨h.lt, h.cell⟩
theorem MS.step (h : MS w0 xs a nd lb cs W) (hm : MkSt W' (w0.heap.size + 1) xs a' nd') (hk : MKeep (w0.heap.size + 1) W W') : MS w0 xs a' nd' lb cs W' := by
  have h1 := h.hb
  have h2 := h.lt
  refine ⟨hm, ?_, h.hb, (hk.block _ (by omega) (by omega)).trans h.var, (hk.block _ (by omega) (by omega)).trans h.res⟩
  exact ⟨hk.os.trans h.keep.os, hk.tape.trans h.keep.tape, hk.output.trans h.keep.output, Nat.le_trans h.keep.size hk.size, fun k hk' => (hk.block k (by omega) (by omega)).trans (h.keep.block k hk')⟩
theorem MS.below (h : MS w0 xs a nd lb cs W) (hb : Below W.heap.size W W') : MS w0 xs a nd lb cs W' := h.step (h.mkr.grow hb) (MKeep.of_below hb)
theorem MS.drew (h : MS w0 xs a nd lb cs W) : MS w0 xs a nd lb cs W.drew := ⟨h.mkr, ⟨h.keep.os, h.keep.tape, h.keep.output, h.keep.size, h.keep.block⟩, h.hb, h.var, h.res⟩
theorem MS.pick (h : MS w0 xs a nd lb cs W) (hx : XsOK xs) (n : Int) (ha : a ≤ 1000000000) (hn : 0 < n) (hn2 : n ≤ 1000000000000000000) :
    Calls Tryz.prog 19 #[pt (w0.heap.size + 1), I n] W fun e W' => ∃ r, e = .returned (I r) ∧ 0 ≤ r ∧ r < n ∧ MKeep (w0.heap.size + 1) W W' ∧ MS w0 xs (a + 1) nd lb cs W' :=
  (pick_any W _ xs a nd n h.mkr hx ha hn hn2).mono fun _ _ ⟨r, h1, h2, h3, h4, h5⟩ => ⟨r, h1, h2, h3, h5, h.step h4 h5⟩
theorem MS.store (h : MS w0 xs a nd lb cs W) (o : Nat) (v : Value) : MS w0 xs a nd lb (cs.setIfInBounds o v) (W.setCell ⟨lb, o, none⟩ v) := by
  have h1 := h.hb
  refine ⟨h.mkr.far _ _ (by show w0.heap.size + 1 < lb; omega), h.keep.setCell (p := ⟨lb, o, none⟩) (by show w0.heap.size ≤ lb; omega) _, h.hb, heap_setCell_same W _ o _ _ _ h.var, (heap_setCell_other W _ _ v (by show w0.heap.size ≠ lb; omega)).trans h.res⟩
/-- The whole letter stored. -/
theorem MS.put (h : MS w0 xs a nd lb cs W) (ds : Array Value) : MS w0 xs a nd lb ds (W.setRow lb ds) := by
  have h1 := h.hb
  have hb : Below w0.heap.size w0 (W.setRow lb ds) := below_setRow h.keep (by omega) ds
  refine ⟨?_, hb, h.hb, setRow_heap _ _ _ _ _ _ h.var, (setRow_other W _ _ _ (by omega)).trans h.res⟩
  obtain ⟨A', c', g1, g2⟩ := h.mkr
  exact ⟨A', c', (setRow_other W _ _ _ (by omega)).trans g1, g2.keep (below_setRow (Below.refl _ W) (by omega) _)⟩
end
theorem LtMem.put {lo lb : Nat} {W : World} {l : Lt} {s : Sl} {ns : List NdV} (h : LtMem lo W l s ns) (hb : lb < lo) (ds : Array Value) : LtMem lo (W.setRow lb ds) l s ns :=
  ⟨h.rule.of_blocks (by simp) fun k hk _ => setRow_other _ _ k _ (by omega), h.names, ownsRow_blocks h.moves fun k hk _ => setRow_other _ _ k _ (by omega), ownsRow_blocks h.cells fun k hk _ => setRow_other _ _ k _ (by omega)⟩
theorem LtMem.set {lo lb : Nat} {W : World} {l l' : Lt} {s : Sl} {ns : List NdV} (h : LtMem lo W l s ns) (hb : lb < lo) (o : Nat) (u : Value) (h1 : l'.series = l.series) (h2 : l'.cells = l.cells) : LtMem lo (W.setCell ⟨lb, o, none⟩ u) l' s ns :=
  ⟨by rw [h1]; exact h.rule.put lb o u hb, by rw [h1]; exact h.names, by rw [h1]; exact ownsRow_setCell_below (a := ⟨lb, o, none⟩) h.moves hb u, by rw [h2]; exact ownsRow_setCell_below (a := ⟨lb, o, none⟩) h.cells hb u⟩
def startLt (k f t : Int) : Lt := { zLt with kind := k, src := f, dst := t }
/-- What 'Made' gives. -/
structure MadeLt (l : Lt) (ns : List NdV) : Prop where
  made : ∃ bare k f t l1, 1 ≤ k ∧ k ≤ 18 ∧ 0 ≤ f ∧ f ≤ 15 ∧ 0 ≤ t ∧ t ≤ 15 ∧ f ≠ t ∧ (bare = true → k = 8) ∧ MadeTo bare (startLt k f t) 17 l1 ns ∧ l = adjust l1
  ref : l.ref.length = 32
def MadeQ (w : World) (e : Ending) (w' : World) : Prop := ∃ l s ns, e = .returned (.agg (ltVal l s)) ∧ MadeLt l ns ∧ LtMem (w.heap.size + 2) w' l s ns ∧ Below w.heap.size w w'
attribute [local go_sem] ltVal_get lt_get0 lt_get1 lt_get7 lt_get8 lt_get10
theorem put_src (l : Lt) (s : Sl) (x : Int) : (ltVal l s).setIfInBounds 1 (I x) = ltVal { l with src := x } s := by simp [ltVal, ltCells]
theorem put_dst (l : Lt) (s : Sl) (x : Int) : (ltVal l s).setIfInBounds 2 (I x) = ltVal { l with dst := x } s := by simp [ltVal, ltCells]
theorem ints_take {w : World} {B : Nat} {A : Option Addr} {xs : List Int} (h : IntsAt w B A xs) (n : Nat) : IntsAt w B A (xs.take n) := by
  rcases h with h | ⟨b, off, hA, hbB, hc⟩
  · exact .inl (by simp [h])
  · refine .inr ⟨b, off, hA, hbB, fun j hj => ?_⟩
    rw [List.length_take] at hj
    rw [hc j (by omega), List.getElem?_take_of_lt (by omega)]
theorem startMk {w : World} {A : Option Addr} {xs : List Int} {m c : Nat} (hA : IntsAt w w.heap.size A xs) (hm : (xs.take 60).length = m) (z : Array Value) (t : TypeId) :
    MkSt ((w.alloc (.cells z t)).alloc (.cells #[.slice A m c, .int .i64 0, .int .i64 2, .int .i64 0] 57)) (w.heap.size + 1) (xs.take 60) 0 0 := by
  subst hm
  have h2 := heap_alloc2_new w (.cells z t) (.cells #[.slice A (xs.take 60).length c, .int .i64 0, .int .i64 2, .int .i64 0] 57)
  refine ⟨A, c, h2, ?_⟩
  have hb := below_trans (below_var w (.cells z t)) (below_var _ (.cells #[.slice A (xs.take 60).length c, .int .i64 0, .int .i64 2, .int .i64 0] 57))
  rcases (ints_take hA 60).keep hb with h | ⟨b, off, h1, h3, h4⟩
  · exact .inl h
  · exact .inr ⟨b, off, h1, by omega, h4⟩
theorem MS.start {w w1 : World} {xs : List Int} {a nd : Nat} {o : Obj} {cs : Array Value} (hm : MkSt w1 (w.heap.size + 1) xs a nd) (hk : MKeep (w.heap.size + 1) ((w.alloc (.cells (ltVal zLt zSl) 37)).alloc o) w1) :
    MS w xs a nd w1.heap.size cs (w1.alloc (.cells cs 37)) := by
  have hs := hk.size
  simp only [World.size_alloc] at hs
  have hb0 := below_trans (below_var w (.cells (ltVal zLt zSl) 37)) (below_var _ o)
  have hb1 := below_var w1 (.cells cs 37)
  refine ⟨hm.grow hb1, ?_, by omega, heap_alloc_last w1 _, ?_⟩
  · exact ⟨hb1.os.trans (hk.os.trans hb0.os), hb1.tape.trans (hk.tape.trans hb0.tape), hb1.output.trans (hk.output.trans hb0.output), by simp; omega, fun k hk' => by rw [hb1.block k (by omega), hk.block k (by simp; omega) (by omega), hb0.block k hk']⟩
  · rw [hb1.block _ (by omega), hk.block _ (by simp; omega) (by omega)]
    exact heap_alloc2_old w _ _
def MCut1 (w : World) (ys : List Int) (k0 f0 : Int) (lb : Nat) (p q r : Value) (wx : World) : Prop :=
  p = .pointer (some ⟨w.heap.size, 0, none⟩) ∧ q = pt (w.heap.size + 1) ∧ r = .pointer (some ⟨lb, 0, none⟩) ∧ ∃ t, 0 ≤ t ∧ t ≤ 15 ∧ f0 ≠ t ∧ MS w ys 3 0 lb (ltVal (startLt (1 + k0) f0 t) zSl) wx
def MCut2 (w : World) (ys : List Int) (k0 f0 t : Int) (lb : Nat) (p q r b : Value) (wx : World) : Prop :=
  p = .pointer (some ⟨w.heap.size, 0, none⟩) ∧ q = pt (w.heap.size + 1) ∧ r = .pointer (some ⟨lb, 0, none⟩) ∧ ∃ a bare, b = .bool bare ∧ (bare = true → 1 + k0 = 8) ∧ a ≤ 4 ∧ MS w ys a 0 lb (ltVal (startLt (1 + k0) f0 t) zSl) wx
theorem MadeF.kind {l l' : Lt} {ns ns' : List NdV} {f : Nat} (h : MadeF l ns f l' ns') : l'.kind = l.kind := by
  rcases h with ⟨_, x, _, _, _, rfl, _⟩ | ⟨_, _, ⟨_, m, rfl, _⟩ | ⟨_, _, rfl⟩⟩ | ⟨_, ⟨_, se, rfl, _⟩ | ⟨_, _, rfl, _⟩⟩ | ⟨_, _, a, b, _, _, _, rfl⟩ | ⟨_, _, zs, rfl, _⟩ | ⟨_, _, r, _, rfl⟩
  · unfold setNum; split <;> rfl
  all_goals rfl
theorem MadeTo.kind {bare : Bool} {l0 l : Lt} {j : Nat} {ns : List NdV} (h : MadeTo bare l0 j l ns) : l.kind = l0.kind := by
  induction h with
  | zero => rfl
  | skip _ _ ih => exact ih
  | step _ _ hf ih => exact hf.kind.trans ih
theorem MadeF.ref {l l' : Lt} {ns ns' : List NdV} {f : Nat} (h : MadeF l ns f l' ns') (hr : l.ref.length = 32) : l'.ref.length = 32 := by
  rcases h with ⟨_, x, _, _, _, rfl, _⟩ | ⟨_, _, ⟨_, m, rfl, _⟩ | ⟨_, _, rfl⟩⟩ | ⟨_, ⟨_, se, rfl, _⟩ | ⟨_, _, rfl, _⟩⟩ | ⟨_, _, a, b, _, _, _, rfl⟩ | ⟨_, _, zs, rfl, _⟩ | ⟨_, _, r, h, rfl⟩
  · rw [setNum_ref]; exact hr
  all_goals first | exact hr | exact h
theorem MadeF.cells {l l' : Lt} {ns ns' : List NdV} {f : Nat} (h : MadeF l ns f l' ns') (hf : f ≠ 15) : l'.cells = l.cells := by
  rcases h with ⟨_, x, _, _, _, rfl, _⟩ | ⟨_, _, ⟨_, m, rfl, _⟩ | ⟨_, _, rfl⟩⟩ | ⟨_, ⟨_, se, rfl, _⟩ | ⟨_, _, rfl, _⟩⟩ | ⟨_, _, a, b, _, _, _, rfl⟩ | ⟨h, _, zs, rfl, _⟩ | ⟨_, _, r, h, rfl⟩
  · rw [setNum_cellsL]
  all_goals first | rfl | exact absurd h hf
theorem setNum_other (l : Lt) (f : Nat) (x : Int) (hf : f ≠ 5) : (setNum l f x).other = l.other := by
  unfold setNum; split <;> first | rfl | (exact absurd rfl hf)
theorem bnd_five (k : Int) : (bnd k 5).2 ≤ 511 := by
  unfold bnd; simp only; split <;> simp
theorem MadeF.other {l l' : Lt} {ns ns' : List NdV} {f : Nat} (h : MadeF l ns f l' ns') (ho : 0 ≤ l.other ∧ l.other ≤ 511) : 0 ≤ l'.other ∧ l'.other ≤ 511 := by
  rcases h with ⟨_, x, h1, h2, _, rfl, _⟩ | ⟨_, _, ⟨_, m, rfl, _⟩ | ⟨_, _, rfl⟩⟩ | ⟨_, ⟨_, se, rfl, _⟩ | ⟨_, _, rfl, _⟩⟩ | ⟨_, _, a, b, _, _, _, rfl⟩ | ⟨h, _, zs, rfl, _⟩ | ⟨_, _, r, h, rfl⟩
  · by_cases h5 : f = 5
    · subst h5
      have := bnd_ok l.kind 5
      have h3 := bnd_five l.kind
      show 0 ≤ x ∧ x ≤ 511
      omega
    · rw [setNum_other _ _ _ h5]; exact ho
  all_goals exact ho
theorem MadeTo.other {bare : Bool} {l0 l : Lt} {j : Nat} {ns : List NdV} (h : MadeTo bare l0 j l ns) (h0 : l0.other = 0) : 0 ≤ l.other ∧ l.other ≤ 511 := by
  induction h with
  | zero => omega
  | skip _ _ ih => exact ih
  | step _ _ hf ih => exact hf.other ih
theorem put_day (l : Lt) (s : Sl) (x : Int) : (ltVal l s).setIfInBounds 11 (I x) = ltVal { l with day := x } s := by simp [ltVal, ltCells]
theorem put_other (l : Lt) (s : Sl) (x : Int) : (ltVal l s).setIfInBounds 8 (I x) = ltVal { l with other := x } s := by simp [ltVal, ltCells]
theorem adjust_ref (l : Lt) : (adjust l).ref = l.ref := by unfold adjust; split <;> (try split) <;> rfl
theorem MS.done {w wr : World} {ys : List Int} {a nd lb : Nat} {l : Lt} {s : Sl} {ns : List NdV} (h : MS w ys a nd lb (ltVal l s) wr) (hm : LtMem (lb + 1) wr l s ns) (hl : MadeLt l ns) : MadeQ w (.returned (.agg (ltVal l s))) (wr.setRow w.heap.size (ltVal l s)) := by
  have hb := h.hb
  have m := hm.put (Nat.lt_succ_of_lt (Nat.lt_of_succ_lt hb)) (ltVal l s)
  refine ⟨l, s, ns, rfl, hl, ⟨m.rule.lower (by omega), m.names, ownsRow_base' m.moves (by omega), ownsRow_base' m.cells (by omega)⟩, below_setRow h.keep (Nat.le_refl _) _⟩
def MaRel (w : World) (ys : List Int) (lb : Nat) (bare : Bool) (l0 : Lt) (f : Value) (wr : World) : Prop :=
  ∃ (j : Nat) (l : Lt) (s : Sl) (ns : List NdV) (a nd : Nat), j ≤ 17 ∧ f = I j ∧ MS w ys a nd lb (ltVal l s) wr ∧ LtMem (lb + 1) wr l s ns ∧ MadeTo bare l0 j l ns ∧ l.ref.length = 32 ∧ (j ≤ 15 → l.cells = [] ∧ s.C = none ∧ s.e = 0) ∧ a ≤ 4 + 400 * j ∧ nd ≤ 16 * j
set_option maxRecDepth 10000 in
set_option maxHeartbeats 4000000 in
theorem refMade_any (w : World) (A : Option Addr) (n c : Nat) (xs : List Int) (hn : xs.length = n) (hA : IntsAt w w.heap.size A xs) (hfit : ∀ j, j < xs.length → fits (xs[j]?.getD 0)) (hc : n ≤ c) (_hbig : c ≤ 9223372036854775807) :
    Calls Tryz.prog 7 #[.slice A n c] w (MadeQ w) := by
  have HX : Hid (XsOK (xs.take 60)) := Lib.hid ⟨by rw [List.length_take]; omega, fun j hj => by rw [List.length_take] at hj; rw [List.getElem?_take_of_lt (by omega)]; exact hfit j (by omega)⟩
  have HA := Lib.hid hA
  have hlen : (xs.take 60).length = (min (n : Int) 60).toNat := by rw [List.length_take, hn]; omega
  have HLN := Lib.hid hlen
  clear hA hfit hn hlen
  go_enter Tryz.func7, Tryz.ntmps7
  go_wp2_with (with_reducible refine g_alloc 37 ?_; refine wpList_alloc_as rfl _ rfl (ltVal zLt zSl) lt_zero ?_)
  have HM0 := Lib.hid (startMk (c := c) HA.out HLN.out (ltVal zLt zSl) 37)
  obtain ⟨ys, hys⟩ : ∃ ys, xs.take 60 = ys := ⟨_, rfl⟩
  rw [hys] at HX HM0
  refine (pick_any _ (w.heap.size + 1) ys 0 0 18 HM0.out HX.out (by omega) (by omega) (by omega)).mono ?_
  rintro e w1 ⟨k0, rfl, k1, k2, hm1, hk1⟩
  have G0 : Hid (MS w ys 1 0 w1.heap.size (ltVal (startLt (1 + k0) 0 0) zSl) (w1.alloc (.cells (ltVal (startLt (1 + k0) 0 0) zSl) 37))) := Lib.hid (MS.start hm1 hk1)
  have hlb : w.heap.size + 1 < w1.heap.size := G0.out.hb
  clear hm1 hk1 HM0 HLN HA hys
  go_wp2_with (first
      | (with_reducible refine at_build 37 ?_; refine wpList_build_as rfl _ rfl (ltVal (startLt (1 + k0) 0 0) zSl) (by kernel_rfl) ?_)
      | (with_reducible refine at_alloc 37 ?_; refine wpList_var_row rfl rfl _ _ _ rfl rfl rfl rfl _ (ltVal (startLt (1 + k0) 0 0) zSl) (lt_info' _ zSl rfl) rfl rfl rfl (ltVal_one _ _) ?_))
  refine (G0.out.pick HX.out 16 (by omega) (by omega) (by omega)).mono ?_
  rintro e w2 ⟨f0, rfl, f1, f2, -, g2⟩
  have g2c := g2.cell
  have g2f := g2.froz
  have G2 : Hid (MS w ys (1 + 1) 0 w1.heap.size (ltVal (startLt (1 + k0) f0 0) zSl) (w2.setCell ⟨w1.heap.size, 1, none⟩ (I f0))) := Lib.hid (by have := g2.store 1 (I f0); rw [put_src] at this; exact this)
  clear g2 G0
  go_wp2_with fail
  clear g2c g2f
  have HGD := Lib.hid G2.out.drew
  have hc1 : (w2.setCell ⟨w1.heap.size, 1, none⟩ (I f0)).cell? ⟨w1.heap.size, 1, none⟩ = some (I f0) := HGD.out.cell 1
  have hwf : IntKind.i64.wrap (f0 + 1) = f0 + 1 := by rw [IntKind.wrap_i64]; omega
  go_cut [2, 3, 4] (fun p q r wx => MCut1 w ys k0 f0 w1.heap.size p q r wx)
  case first =>
    go_region_law (go_simp; go_at_call 19; refine (HGD.out.pick HX.out 15 (by omega) (by omega) (by omega)).mono ?_; rintro e w5 ⟨t0, rfl, t1, t2, -, g5⟩; have hc5 : w5.cell? ⟨w1.heap.size, 1, none⟩ = some (I f0) := g5.cell 1; have hc52 : w5.cell? ⟨w1.heap.size, 2, none⟩ = some (I 0) := g5.cell 2; have hf52 := g5.froz 2; have hw2 : IntKind.i64.wrap (f0 + 1 + t0) = f0 + 1 + t0 := (by rw [IntKind.wrap_i64]; omega); have hw3 : (f0 + 1 + t0).tmod 16 = (f0 + 1 + t0) % 16 := Int.tmod_eq_emod_of_nonneg (by omega); have G5 : Hid (MS w ys (1 + 1 + 1) 0 w1.heap.size (ltVal (startLt (1 + k0) f0 ((f0 + 1 + t0) % 16)) zSl) (w5.setCell ⟨w1.heap.size, 2, none⟩ (I ((f0 + 1 + t0) % 16)))) := Lib.hid (by have := g5.store 2 (I ((f0 + 1 + t0) % 16)); rw [put_dst] at this; exact this); clear g5)
    all_goals
      go_wp2_with fail
      go_meet
      exact ⟨rfl, rfl, rfl, _, by omega, by omega, by omega, G5.out⟩
  case rest =>
    obtain ⟨rfl, rfl, rfl, t0, t1, t2, t3, g5⟩ := hcut
    have G5 := Lib.hid g5
    have hc0 : wc.cell? ⟨w1.heap.size, 0, none⟩ = some (I (1 + k0)) := g5.cell 0
    clear g5 HGD G2 hc1 hwf
    go_upto_region 5 with fail
    go_cut [2, 3, 4, 5] (fun p q r b wx => MCut2 w ys k0 f0 t0 w1.heap.size p q r b wx)
    case first =>
      by_cases hk8 : 1 + k0 = 8
      · go_wp2_with fail
        refine (G5.out.pick HX.out 3 (by omega) (by omega) (by omega)).mono ?_
        rintro e w6 ⟨z, rfl, z1, z2, -, g6⟩
        have G6 := Lib.hid g6
        clear g6
        go_wp2_with fail
        go_meet
        exact ⟨rfl, rfl, rfl, _, (z == 0), rfl, (fun _ => hk8), by omega, G6.out⟩
      · go_wp2_with fail
        go_meet
        exact ⟨rfl, rfl, rfl, _, false, rfl, (fun h => nomatch h), by omega, G5.out⟩
    case rest =>
      rename_i wc1 _
      obtain ⟨rfl, rfl, rfl, a0, bare, rfl, hb8, ha0, g6⟩ := hcut
      have G6 := Lib.hid g6
      have HB8 := Lib.hid hb8
      obtain ⟨kn, hkn⟩ : ∃ kn : Nat, 1 + k0 = (kn : Int) := ⟨(1 + k0).toNat, by omega⟩
      rw [hkn] at G6 HB8
      have hkn1 : 1 ≤ kn := by omega
      have hkn2 : kn ≤ 18 := by omega
      clear g6 hb8 G5 hc0
      go_wp2_with fail
      go_loopw [6] (fun i wr => MaRel w ys w1.heap.size bare (startLt kn f0 t0) i wr) (fun i _ => (17 - intOf i).toNat)
      case atStart => exact ⟨0, startLt kn f0 t0, zSl, [], a0, 0, by omega, rfl, G6.out, ⟨⟨World.ownsRow_nil _ _ _ _, (fun x hx => nomatch hx)⟩, rfl, World.ownsRow_nil _ _ _ _, World.ownsRow_nil _ _ _ _⟩, .zero, rfl, (fun _ => ⟨rfl, rfl, rfl⟩), by omega, by omega⟩
      case round =>
        obtain ⟨j, l, s, ns, a, nd, hj, rfl, hms, hmem, hmt, href, hC, ha, hnd⟩ := hrel
        have HG := Lib.hid hms
        have HM := Lib.hid hmem
        have HT := Lib.hid hmt
        have HR := Lib.hid href
        have HC := Lib.hid hC
        have hlt1 := hms.lt
        have hkk : l.kind = kn := hmt.kind
        have hcc := hms.cell
        have hc0 : wr.cell? ⟨w1.heap.size, 0, none⟩ = some (I kn) := by rw [hcc, ← hkk]; rfl
        have HCC := Lib.hid hcc
        have HKK := Lib.hid hkk
        clear hms hmem hmt href hC G6 hcc hkk
        by_cases hlt : (j : Int) < 17
        · go_wp2_with fail
          refine (refUses_any kn hkn1 hkn2 j wr).mono ?_
          rintro e w4 ⟨rfl, hb4⟩
          have G4 := Lib.hid (HG.out.below hb4)
          have M4 : Hid (LtMem (w1.heap.size + 1) w4 l s ns) := Lib.hid (HM.out.mkeep (MKeep.of_below (mb := w.heap.size + 1) hb4) (by omega))
          obtain ⟨u, hu⟩ : ∃ u, (fieldsL kn).contains (j : Int) = u := ⟨_, rfl⟩
          have HU : Hid (usesB kn j = u) := Lib.hid (by rw [← fields_uses kn (by omega) j (by omega)]; exact hu)
          rw [hu]
          clear hb4 hu HG HM
          cases u with
          | false =>
            have HSK : Hid (skipB (startLt kn f0 t0).kind bare j = true) := Lib.hid (by show skipB kn bare j = true; unfold skipB; rw [HU.out]; rfl)
            go_wp2_with fail
            go_roundw
            case rel => exact ⟨j + 1, l, s, ns, a, nd, by omega, by go_num, G4.out, M4.out, .skip HT.out HSK.out, HR.out, (fun h => HC.out (by omega)), by omega, by omega⟩
            case measure => simp [intOf]; omega
          | true =>
            cases bare with
            | false =>
              have HSK : Hid (skipB (startLt kn f0 t0).kind false j = false) := Lib.hid (by show skipB kn false j = false; unfold skipB; rw [HU.out]; rfl)
              go_wp2_with (with_reducible refine g_load 37 ?_; refine wpList_load_Row rfl _ _ rfl w1.heap.size rfl (ltVal l s) G4.out.row _ Tryz.underlying37 rfl (size62 _ _ HR.out) ?_)
              refine (made_any w4 (w1.heap.size + 1) (w.heap.size + 1) ys a nd l s ns j G4.out.mkr HX.out (by omega) (by omega) M4.out (by omega) (by have := G4.out.lt; omega) HR.out (by omega) (fun e => HC.out (by omega))).mono ?_
              rintro e w5 ⟨l', s', ns', a', n', rfl, hmf, hmem5, hC5, hm5, ha5, hn5, hk5⟩
              have G5 := Lib.hid (G4.out.step hm5 hk5)
              have HR5 := Lib.hid (hmf.ref HR.out)
              have HF := Lib.hid hmf
              have HM5 := Lib.hid hmem5
              have HC5 : Hid (j + 1 ≤ 15 → l'.cells = [] ∧ s'.C = none ∧ s'.e = 0) := Lib.hid (fun h => by have h1 := HC.out (by omega); have h2 := hC5 (by omega); exact ⟨(hmf.cells (by omega)).trans h1.1, h2.1.trans h1.2.1, h2.2.trans h1.2.2⟩)
              have G6 := Lib.hid (G5.out.put (ltVal l' s'))
              have HM6 := Lib.hid (HM5.out.put (Nat.lt_succ_self _) (ltVal l' s'))
              clear hm5 hk5 hmf hmem5 hC5
              go_wp2_with (with_reducible refine g_store 37 ?_; refine wpList_store_row rfl _ _ _ rfl w1.heap.size (ltVal l' s') rfl rfl 37 (ltVal l s) G5.out.var (size62 _ _ HR5.out) (by rw [ltVal_size _ _ HR5.out, ltVal_size _ _ HR.out]) (ltVal_one _ _) ?_)
              go_roundw
              case rel => exact ⟨j + 1, l', s', ns', a', n', by omega, by go_num, G6.out, HM6.out, .step HT.out HSK.out HF.out, HR5.out, HC5.out, by omega, by omega⟩
              case measure => simp [intOf]; omega
            | true =>
              by_cases hbf : j = 4 ∨ j = 5 ∨ j = 6 ∨ j = 12 ∨ j = 10
              · have HSK : Hid (skipB (startLt kn f0 t0).kind true j = true) := Lib.hid (by show skipB kn true j = true; unfold skipB; rcases hbf with rfl | rfl | rfl | rfl | rfl <;> rw [HU.out] <;> rfl)
                rcases hbf with rfl | rfl | rfl | rfl | rfl
                · go_wp2_with fail
                  go_roundw
                  case rel => exact ⟨5, l, s, ns, a, nd, by omega, by go_num, G4.out, M4.out, .skip HT.out HSK.out, HR.out, (fun h => HC.out (by omega)), by omega, by omega⟩
                  case measure => simp [intOf]
                · go_wp2_with fail
                  go_roundw
                  case rel => exact ⟨6, l, s, ns, a, nd, by omega, by go_num, G4.out, M4.out, .skip HT.out HSK.out, HR.out, (fun h => HC.out (by omega)), by omega, by omega⟩
                  case measure => simp [intOf]
                · go_wp2_with fail
                  go_roundw
                  case rel => exact ⟨7, l, s, ns, a, nd, by omega, by go_num, G4.out, M4.out, .skip HT.out HSK.out, HR.out, (fun h => HC.out (by omega)), by omega, by omega⟩
                  case measure => simp [intOf]
                · go_wp2_with fail
                  go_roundw
                  case rel => exact ⟨13, l, s, ns, a, nd, by omega, by go_num, G4.out, M4.out, .skip HT.out HSK.out, HR.out, (fun h => HC.out (by omega)), by omega, by omega⟩
                  case measure => simp [intOf]
                · go_wp2_with fail
                  go_roundw
                  case rel => exact ⟨11, l, s, ns, a, nd, by omega, by go_num, G4.out, M4.out, .skip HT.out HSK.out, HR.out, (fun h => HC.out (by omega)), by omega, by omega⟩
                  case measure => simp [intOf]
              · have n4 : ((j : Int) == 4) = false := by simp; omega
                have n5 : ((j : Int) == 5) = false := by simp; omega
                have n6 : ((j : Int) == 6) = false := by simp; omega
                have n12 : ((j : Int) == 12) = false := by simp; omega
                have n10 : ((j : Int) == 10) = false := by simp; omega
                have HSK : Hid (skipB (startLt kn f0 t0).kind true j = false) := Lib.hid (by show skipB kn true j = false; unfold skipB bareF; rw [HU.out, n4, n5, n6, n12, n10]; rfl)
                clear hbf
                go_wp2_with (with_reducible refine g_load 37 ?_; refine wpList_load_Row rfl _ _ rfl w1.heap.size rfl (ltVal l s) G4.out.row _ Tryz.underlying37 rfl (size62 _ _ HR.out) ?_)
                refine (made_any w4 (w1.heap.size + 1) (w.heap.size + 1) ys a nd l s ns j G4.out.mkr HX.out (by omega) (by omega) M4.out (by omega) (by have := G4.out.lt; omega) HR.out (by omega) (fun e => HC.out (by omega))).mono ?_
                rintro e w5 ⟨l', s', ns', a', n', rfl, hmf, hmem5, hC5, hm5, ha5, hn5, hk5⟩
                have G5 := Lib.hid (G4.out.step hm5 hk5)
                have HR5 := Lib.hid (hmf.ref HR.out)
                have HF := Lib.hid hmf
                have HM5 := Lib.hid hmem5
                have HC5 : Hid (j + 1 ≤ 15 → l'.cells = [] ∧ s'.C = none ∧ s'.e = 0) := Lib.hid (fun h => by have h1 := HC.out (by omega); have h2 := hC5 (by omega); exact ⟨(hmf.cells (by omega)).trans h1.1, h2.1.trans h1.2.1, h2.2.trans h1.2.2⟩)
                have G6 := Lib.hid (G5.out.put (ltVal l' s'))
                have HM6 := Lib.hid (HM5.out.put (Nat.lt_succ_self _) (ltVal l' s'))
                clear hm5 hk5 hmf hmem5 hC5
                go_wp2_with (with_reducible refine g_store 37 ?_; refine wpList_store_row rfl _ _ _ rfl w1.heap.size (ltVal l' s') rfl rfl 37 (ltVal l s) G5.out.var (size62 _ _ HR5.out) (by rw [ltVal_size _ _ HR5.out, ltVal_size _ _ HR.out]) (ltVal_one _ _) ?_)
                go_roundw
                case rel => exact ⟨j + 1, l', s', ns', a', n', by omega, by go_num, G6.out, HM6.out, .step HT.out HSK.out HF.out, HR5.out, HC5.out, by omega, by omega⟩
                case measure => simp [intOf]; omega
        · have hj17 : j = 17 := by omega
          subst hj17
          have HO := Lib.hid (HT.out.other rfl)
          obtain ⟨ho1, ho2⟩ := HT.out.other rfl
          have hc10 : wr.cell? ⟨w1.heap.size, 10, none⟩ = some (I l.scope) := HCC.out 10
          have hc7 : wr.cell? ⟨w1.heap.size, 7, none⟩ = some (I l.person) := HCC.out 7
          have hc8 : wr.cell? ⟨w1.heap.size, 8, none⟩ = some (I l.other) := HCC.out 8
          have hc11 : wr.cell? ⟨w1.heap.size, 11, none⟩ = some (I l.day) := HCC.out 11
          have hf8 := HG.out.froz 8
          have hf11 := HG.out.froz 11
          have hwo : IntKind.i64.wrap (l.other + 1) = l.other + 1 := by rw [IntKind.wrap_i64]; omega
          by_cases hk6 : kn = 6
          · subst hk6
            by_cases hs3 : l.scope = 3
            · have HS3 := Lib.hid hs3
              rw [hs3] at hc10
              clear hs3
              have G7 : Hid (MS w ys a nd w1.heap.size (ltVal { l with day := 0 } s) (wr.setCell ⟨w1.heap.size, 11, none⟩ (I 0))) := Lib.hid (by have := HG.out.store 11 (I 0); rw [put_day] at this; exact this)
              have M7 : Hid (LtMem (w1.heap.size + 1) (wr.setCell ⟨w1.heap.size, 11, none⟩ (I 0)) { l with day := 0 } s ns) := Lib.hid (HM.out.set (Nat.lt_succ_self _) 11 (I 0) rfl rfl)
              have hq0 : (wr.setCell ⟨w1.heap.size, 11, none⟩ (I 0)).cell? ⟨w1.heap.size, 0, none⟩ = some (I l.kind) := G7.out.cell 0
              rw [HKK.out] at hq0
              go_wp2_with (first
                | (with_reducible refine g_load 37 ?_; refine wpList_load_Row rfl _ _ rfl w1.heap.size rfl (ltVal { l with day := 0 } s) G7.out.row _ Tryz.underlying37 rfl (size62 _ _ HR.out) ?_)
                | (with_reducible refine g_store 37 ?_; refine wpList_store_row rfl _ _ _ rfl w.heap.size (ltVal { l with day := 0 } s) rfl rfl 37 (ltVal zLt zSl) G7.out.res (size62 _ _ HR.out) (sz_eq _ _ HR.out) (ltVal_one _ _) ?_))
              exact bodyPost_ret (v := .agg (ltVal { l with day := 0 } s)) (results_cell_row rfl _ _ w.heap.size _ (ltVal { l with day := 0 } s) (0, 0) _ rfl (setRow_heap _ _ _ _ _ _ G7.out.res) Tryz.underlying37 rfl (size62 _ _ HR.out)) rfl (G7.out.done M7.out ⟨⟨bare, _, f0, t0, l, by omega, by omega, by omega, by omega, by omega, by omega, by omega, HB8.out, HT.out, by unfold adjust; rw [if_pos ⟨HKK.out, HS3.out⟩]⟩, HR.out⟩)
            · go_wp2_with (first
                | (with_reducible refine g_load 37 ?_; refine wpList_load_Row rfl _ _ rfl w1.heap.size rfl (ltVal l s) HG.out.row _ Tryz.underlying37 rfl (size62 _ _ HR.out) ?_)
                | (with_reducible refine g_store 37 ?_; refine wpList_store_row rfl _ _ _ rfl w.heap.size (ltVal l s) rfl rfl 37 (ltVal zLt zSl) HG.out.res (size62 _ _ HR.out) (sz_eq _ _ HR.out) (ltVal_one _ _) ?_))
              exact bodyPost_ret (v := .agg (ltVal l s)) (results_cell_row rfl _ _ w.heap.size _ (ltVal l s) (0, 0) _ rfl (setRow_heap _ _ _ _ _ _ HG.out.res) Tryz.underlying37 rfl (size62 _ _ HR.out)) rfl (HG.out.done HM.out ⟨⟨bare, _, f0, t0, l, by omega, by omega, by omega, by omega, by omega, by omega, by omega, HB8.out, HT.out, by unfold adjust; rw [if_neg (fun h => hs3 h.2), if_neg (fun h => by have := HKK.out; omega)]⟩, HR.out⟩)
          · have hk6' : ¬ (kn : Int) = 6 := by omega
            by_cases hk5 : kn = 5
            · subst hk5
              by_cases hop : l.other = l.person
              · have HOP := Lib.hid hop
                rw [← hop] at hc7
                clear hop
                have G7 : Hid (MS w ys a nd w1.heap.size (ltVal { l with other := l.other + 1 } s) (wr.setCell ⟨w1.heap.size, 8, none⟩ (I (l.other + 1)))) := Lib.hid (by have := HG.out.store 8 (I (l.other + 1)); rw [put_other] at this; exact this)
                have M7 : Hid (LtMem (w1.heap.size + 1) (wr.setCell ⟨w1.heap.size, 8, none⟩ (I (l.other + 1))) { l with other := l.other + 1 } s ns) := Lib.hid (HM.out.set (Nat.lt_succ_self _) 8 (I (l.other + 1)) rfl rfl)
                go_wp2_with (first
                  | (with_reducible refine g_load 37 ?_; refine wpList_load_Row rfl _ _ rfl w1.heap.size rfl (ltVal { l with other := l.other + 1 } s) G7.out.row _ Tryz.underlying37 rfl (size62 _ _ HR.out) ?_)
                  | (with_reducible refine g_store 37 ?_; refine wpList_store_row rfl _ _ _ rfl w.heap.size (ltVal { l with other := l.other + 1 } s) rfl rfl 37 (ltVal zLt zSl) G7.out.res (size62 _ _ HR.out) (sz_eq _ _ HR.out) (ltVal_one _ _) ?_))
                exact bodyPost_ret (v := .agg (ltVal { l with other := l.other + 1 } s)) (results_cell_row rfl _ _ w.heap.size _ (ltVal { l with other := l.other + 1 } s) (0, 0) _ rfl (setRow_heap _ _ _ _ _ _ G7.out.res) Tryz.underlying37 rfl (size62 _ _ HR.out)) rfl (G7.out.done M7.out ⟨⟨bare, _, f0, t0, l, by omega, by omega, by omega, by omega, by omega, by omega, by omega, HB8.out, HT.out, by unfold adjust; rw [if_neg (fun h => by have := HKK.out; omega), if_pos ⟨HKK.out, HOP.out⟩]⟩, HR.out⟩)
              · go_wp2_with (first
                  | (with_reducible refine g_load 37 ?_; refine wpList_load_Row rfl _ _ rfl w1.heap.size rfl (ltVal l s) HG.out.row _ Tryz.underlying37 rfl (size62 _ _ HR.out) ?_)
                  | (with_reducible refine g_store 37 ?_; refine wpList_store_row rfl _ _ _ rfl w.heap.size (ltVal l s) rfl rfl 37 (ltVal zLt zSl) HG.out.res (size62 _ _ HR.out) (sz_eq _ _ HR.out) (ltVal_one _ _) ?_))
                exact bodyPost_ret (v := .agg (ltVal l s)) (results_cell_row rfl _ _ w.heap.size _ (ltVal l s) (0, 0) _ rfl (setRow_heap _ _ _ _ _ _ HG.out.res) Tryz.underlying37 rfl (size62 _ _ HR.out)) rfl (HG.out.done HM.out ⟨⟨bare, _, f0, t0, l, by omega, by omega, by omega, by omega, by omega, by omega, by omega, HB8.out, HT.out, by unfold adjust; rw [if_neg (fun h => by have := HKK.out; omega), if_neg (fun h => hop h.2)]⟩, HR.out⟩)
            · have hk5' : ¬ (kn : Int) = 5 := by omega
              go_wp2_with (first
                | (with_reducible refine g_load 37 ?_; refine wpList_load_Row rfl _ _ rfl w1.heap.size rfl (ltVal l s) HG.out.row _ Tryz.underlying37 rfl (size62 _ _ HR.out) ?_)
                | (with_reducible refine g_store 37 ?_; refine wpList_store_row rfl _ _ _ rfl w.heap.size (ltVal l s) rfl rfl 37 (ltVal zLt zSl) HG.out.res (size62 _ _ HR.out) (sz_eq _ _ HR.out) (ltVal_one _ _) ?_))
              exact bodyPost_ret (v := .agg (ltVal l s)) (results_cell_row rfl _ _ w.heap.size _ (ltVal l s) (0, 0) _ rfl (setRow_heap _ _ _ _ _ _ HG.out.res) Tryz.underlying37 rfl (size62 _ _ HR.out)) rfl (HG.out.done HM.out ⟨⟨bare, _, f0, t0, l, by omega, by omega, by omega, by omega, by omega, by omega, by omega, HB8.out, HT.out, by unfold adjust; rw [if_neg (fun h => by have := HKK.out; omega), if_neg (fun h => by have := HKK.out; omega)]⟩, HR.out⟩)
end Go.Proofs.YtdakcbddlempfaaGreat

/- Equality of nodes, of rules and of moves, where the contents are the same; kalendsref20.number. -/
namespace Go.Proofs.YtdakcbddlempfaaGreat
open Go Go.RowKit

section
attribute [local go_sem] ndCells
set_option maxRecDepth 10000 in
set_option maxHeartbeats 2000000 in
theorem sameNode_eq (d : Nd) (A B : Option Addr) (c e : Nat) (w : World) (hA : IntsAt w w.heap.size A d.list) (hB : IntsAt w w.heap.size B d.list) (hn : d.list.length ≤ 140737488355328) :
    Calls Tryz.prog 52 #[.agg (ndCells d A c), .agg (ndCells d B e)] w (Gives (.bool true) w) := by
  have HE : Hid (∀ w', Below w.heap.size w w' → Calls Tryz.prog 49 #[.slice A d.list.length c, .slice B d.list.length e] w' (Gives (.bool (d.list == d.list)) w')) := Lib.hid fun w' hb => eqInts_any A B c e d.list d.list w' ((hA.keep hb).more hb.size) ((hB.keep hb).more hb.size) hn
  have HB := Lib.hid (below_trans (below_var w (.cells (ndCells d A c) 87)) (below_var _ (.cells (ndCells d B e) 87)))
  clear hA hB
  go_enter Tryz.func52, Tryz.ntmps52
  go_wp2_with fail
  refine (HE.out _ HB.out).mono ?_
  rintro x w1 ⟨rfl, hb1⟩
  have HB1 := Lib.hid hb1
  rw [beq_self_eq_true]
  clear hb1 HE
  go_wp2_with fail
  go_ret
  exact ⟨rfl, below_trans HB.out HB1.out⟩
set_option maxRecDepth 10000 in
set_option maxHeartbeats 2000000 in
theorem refNode_eq (d : Nd) (A B : Option Addr) (c e : Nat) (w : World) (hA : IntsAt w w.heap.size A d.list) (hB : IntsAt w w.heap.size B d.list) (hn : d.list.length ≤ 140737488355328) :
    Calls Tryz.prog 90 #[.agg (ndCells d A c), .agg (ndCells d B e)] w (Gives (.bool true) w) := by
  have h1 := ints_same d.kind
  have h2 := ints_same d.cal
  have h3 := ints_same d.l
  have h4 := ints_same d.r
  have h5 := ints_same d.n
  have h6 := ints_same d.m
  have HB := Lib.hid (below_trans (below_var w (.cells (ndCells d A c) 87)) (below_var _ (.cells (ndCells d B e) 87)))
  have HA := Lib.hid (hA.keep HB.out)
  have HBB := Lib.hid (hB.keep HB.out)
  have HR1 := Lib.hid ((Row.new w (ndCells d A c) 87).keep (below_var _ (.cells (ndCells d B e) 87)))
  have HR2 : Hid (Row ((w.alloc (.cells (ndCells d A c) 87)).alloc (.cells (ndCells d B e) 87)) (w.heap.size + 1) (ndCells d B e)) := Lib.hid (by have := Row.new (w.alloc (.cells (ndCells d A c) 87)) (ndCells d B e) 87; rwa [World.size_alloc] at this)
  have h8 := ints_same d.list.length
  obtain ⟨W, hW⟩ : ∃ W, (w.alloc (.cells (ndCells d A c) 87)).alloc (.cells (ndCells d B e) 87) = W := ⟨_, rfl⟩
  rw [hW] at HB HA HBB HR1 HR2
  have HW := Lib.hid hW
  clear hA hB hW
  go_enter Tryz.func90, Tryz.ntmps90
  go_wp2_with fail
  go_loopw [5] (fun i wr => (∃ k : Nat, k ≤ d.list.length ∧ i = I k) ∧ ∃ q, wr = W.drewN q) (fun i _ => d.list.length - (intOf i).toNat)
  case atStart => exact ⟨⟨0, Nat.zero_le _, rfl⟩, 0, HW.out⟩
  case round =>
    obtain ⟨⟨k, hk, rfl⟩, q, rfl⟩ := hrel
    have hc1 : W.cell? ⟨w.heap.size, 6, none⟩ = some (.slice A d.list.length c) := HR1.out.2 6
    have hc2 : W.cell? ⟨w.heap.size + 1, 6, none⟩ = some (.slice B d.list.length e) := HR2.out.2 6
    by_cases hlt : k < d.list.length
    · obtain ⟨b1, o1, rfl, -, ha⟩ : ∃ b off, A = some ⟨b, off, none⟩ ∧ b < w.heap.size ∧ ∀ j, j < d.list.length → W.cell? ⟨b, off + j, none⟩ = some (I (d.list[j]?.getD 0)) := by
        rcases HA.out with h | h
        · omega
        · exact h
      obtain ⟨b2, o2, rfl, -, hb⟩ : ∃ b off, B = some ⟨b, off, none⟩ ∧ b < w.heap.size ∧ ∀ j, j < d.list.length → W.cell? ⟨b, off + j, none⟩ = some (I (d.list[j]?.getD 0)) := by
        rcases HBB.out with h | h
        · omega
        · exact h
      obtain ⟨x, hx⟩ : ∃ x, d.list[k]?.getD 0 = x := ⟨_, rfl⟩
      have q1 : W.cell? ⟨b1, o1 + k, none⟩ = some (I x) := by rw [← hx]; exact ha k hlt
      have q2 : W.cell? ⟨b2, o2 + k, none⟩ = some (I x) := by rw [← hx]; exact hb k hlt
      clear ha hb hx
      have hne := ints_same x
      have i0 : (0 : Int) ≤ (k : Int) := by omega
      have i1 : (k : Int) < (d.list.length : Int) := by omega
      go_wp2_with fail
      go_quiet (fail)
      go_wp2_with fail
      go_roundw
      case rel => exact ⟨⟨k + 1, by omega, by go_num⟩, _, rfl⟩
      case measure => simp [intOf]; omega
    · go_wp2_with fail
      go_ret
      exact ⟨rfl, below_trans HB.out (below_drewN' _ _)⟩
end
section
attribute [local go_sem] ltVal_get lt_get3 lt_get4 lt_get5 lt_get6 lt_get7 lt_get8 lt_get9 lt_get10 lt_get11 lt_get24 lt_get25 lt_get26
set_option maxRecDepth 10000 in
set_option maxHeartbeats 8000000 in
theorem refNumber_any (l : Lt) (s : Sl) (f : Nat) (hf : f < 17) (hn : numB f = true) (w : World) :
    Calls Tryz.prog 45 #[.agg (ltVal l s), I f] w (Gives (I (numF l f)) w) := by
  have HB := Lib.hid (below_var w (.cells (ltVal l s) 37))
  have hk' : f = 0 ∨ f = 1 ∨ f = 2 ∨ f = 3 ∨ f = 4 ∨ f = 5 ∨ f = 6 ∨ f = 7 ∨ f = 8 ∨ f = 11 ∨ f = 12 ∨ f = 13 := by simp [numB] at hn; omega
  clear hf hn
  rcases hk' with rfl | rfl | rfl | rfl | rfl | rfl | rfl | rfl | rfl | rfl | rfl | rfl
  all_goals
    go_enter Tryz.func45, Tryz.ntmps45
    go_wp2_with fail
    go_ret
    exact ⟨rfl, HB.out⟩
end
end Go.Proofs.YtdakcbddlempfaaGreat
