/- The texts Le, in this order. -/
import Derived.Test.YtbdkalpljhpnmaaGreatG05
import Derived.BigQuiet
import Derived.Deep.AppendLies
import Derived.Deep.CutBlock
import Derived.Deep.DeepCutAuto
import Derived.Deep.DrawnRows
import Derived.Deep.MidRow
import Derived.Deep.QuietTactic
import Derived.Deep.RegionHeld3
import Derived.Deep.RegionLaw
import Derived.Deep.WholeRow
import Derived.Great.BuildSlice
import Derived.Handy
import Derived.Laws.BytesString
import Derived.Laws.CopyOwn
import Derived.Laws.EntriesVeiled
import Derived.Laws.MakeOwn
import Derived.Laws.ResultCell
import Derived.Laws.Rows
import Derived.Laws.Tables
import Derived.Lib.Hide
import Derived.LoopIn
import Derived.LoopNIn
import Derived.Maps.AppendAt
import Derived.Outline
import Derived.OwnWalkIn
import Derived.RangeFuncBound
import Derived.RangeFuncBox
import Derived.RangeFuncCalls
import Derived.RangeFuncLeaves
import Derived.RangeFuncNested
import Derived.Shelf.Abstract
import Derived.Shelf.Bytes.SlSmallAll
import Derived.Shelf.RegionOpen
import Derived.StillTailTactics
import Derived.Stop.BytesEq
import Derived.TacticsInMore
import Derived.WalkKit
import Derived.WalkLawsBesides
import Derived.WalkSpells
/- kalendsref14.Next. -/
namespace Go.Proofs.YtbdkalpljhpnmaaGreat
open Go Go.RowKit

theorem step_build_as {P : Program} {ops : Array Oper} {o : Oper} {a : Act} {w : World} {K : Act → World → Prop} {Q : Exit → Act → World → Prop} {E : Prop} {t : TypeId} (hgd : o.guard = none) (parts : Array (Nat × Operand)) (ho : o.op = .build t parts) (cells : Array Value)
    (hb : P.built t (parts.map fun (i, x) => (i, a.eval x)).toList = some cells) (h : K (a.put o.dst (.agg cells)) w) : if Region.wanted o (yielded ops a.tmps) = true then Oper.wp P o a w K Q else E := by
  have hw : Region.wanted o (yielded ops a.tmps) = true := by simp [Region.wanted, hgd]
  rw [if_pos hw]
  exact wp_build t parts ho (by rw [hb]; rfl) (by rw [hb]; exact h)
theorem yieldsIf_build {P : Program} {ops : Array Oper} {S : World → Prop} {op : Oper} {a : Act} (hw : Region.wanted op (yielded ops a.tmps) = true) (t : TypeId) (parts : Array (Nat × Operand)) (ho : op.op = .build t parts) (cells : Array Value)
    (hb : P.built t (parts.map fun (i, x) => (i, a.eval x)).toList = some cells) : YieldsIf P ops S op (.agg cells) a :=
  .inl ⟨hw, fun w _ => by
    unfold execOp
    simp only [ho, Sem.run_bind, run_build w t _ cells hb, Result.andThen_ok]
    rfl⟩
/-- What the loop's round reads of the item. -/
def NxI (w : World) (zb zo m ic k : Nat) (v : RwV) (W : World) : Prop := W.cell? ⟨w.heap.size, 0, none⟩ = some (.slice (some ⟨zb, zo, none⟩) m ic) ∧ W.rangeAt zb (zo + k * 14) v.cells
theorem NxI.of {w W : World} {zb zo m ic k : Nat} {v : RwV} {x : Value} (hit : AV w.heap.size 67 #[.slice (some ⟨zb, zo, none⟩) m ic, x] W) (hlo : Below w.heap.size w W) (hr : w.rangeAt zb (zo + k * 14) v.cells) (hb : zb < w.heap.size) : NxI w zb zo m ic k v W :=
  ⟨hit.cell 0, rangeAt_keep hr hlo hb⟩
theorem ZnMem.grow {lo : Nat} {v : Value} {W W' : World} {s : Zs} {z : Zn} (h : ZnMem lo v W s z) (hb : Below W.heap.size W W') : ZnMem lo v W' s z := h.keep hb.size fun b _ h2 h3 => ⟨hb.block b h2, h3⟩
theorem NxW.start (w : World) (ib : Array Value) (T : Tb) (z : Array Value) : NxW w ib T 0 none 0 [] ((((w.alloc (.cells ib 67)).alloc (.cells (tbVal zTb (.slice none 0 0)) 47)).alloc (.cells z 47)).setRow (w.heap.size + 2) (tbVal T (.slice none 0 0))) := by
  obtain ⟨W, hW⟩ : ∃ W, (w.alloc (.cells ib 67)).alloc (.cells (tbVal zTb (.slice none 0 0)) 47) = W := ⟨_, rfl⟩
  have hs : W.heap.size = w.heap.size + 2 := by rw [← hW]; simp
  have hb : Below w.heap.size w W := by rw [← hW]; exact below_trans (below_var w _) (below_var _ _)
  have h1 : AV w.heap.size 67 ib W := by rw [← hW]; exact ⟨heap_alloc2_old w _ _⟩
  have h2 : AV (w.heap.size + 1) 47 (tbVal zTb (.slice none 0 0)) W := by rw [← hW]; exact ⟨heap_alloc2_new w _ _⟩
  have h3 := AV.new W z 47
  rw [hs] at h3
  rw [hW]
  have hb2 := below_var W (.cells z 47)
  exact ⟨(h1.below hb2).rowF (by omega) _, (h2.below hb2).rowF (by omega) _, h3.rowS _, below_setRow' (below_trans hb hb2) (by omega) _, World.ownsRow_nil _ _ _ _, fun _ h => nomatch h⟩
theorem NxW.mid {w W w6 : World} {ib : Array Value} {T : Tb} {k cz : Nat} {Az : Option Addr} {ys : List ZeV} (h : NxW w ib T k Az cz ys W) (o : Obj) (hg : (W.alloc o).grownBy w6 (Value.slice Az k cz).ownBlock) : AV w.heap.size 67 ib w6 ∧ AV (w.heap.size + 2) 47 (tbVal T (.slice Az k cz)) w6 ∧ Below w.heap.size w w6 := by
  have hlt := h.lt
  have hbl : ∀ b, b < W.heap.size → some b ≠ (Value.slice Az k cz).ownBlock → w6.heap[b]? = W.heap[b]? := fun b hb hn =>
    (hg.block b (by simp; omega) hn).trans (Below.heap_alloc W _ b hb)
  have hlow : ∀ b, b < w.heap.size + 3 → some b ≠ (Value.slice Az k cz).ownBlock := own_ge h.own
  exact ⟨⟨(hbl _ (by omega) (hlow _ (by omega))).trans h.it.var⟩, ⟨(hbl _ (by omega) (hlow _ (by omega))).trans h.t.var⟩, below_grown' (below_trans h.lo (below_var W o)) (ownsRow_base' (own_below h.own (below_var W o)) (by omega)) (by simp; omega) hg⟩
theorem own_blocks14 {w w' : World} {lo e size n : Nat} {v : Value} {xs : List Value} (h : w.ownsRow lo e size v n xs) (_hs : w.heap.size ≤ w'.heap.size) (hb : ∀ b, lo ≤ b → b < w.heap.size → w'.heap[b]? = w.heap[b]?) : w'.ownsRow lo e size v n xs := by
  refine ⟨h.1, ?_⟩
  rcases h.2 with h2 | ⟨g, cap, cur, h1, h2, h3, h4⟩
  · exact .inl h2
  · exact .inr ⟨g, cap, cur, h1, h2, (hb g h2 (Array.getElem?_eq_some_iff.1 h3).1).trans h3, h4⟩
theorem putQ_mid : ∀ (vs pre old suf : List Value), old.length = vs.length → putQ (pre ++ old ++ suf).toArray pre.length vs = (pre ++ vs ++ suf).toArray
  | [], pre, old, suf, h => by
    have : old = [] := List.eq_nil_of_length_eq_zero h
    simp [putQ, this]
  | v :: r, pre, old, suf, h => by
    obtain ⟨x, old', rfl⟩ : ∃ x old', old = x :: old' := by
      cases old with
      | nil => simp at h
      | cons x o => exact ⟨x, o, rfl⟩
    have h2 := putQ_mid r (pre ++ [v]) old' suf (by simpa using h)
    have e : (pre ++ x :: old' ++ suf).toArray.setIfInBounds pre.length v = ((pre ++ [v]) ++ old' ++ suf).toArray := by simp
    unfold putQ
    rw [e]
    simpa using h2
theorem tb_prevPutQ (t : Tb) (v : Value) (m : List UInt8) (h1 : t.prev.length = 32) (h2 : m.length = 32) : putQ (tbVal t v) 4 (refCells m) = tbVal { t with prev := m } v := by
  have h := putQ_mid (refCells m) [I t.issuer, I t.version, I t.withdraws, v] (refCells t.prev) (refCells t.mac) (by simp [refCells, h1, h2])
  have e1 : tbVal t v = ([I t.issuer, I t.version, I t.withdraws, v] ++ refCells t.prev ++ refCells t.mac).toArray := by simp [tbVal, tbList]
  have e2 : tbVal { t with prev := m } v = ([I t.issuer, I t.version, I t.withdraws, v] ++ refCells m ++ refCells t.mac).toArray := by simp [tbVal, tbList]
  rw [e1, e2]
  exact h
theorem NxW.prev {w W : World} {ib : Array Value} {T : Tb} {k cz : Nat} {Az : Option Addr} {ys : List ZeV} (h : NxW w ib T k Az cz ys W) (hp : T.prev.length = 32) (d : List UInt8) (hd : d.length = 32) :
    NxW w ib { T with prev := d } k Az cz ys (W.setCells (w.heap.size + 2) 4 (cD d).toList) := by
  have ho : ∀ b, b ≠ w.heap.size + 2 → (W.setCells (w.heap.size + 2) 4 (cD d).toList).heap[b]? = W.heap[b]? := fun b hb => setCells_otherQ _ _ _ _ b hb
  have hs : (W.setCells (w.heap.size + 2) 4 (cD d).toList).heap.size = W.heap.size := setCells_sizeQ _ _ _ _
  have ht := h.t.setQ 4 (cD d).toList
  rw [show putQ _ 4 (cD d).toList = _ from tb_prevPutQ T _ d hp hd] at ht
  refine ⟨h.it.farQ (by omega) _ _, h.r.farQ (by omega) _ _, ht, below_setCellsQ (by omega) _ _ _ h.lo, ?_, fun y hy => (h.mem y hy).keep (by rw [hs]; omega) fun b h1 h2 h3 => ⟨ho b (by omega), h3⟩⟩
  exact own_blocks14 h.own (by rw [hs]; omega) fun b h1 _ => ho b (by omega)
theorem NxW.fin {w W : World} {ib : Array Value} {T : Tb} {k cz : Nat} {Az : Option Addr} {ys : List ZeV} (h : NxW w ib T k Az cz ys W) (hp : T.prev.length = 32) (hm : T.mac.length = 32) (cs : Array Value) :
    TbAt (W.setRow (w.heap.size + 1) cs) (W.setRow (w.heap.size + 1) cs).heap.size ⟨{ T with zones := ys.map (·.e) }, Az, cz, ys⟩ ∧ Below w.heap.size w (W.setRow (w.heap.size + 1) cs) := by
  have ho : ∀ b, b ≠ w.heap.size + 1 → (W.setRow (w.heap.size + 1) cs).heap[b]? = W.heap[b]? := fun b hb => setRow_other _ _ b _ hb
  have hs : (W.setRow (w.heap.size + 1) cs).heap.size = W.heap.size := by simp [World.setRow]
  have h1 : NxW w ib T k Az cz ys W := h
  refine ⟨⟨rfl, hp, hm, ⟨CellsAt.of_own (own_blocks14 h.own (by rw [hs]; omega) fun b h1 _ => ho b (by omega)), fun y hy => ((h.mem y hy).keep (v' := .slice Az k cz) (by rw [hs]; omega) fun b h1 h2 h3 => ⟨ho b (by omega), h3⟩).at⟩⟩, below_setRow' h.lo (Nat.le_succ _) _⟩
theorem ze_one (y : ZeV) : ∀ u ∈ y.cells.toList, u.oneCell' = true := by
  have h := zecells_ok [y]
  simpa [zecells] using h
/-- The table's zones lie in memory that is not older than lo. -/
def TbLow (lo : Nat) (y : TbV) : Prop := LowA lo y.A (zecells y.zs) ∧ ∀ z ∈ y.zs, ZnLow lo z.s z.e.z
theorem LV.low {lo lo' : Nat} {v : Value} {W : World} {A : Option Addr} {cs : List Value} (h : LV lo v W A cs) (hl : lo' ≤ lo) : LowA lo' A cs := by
  rcases h with h | ⟨b, off, h1, h2, _⟩
  · exact .inl h
  · exact .inr ⟨b, off, h1, Nat.le_trans hl h2⟩
theorem NxW.low {w W : World} {ib : Array Value} {T T' : Tb} {k cz : Nat} {Az : Option Addr} {ys : List ZeV} (h : NxW w ib T k Az cz ys W) : TbLow w.heap.size ⟨T', Az, cz, ys⟩ := by
  refine ⟨?_, fun y hy => ?_⟩
  · rcases h.own.2 with ⟨hv, hn⟩ | ⟨g, cap, cur, hv, hg, _⟩
    · refine .inl ?_
      show (zecells ys).length = 0
      rw [h.own.1, hn, Nat.zero_mul]
    · injection hv with h1 _ _
      exact .inr ⟨g, 0, h1, by omega⟩
  · obtain ⟨h1, h2, h3, h4⟩ := h.mem y hy
    exact ⟨h1.low (by omega), h2.low (by omega), h3.low (by omega), h4.low (by omega)⟩
/-- What Next gives. -/
def NextP (w : World) (n : Nat) (iss : UInt8) (x : ItV) (e : Ending) (w' : World) : Prop :=
  ∃ y : TbV, e = .returned (.agg (tbVal y.t (.slice y.A y.zs.length y.c))) ∧ TbAt w' w'.heap.size y ∧ y.t.issuer = (iss.toNat : Int) % 16 ∧ y.t.version = (n : Int) + 1 ∧ y.t.withdraws = (x.wd.toNat : Int) % ((n : Int) + 1) ∧ (n = 0 → y.t.prev = zero32) ∧ y.t.zones = nxZes x.vs ∧ TbLow w.heap.size y ∧ Below w.heap.size w w'
set_option maxRecDepth 10000 in
set_option maxHeartbeats 4000000 in
theorem next_r (x : ItV) (iss : UInt8) (CA : Option Addr) (cc n : Nat) (ts : List TbV) (w : World) (hx : ItAt w w.heap.size x) (hn : ts.length = n) (hn4 : n ≤ 4) (hc : ChAt w w.heap.size CA ts) (htm : ∀ y ∈ ts, TbM y.t) :
    Calls Tryz.prog 19 #[.slice CA n cc, .int .u8 (iss.toNat : Int), .agg x.cells] w (NextP w n iss x) := by
  obtain ⟨A, ic, vs, wd⟩ := x
  unfold ItV.cells
  simp only at hx ⊢
  have hml := hx.len
  obtain ⟨m, hm⟩ : ∃ m, vs.length = m := ⟨_, rfl⟩
  simp only at hml
  rw [hm] at hml
  rw [hm]
  have HX := Lib.hid hx
  have HM := Lib.hid hm
  have HC := Lib.hid hc
  have HN := Lib.hid hn
  have HTM := Lib.hid htm
  obtain ⟨ii, hii⟩ : ∃ i : Int, (iss.toNat : Int) % 16 = i := ⟨_, rfl⟩
  have hiss := byte_lt iss
  have hit : Int.tmod (iss.toNat : Int) 16 = ii := by rw [Int.tmod_eq_emod_of_nonneg (by omega)]; exact hii
  obtain ⟨wi, hwi⟩ : ∃ i : Int, (wd.toNat : Int) % ((n : Int) + 1) = i := ⟨_, rfl⟩
  have hwt : Int.tmod (wd.toNat : Int) ((n : Int) + 1) = wi := by rw [Int.tmod_eq_emod_of_nonneg (by omega)]; exact hwi
  have hwb := byte_lt wd
  have hi0 : 0 ≤ ii := by omega
  have hi1 : ii < 16 := by omega
  have hw0 : 0 ≤ wi := by rw [← hwi]; exact Int.emod_nonneg _ (by omega)
  have hw1 : wi < (n : Int) + 1 := by rw [← hwi]; exact Int.emod_lt_of_pos _ (by omega)
  have hne : ¬ (n : Int) + 1 = 0 := by omega
  obtain ⟨T, hT⟩ : ∃ T : Tb, ⟨ii, (n : Int) + 1, wi, zero32, zero32, []⟩ = T := ⟨_, rfl⟩
  have HT := Lib.hid hT
  have HSZ : Hid ((Tryz.prog.info? 47).map (·.size) = some (tbVal T (.slice none 0 0)).size) := Lib.hid (by rw [← hT]; exact tb_info _ _ rfl rfl)
  have HSE : Hid ((tbVal zTb (.slice none 0 0)).size = (tbVal T (.slice none 0 0)).size) := Lib.hid (by rw [← hT]; rw [tb_size _ _ rfl rfl, tb_size _ _ rfl rfl])
  have H0 := Lib.hid (NxW.start w #[.slice A m ic, Extern.Stop.cell wd] T (tbVal zTb (.slice none 0 0)))
  have cwd : ∀ W : World, AV w.heap.size 67 #[.slice A m ic, Extern.Stop.cell wd] W → W.cell? ⟨w.heap.size, 1, none⟩ = some (.int .u8 (wd.toNat : Int)) := fun W h => h.cell 1
  have CWD := Lib.hid cwd
  have HII := Lib.hid hii
  have HWI := Lib.hid hwi
  clear hx hm hc hn htm hT cwd
  go_enter Tryz.func19, Tryz.ntmps19
  go_upto_region 1 with (first
    | ((with_reducible refine g_alloc 47 ?_); go_must (refine wpList_alloc_nm rfl _ rfl (tbVal zTb (.slice none 0 0)) tab_zero ?_)))
  have c1 : ((w.alloc (.cells #[.slice A m ic, Extern.Stop.cell wd] 67)).alloc (.cells (tbVal zTb (.slice none 0 0)) 47)).cell? ⟨w.heap.size, 1, none⟩ = some (.int .u8 (wd.toNat : Int)) := CWD.out _ ⟨heap_alloc2_old w _ _⟩
  have h3 : (((w.alloc (.cells #[.slice A m ic, Extern.Stop.cell wd] 67)).alloc (.cells (tbVal zTb (.slice none 0 0)) 47)).alloc (.cells (tbVal zTb (.slice none 0 0)) 47)).heap[w.heap.size + 2]? = some (.cells (tbVal zTb (.slice none 0 0)) 47 (0, 0)) := by
    have h := heap_alloc_last ((w.alloc (.cells #[.slice A m ic, Extern.Stop.cell wd] 67)).alloc (.cells (tbVal zTb (.slice none 0 0)) 47)) (.cells (tbVal zTb (.slice none 0 0)) 47)
    rw [show ((w.alloc (.cells #[.slice A m ic, Extern.Stop.cell wd] 67)).alloc (.cells (tbVal zTb (.slice none 0 0)) 47)).heap.size = w.heap.size + 2 by simp] at h
    exact h
  have hsz2 : ((w.alloc (.cells #[.slice A m ic, Extern.Stop.cell wd] 67)).alloc (.cells (tbVal zTb (.slice none 0 0)) 47)).heap.size = w.heap.size + 2 := by simp
  have H3 := Lib.hid h3
  have HS2 := Lib.hid hsz2
  clear h3 hsz2
  go_upto_block 0 with (first
    | ((with_reducible refine g_alloc 47 ?_); go_must (refine wpList_alloc_nm rfl _ rfl (tbVal zTb (.slice none 0 0)) tab_zero ?_))
    | ((with_reducible refine pb_build 47 ?_); go_must (refine wpList_build_as rfl _ rfl (tbVal T (.slice none 0 0)) (by rw [← HT.out]; kernel_rfl) ?_))
    | ((with_reducible refine g_sto 47 ?_); go_must (refine wpList_store_row rfl _ _ _ rfl (w.heap.size + 2) (tbVal T (.slice none 0 0)) (congrArg (fun b => Value.pointer (some ⟨b, 0, none⟩)) HS2.out) rfl 47 (tbVal zTb (.slice none 0 0)) H3.out HSZ.out HSE.out (tbVal_one _ _ _ _) ?_)))
  generalize (((w.alloc (.cells #[.slice A m ic, Extern.Stop.cell wd] 67)).alloc (.cells (tbVal zTb (.slice none 0 0)) 47)).alloc (.cells (tbVal zTb (.slice none 0 0)) 47)).setRow (w.heap.size + 2) (tbVal T (.slice none 0 0)) = W1 at H0 ⊢
  (try simp only [Act.put, List.setIfInBounds_toArray, List.set_cons_zero, List.set_cons_succ])
  (first | rw [HS2.out] | rw [show w.heap.size + 1 + 1 = w.heap.size + 2 from rfl])
  clear c1 H3 HS2 hit hwt hii hwi HSZ HSE
  go_cut [8] (fun _ wx => ∃ k Az cz ys, k ≤ 3 ∧ ys.length = k ∧ ys.map (·.e) = nxZes vs ∧ NxW w #[.slice A m ic, Extern.Stop.cell wd] T k Az cz ys wx)
  case first =>
    go_wp2_with fail
    go_loopw [8] (fun i wr => ∃ k Az cz ys, k ≤ 3 ∧ k ≤ m ∧ i = I (k : Nat) ∧ ys.length = k ∧ ys.map (·.e) = (vs.take k).mapIdx (fun i v => (⟨zname i, madeZn v.x⟩ : Ze)) ∧ NxW w #[.slice A m ic, Extern.Stop.cell wd] T k Az cz ys wr) (fun i _ => 3 - (intOf i).toNat)
    case atStart => exact ⟨0, none, 0, [], by omega, by omega, rfl, rfl, rfl, H0.out⟩
    case round =>
      clear H0
      obtain ⟨k, Az, cz, ys, hk3, hkm, rfl, hyl, hye, hw⟩ := hrel
      have HX0 := Lib.hid hw
      have HYL := Lib.hid hyl
      have HYE := Lib.hid hye
      clear hw hyl hye
      have ci0 : wr.cell? ⟨w.heap.size, 0, none⟩ = some (.slice A m ic) := HX0.out.it.cell 0
      by_cases hlt : k < m ∧ k < 3
      · obtain ⟨hlm, hl3⟩ := hlt
        have i1 : (k : Int) < (m : Int) := by omega
        have i2 : (k : Int) < 3 := by omega
        have hkv : k < vs.length := by rw [HM.out]; exact hlm
        obtain ⟨v, hv⟩ : ∃ v, vs[k]? = some v := ⟨_, List.getElem?_eq_getElem hkv⟩
        obtain ⟨zb, zo, rfl, hzb, hcl⟩ := HX.out.row.there (by rw [show (vs.flatMap RwV.cells).length = vs.length * 14 from flat_len RwV.cells vs (fun _ _ => rfl)]; omega)
        have HR : Hid (w.rangeAt zb (zo + k * 14) v.cells) := Lib.hid (CellsAt.elem (s := 14) (f := RwV.cells) (fun _ _ => rfl) hcl k v hv)
        have HRV := Lib.hid (HX.out.each v (List.mem_of_getElem? hv))
        have HVK := Lib.hid hv
        obtain ⟨Z, hZ⟩ : ∃ Z, madeZn v.x = Z := ⟨_, rfl⟩
        have HZE := Lib.hid hZ
        have HMADE : Hid (∀ W, Below w.heap.size w W → Calls Tryz.prog 33 #[.agg (rwCells v.x v.G v.O v.gc v.oc)] W (MadeL W Z)) := Lib.hid (fun W hb => by
          have h := made_any v.x v.G v.O v.gc v.oc W HRV.out.gl HRV.out.ol ((HRV.out.g.keep hb).more hb.size) ((HRV.out.o.keep hb).more hb.size)
          rw [HZE.out] at h
          exact h)
        obtain ⟨i1', hi1', hq0, hq1, hq2⟩ := info_parts info_ze
        have HI1 := Lib.hid hi1'
        have HQ0 := Lib.hid hq0
        have HQ1 := Lib.hid hq1
        have HQ2 := Lib.hid hq2
        clear hv hkv hcl hi1' hq0 hq1 hq2 hZ
        have ww1 : IntKind.i64.wrap (97 + (k : Int)) = 97 + (k : Int) := by rw [IntKind.wrap_i64]; omega
        have ww2 : IntKind.u8.wrap (97 + (k : Int)) = 97 + (k : Int) := by simp [IntKind.wrap, IntKind.bits, IntKind.signed]; omega
        go_upto_block 1 with fail
        go_cut [8] (fun p wx => p = I (k : Nat) ∧ ∃ Az2 cz2 s, NxW w #[.slice (some ⟨zb, zo, none⟩) m ic, Extern.Stop.cell wd] T (k + 1) Az2 cz2 (ys ++ [(⟨⟨zname k, Z⟩, s⟩ : ZeV)]) wx)
        case first =>
          clear ci0
          go_upto_region 5 with fail
          have hS0 : NxI w zb zo m ic k v wr.drew := NxI.of HX0.out.drew.it HX0.out.drew.lo HR.out hzb
          refine wp_region_held_drew (S := NxI w zb zo m ic k v) (by kernel_rfl) hS0 (fun _ => ?_)
          have HXD := Lib.hid HX0.out.drew
          generalize wr.drew = V at HXD hS0 ⊢
          refine wpAnyH_take_dd (i := 0) (v := (.pointer (some ⟨w.heap.size + 2, 3, none⟩))) (d := 34) rfl rfl (by kernel_rfl) (by kernel_rfl) (by kernel_rfl) (fun _ _ _ h => h) (Or.inl ⟨by rfl, fun w' hSw => ?_⟩) hS0 ?_
          · obtain ⟨s0, _⟩ := hSw
            go_simp
          try simp only [Act.put, List.setIfInBounds_toArray, List.set_cons_zero, List.set_cons_succ]
          refine wpAnyH_take_dd (i := 2) (v := (I (k : Int))) (d := 36) rfl rfl (by kernel_rfl) (by kernel_rfl) (by kernel_rfl) (fun _ _ _ h => h) (Or.inl ⟨by rfl, fun w' hSw => ?_⟩) hS0 ?_
          · obtain ⟨s0, _⟩ := hSw
            go_simp
          try simp only [Act.put, List.setIfInBounds_toArray, List.set_cons_zero, List.set_cons_succ]
          refine wpAnyH_take_dd (i := 3) (v := (.int .i64 (97 + (k : Int)))) (d := 37) rfl rfl (by kernel_rfl) (by kernel_rfl) (by kernel_rfl) (fun _ _ _ h => h) (Or.inl ⟨by rfl, fun w' hSw => ?_⟩) hS0 ?_
          · obtain ⟨s0, _⟩ := hSw
            go_simp
          try simp only [Act.put, List.setIfInBounds_toArray, List.set_cons_zero, List.set_cons_succ]
          refine wpAnyH_take_dd (i := 4) (v := (.int .u8 (97 + (k : Int)))) (d := 38) rfl rfl (by kernel_rfl) (by kernel_rfl) (by kernel_rfl) (fun _ _ _ h => h) (Or.inl ⟨by rfl, fun w' hSw => ?_⟩) hS0 ?_
          · obtain ⟨s0, _⟩ := hSw
            go_simp
          try simp only [Act.put, List.setIfInBounds_toArray, List.set_cons_zero, List.set_cons_succ]
          refine wpAnyH_take_dd (i := 8) (v := (.pointer (some ⟨w.heap.size, 0, none⟩))) (d := 42) rfl rfl (by kernel_rfl) (by kernel_rfl) (by kernel_rfl) (fun _ _ _ h => h) (Or.inl ⟨by rfl, fun w' hSw => ?_⟩) hS0 ?_
          · obtain ⟨s0, _⟩ := hSw
            go_simp
          try simp only [Act.put, List.setIfInBounds_toArray, List.set_cons_zero, List.set_cons_succ]
          refine wpAnyH_take_dd (i := 10) (v := (I (k : Int))) (d := 44) rfl rfl (by kernel_rfl) (by kernel_rfl) (by kernel_rfl) (fun _ _ _ h => h) (Or.inl ⟨by rfl, fun w' hSw => ?_⟩) hS0 ?_
          · obtain ⟨s0, _⟩ := hSw
            go_simp
          try simp only [Act.put, List.setIfInBounds_toArray, List.set_cons_zero, List.set_cons_succ]
          refine wpAnyH_take_dd (i := 9) (v := (.slice (some ⟨zb, zo, none⟩) m ic)) (d := 43) rfl rfl (by kernel_rfl) (by kernel_rfl) (by kernel_rfl) (fun _ _ _ h => h) (Or.inl ⟨by rfl, fun w' hSw => ?_⟩) hS0 ?_
          · obtain ⟨s0, _⟩ := hSw
            go_simp
          try simp only [Act.put, List.setIfInBounds_toArray, List.set_cons_zero, List.set_cons_succ]
          refine wpAnyH_take_dd (i := 11) (v := (.pointer (some ⟨zb, zo + k * 14, none⟩))) (d := 45) rfl rfl (by kernel_rfl) (by kernel_rfl) (by kernel_rfl) (fun _ _ _ h => h) (Or.inl ⟨by rfl, fun w' hSw => ?_⟩) hS0 ?_
          · obtain ⟨s0, _⟩ := hSw
            go_simp
          try simp only [Act.put, List.setIfInBounds_toArray, List.set_cons_zero, List.set_cons_succ]
          refine wpAnyH_take_dd (i := 12) (v := .agg (rwCells v.x v.G v.O v.gc v.oc)) (d := 46) rfl rfl (by kernel_rfl) (by kernel_rfl) (by kernel_rfl) (fun _ _ _ h => h) (yieldsIf_load_mid rfl 95 _ rfl zb (zo + k * 14) rfl v.cells _ (fun _ h => h.2) Tryz.underlying95 rfl (by kernel_rfl)) hS0 ?_
          try simp only [Act.put, List.setIfInBounds_toArray, List.set_cons_zero, List.set_cons_succ]
          refine wpAnyH_ready (rs := [1, 5, 13]) (by kernel_rfl) (by simp) ?_
          refine AllReadyH.cons rfl (fun K hK => ?_) (AllReadyH.cons rfl (fun K hK => ?_) (AllReadyH.cons rfl (fun K hK => ?_) AllReadyH.nil))
          · have z3 : V.cell? ⟨w.heap.size + 2, 3, none⟩ = some (.slice Az k cz) := (HXD.out.t.cell 3).trans (tb_get3 _ _)
            go_simp
            refine hK.out _ _ hS0 (fun _ => ?_)
            clear hK K z3
            try simp only [Act.put, List.setIfInBounds_toArray, List.set_cons_zero, List.set_cons_succ]
            refine wpAnyH_ready (rs := [5, 13]) (by kernel_rfl) (by simp) ?_
            refine AllReadyH.cons rfl (fun K hK => ?_) (AllReadyH.cons rfl (fun K hK => ?_) AllReadyH.nil)
            · go_simp
              have HX2 := Lib.hid (HXD.out.grow (below_var V (.cells #[.int .u8 (97 + (k : Int))] 5)))
              have HB2 : Hid ((V.alloc (.cells #[.int .u8 (97 + (k : Int))] 5)).heap[V.heap.size]? = some (.cells #[.int .u8 (97 + (k : Int))] 5 (0, 0))) := Lib.hid (heap_alloc_last _ _)
              have hS2 : NxI w zb zo m ic k v (V.alloc (.cells #[.int .u8 (97 + (k : Int))] 5)) := NxI.of HX2.out.it HX2.out.lo HR.out hzb
              refine hK.out _ _ hS2 (fun _ => ?_)
              clear hK K
              try simp only [Act.put, List.setIfInBounds_toArray, List.set_cons_zero, List.set_cons_succ]
              generalize (V.alloc (.cells #[.int .u8 (97 + (k : Int))] 5)) = W2 at HX2 HB2 hS2 ⊢
              generalize V.heap.size = bb2 at HB2 ⊢
              refine wpAnyH_ready (rs := [6, 13]) (by kernel_rfl) (by simp) ?_
              refine AllReadyH.cons rfl (fun K hK => ?_) (AllReadyH.cons rfl (fun K hK => ?_) AllReadyH.nil)
              · have hcv := conv_row W2 bb2 (97 + (k : Int)) HB2.out
                go_simp
                refine hK.out _ _ hS2 (fun _ => ?_)
                clear hK K hcv
                try simp only [Act.put, List.setIfInBounds_toArray, List.set_cons_zero, List.set_cons_succ]
                refine wpAnyH_take_dd (i := 7) (v := (.string (⟨#[122]⟩ ++ ⟨#[UInt8.ofNat (97 + (k : Int)).toNat]⟩))) (d := 41) rfl rfl (by kernel_rfl) (by kernel_rfl) (by kernel_rfl) (fun _ _ _ h => h) (Or.inl ⟨by rfl, fun w' hSw => ?_⟩) hS2 ?_
                · obtain ⟨s0, _⟩ := hSw
                  go_simp
                try simp only [Act.put, List.setIfInBounds_toArray, List.set_cons_zero, List.set_cons_succ]
                rw [zname_app]
                refine wpAnyH_ready (rs := [13]) (by kernel_rfl) (by simp) ?_
                refine AllReadyH.cons rfl (fun K hK => ?_) AllReadyH.nil
                go_simp
                refine (HMADE.out W2 HX2.out.lo).mono ?_
                rintro e W4 ⟨s, rfl, hz4, hl4, hb4⟩
                have HX4 := Lib.hid (HX2.out.grow hb4)
                have hS4 : NxI w zb zo m ic k v W4 := NxI.of HX4.out.it HX4.out.lo HR.out hzb
                have HZ4 : Hid (ZnMem (w.heap.size + 3) (.slice Az k cz) W4 s Z) := Lib.hid (ZnMem.of hz4 hl4 HX2.out.lt HX2.out.ownlt)
                have HB4 := Lib.hid ((hb4.block _ (Array.getElem?_eq_some_iff.1 HB2.out).1).trans HB2.out)
                clear hz4 hl4 hb4
                refine hK.out _ _ hS4 (fun _ => ?_)
                clear hK K
                try simp only [Act.put, List.setIfInBounds_toArray, List.set_cons_zero, List.set_cons_succ]
                refine wpAnyH_take_dd (i := 14) (v := .agg #[.string (zname k), I Z.cal.epoch, .slice s.A Z.cal.months.length s.a, I Z.cal.leap, .slice s.B Z.cal.rules.length s.b, I Z.start, .slice s.C Z.trans.length s.c, I Z.hor, .slice s.D Z.yearly.length s.d]) (d := 48) rfl rfl (by kernel_rfl) (by kernel_rfl) (by kernel_rfl) (fun _ _ _ h => h) (yieldsIf_build rfl 73 _ rfl #[.string (zname k), I Z.cal.epoch, .slice s.A Z.cal.months.length s.a, I Z.cal.leap, .slice s.B Z.cal.rules.length s.b, I Z.start, .slice s.C Z.trans.length s.c, I Z.hor, .slice s.D Z.yearly.length s.d] (by kernel_rfl)) hS4 ?_
                try simp only [Act.put, List.setIfInBounds_toArray, List.set_cons_zero, List.set_cons_succ]
                refine wpAnyH_ready (rs := [15]) (by kernel_rfl) (by simp) ?_
                refine AllReadyH.cons rfl (fun K hK => ?_) AllReadyH.nil
                go_simp
                have HXA := Lib.hid (HX4.out.grow (below_var W4 (.cells #[.string (zname k), I Z.cal.epoch, .slice s.A Z.cal.months.length s.a, I Z.cal.leap, .slice s.B Z.cal.rules.length s.b, I Z.start, .slice s.C Z.trans.length s.c, I Z.hor, .slice s.D Z.yearly.length s.d] 73)))
                have hS5 : NxI w zb zo m ic k v (W4.alloc (.cells #[.string (zname k), I Z.cal.epoch, .slice s.A Z.cal.months.length s.a, I Z.cal.leap, .slice s.B Z.cal.rules.length s.b, I Z.start, .slice s.C Z.trans.length s.c, I Z.hor, .slice s.D Z.yearly.length s.d] 73)) := NxI.of HXA.out.it HXA.out.lo HR.out hzb
                refine hK.out _ _ hS5 (fun _ => ?_)
                clear hK K
                try simp only [Act.put, List.setIfInBounds_toArray, List.set_cons_zero, List.set_cons_succ]
                refine wpAnyH_ready (rs := [16]) (by kernel_rfl) (by simp) ?_
                refine AllReadyH.cons rfl (fun K hK => ?_) AllReadyH.nil
                have hwlt := HX4.out.lt
                refine step_append_lies _ (by rfl) _ _ _ (by rfl) (w.heap.size + 3) 73 i1' (.agg zZe) 9 144 Tryz.underlying45 HI1.out HQ0.out HQ1.out HQ2.out rfl (by omega) (.slice Az k cz) k (zecells ys) (by rfl) HXA.out.own ⟨W4.heap.size, 0, none⟩ 1 1 (⟨⟨zname k, Z⟩, s⟩ : ZeV).cells.toList (by rfl) rfl (news_lit _ _ _ _ rfl) (ze_one (⟨⟨zname k, Z⟩, s⟩ : ZeV)) (by omega) (by unfold maxLen; omega) (by omega) (by simp; omega) _ rfl ?_
                intro gg cap w6 hown6 hgrow6 hat6 _
                obtain ⟨hit6, ht6, hlo6⟩ := HX4.out.mid _ hgrow6
                have hS6 : NxI w zb zo m ic k v w6 := NxI.of hit6 hlo6 HR.out hzb
                have HX7 : Hid (NxW w #[.slice (some ⟨zb, zo, none⟩) m ic, Extern.Stop.cell wd] T (k + 1) (some ⟨gg, 0, none⟩) cap (ys ++ [(⟨⟨zname k, Z⟩, s⟩ : ZeV)]) (w6.setCell ⟨w.heap.size + 2, 3, none⟩ (.slice (some ⟨gg, 0, none⟩) (k + 1) cap))) := Lib.hid (HX4.out.add HZ4.out rfl hown6 hgrow6 hat6)
                have c66 : w6.cell? ⟨w.heap.size + 2, 3, none⟩ = some (.slice Az k cz) := (ht6.cell 3).trans (tb_get3 _ _)
                have f66 : w6.frozen? ⟨w.heap.size + 2, 3, none⟩ = false := ht6.froz 3
                clear hown6 hgrow6 hat6 hit6 ht6 hlo6
                refine hK.out _ _ hS6 (fun _ => ?_)
                clear hK K
                try simp only [Act.put, List.setIfInBounds_toArray]
                refine wpAnyH_take_dd (i := 17) (v := (.pointer (some ⟨w.heap.size + 2, 3, none⟩))) (d := 51) rfl rfl (by kernel_rfl) (by kernel_rfl) (by kernel_rfl) (fun _ _ _ h => h) (Or.inl ⟨by rfl, fun w' hSw => ?_⟩) hS6 ?_
                · obtain ⟨s0, _⟩ := hSw
                  go_simp
                try simp only [Act.put]
                refine wpAnyH_ready (rs := [18]) (by kernel_rfl) (by simp) ?_
                refine AllReadyH.cons rfl (fun K hK => ?_) AllReadyH.nil
                go_simp
                have hS7 : NxI w zb zo m ic k v (w6.setCell ⟨w.heap.size + 2, 3, none⟩ (.slice (some ⟨gg, 0, none⟩) (k + 1) cap)) := NxI.of HX7.out.it HX7.out.lo HR.out hzb
                refine hK.out _ _ hS7 (fun _ => ?_)
                clear hK K
                refine wpAnyH_done (by kernel_rfl) ?_ _
                go_wp2_with fail
                go_meet
                exact ⟨rfl, some ⟨gg, 0, none⟩, cap, s, HX7.out⟩
              · go_simp
                refine (HMADE.out W2 HX2.out.lo).mono ?_
                rintro e W6 ⟨s, rfl, hz6, hl6, hb6⟩
                have HX6 := Lib.hid (HX2.out.grow hb6)
                have hS6 : NxI w zb zo m ic k v W6 := NxI.of HX6.out.it HX6.out.lo HR.out hzb
                have HZ6 : Hid (ZnMem (w.heap.size + 3) (.slice Az k cz) W6 s Z) := Lib.hid (ZnMem.of hz6 hl6 HX2.out.lt HX2.out.ownlt)
                have HB6 := Lib.hid ((hb6.block _ (Array.getElem?_eq_some_iff.1 HB2.out).1).trans HB2.out)
                clear hz6 hl6 hb6
                refine hK.out _ _ hS6 (fun _ => ?_)
                clear hK K
                try simp only [Act.put, List.setIfInBounds_toArray, List.set_cons_zero, List.set_cons_succ]
                refine wpAnyH_ready (rs := [6]) (by kernel_rfl) (by simp) ?_
                refine AllReadyH.cons rfl (fun K hK => ?_) AllReadyH.nil
                have hcv := conv_row W6 bb2 (97 + (k : Int)) HB6.out
                go_simp
                refine hK.out _ _ hS6 (fun _ => ?_)
                clear hK K hcv
                try simp only [Act.put, List.setIfInBounds_toArray, List.set_cons_zero, List.set_cons_succ]
                refine wpAnyH_take_dd (i := 7) (v := (.string (⟨#[122]⟩ ++ ⟨#[UInt8.ofNat (97 + (k : Int)).toNat]⟩))) (d := 41) rfl rfl (by kernel_rfl) (by kernel_rfl) (by kernel_rfl) (fun _ _ _ h => h) (Or.inl ⟨by rfl, fun w' hSw => ?_⟩) hS6 ?_
                · obtain ⟨s0, _⟩ := hSw
                  go_simp
                try simp only [Act.put, List.setIfInBounds_toArray, List.set_cons_zero, List.set_cons_succ]
                rw [zname_app]
                refine wpAnyH_take_dd (i := 14) (v := .agg #[.string (zname k), I Z.cal.epoch, .slice s.A Z.cal.months.length s.a, I Z.cal.leap, .slice s.B Z.cal.rules.length s.b, I Z.start, .slice s.C Z.trans.length s.c, I Z.hor, .slice s.D Z.yearly.length s.d]) (d := 48) rfl rfl (by kernel_rfl) (by kernel_rfl) (by kernel_rfl) (fun _ _ _ h => h) (yieldsIf_build rfl 73 _ rfl #[.string (zname k), I Z.cal.epoch, .slice s.A Z.cal.months.length s.a, I Z.cal.leap, .slice s.B Z.cal.rules.length s.b, I Z.start, .slice s.C Z.trans.length s.c, I Z.hor, .slice s.D Z.yearly.length s.d] (by kernel_rfl)) hS6 ?_
                try simp only [Act.put, List.setIfInBounds_toArray, List.set_cons_zero, List.set_cons_succ]
                refine wpAnyH_ready (rs := [15]) (by kernel_rfl) (by simp) ?_
                refine AllReadyH.cons rfl (fun K hK => ?_) AllReadyH.nil
                go_simp
                have HXA := Lib.hid (HX6.out.grow (below_var W6 (.cells #[.string (zname k), I Z.cal.epoch, .slice s.A Z.cal.months.length s.a, I Z.cal.leap, .slice s.B Z.cal.rules.length s.b, I Z.start, .slice s.C Z.trans.length s.c, I Z.hor, .slice s.D Z.yearly.length s.d] 73)))
                have hS8 : NxI w zb zo m ic k v (W6.alloc (.cells #[.string (zname k), I Z.cal.epoch, .slice s.A Z.cal.months.length s.a, I Z.cal.leap, .slice s.B Z.cal.rules.length s.b, I Z.start, .slice s.C Z.trans.length s.c, I Z.hor, .slice s.D Z.yearly.length s.d] 73)) := NxI.of HXA.out.it HXA.out.lo HR.out hzb
                refine hK.out _ _ hS8 (fun _ => ?_)
                clear hK K
                try simp only [Act.put, List.setIfInBounds_toArray, List.set_cons_zero, List.set_cons_succ]
                refine wpAnyH_ready (rs := [16]) (by kernel_rfl) (by simp) ?_
                refine AllReadyH.cons rfl (fun K hK => ?_) AllReadyH.nil
                have hwlt := HX6.out.lt
                refine step_append_lies _ (by rfl) _ _ _ (by rfl) (w.heap.size + 3) 73 i1' (.agg zZe) 9 144 Tryz.underlying45 HI1.out HQ0.out HQ1.out HQ2.out rfl (by omega) (.slice Az k cz) k (zecells ys) (by rfl) HXA.out.own ⟨W6.heap.size, 0, none⟩ 1 1 (⟨⟨zname k, Z⟩, s⟩ : ZeV).cells.toList (by rfl) rfl (news_lit _ _ _ _ rfl) (ze_one (⟨⟨zname k, Z⟩, s⟩ : ZeV)) (by omega) (by unfold maxLen; omega) (by omega) (by simp; omega) _ rfl ?_
                intro gg cap w6 hown6 hgrow6 hat6 _
                obtain ⟨hit6, ht6, hlo6⟩ := HX6.out.mid _ hgrow6
                have hS6 : NxI w zb zo m ic k v w6 := NxI.of hit6 hlo6 HR.out hzb
                have HX7 : Hid (NxW w #[.slice (some ⟨zb, zo, none⟩) m ic, Extern.Stop.cell wd] T (k + 1) (some ⟨gg, 0, none⟩) cap (ys ++ [(⟨⟨zname k, Z⟩, s⟩ : ZeV)]) (w6.setCell ⟨w.heap.size + 2, 3, none⟩ (.slice (some ⟨gg, 0, none⟩) (k + 1) cap))) := Lib.hid (HX6.out.add HZ6.out rfl hown6 hgrow6 hat6)
                have c66 : w6.cell? ⟨w.heap.size + 2, 3, none⟩ = some (.slice Az k cz) := (ht6.cell 3).trans (tb_get3 _ _)
                have f66 : w6.frozen? ⟨w.heap.size + 2, 3, none⟩ = false := ht6.froz 3
                clear hown6 hgrow6 hat6 hit6 ht6 hlo6
                refine hK.out _ _ hS6 (fun _ => ?_)
                clear hK K
                try simp only [Act.put, List.setIfInBounds_toArray]
                refine wpAnyH_take_dd (i := 17) (v := (.pointer (some ⟨w.heap.size + 2, 3, none⟩))) (d := 51) rfl rfl (by kernel_rfl) (by kernel_rfl) (by kernel_rfl) (fun _ _ _ h => h) (Or.inl ⟨by rfl, fun w' hSw => ?_⟩) hS6 ?_
                · obtain ⟨s0, _⟩ := hSw
                  go_simp
                try simp only [Act.put]
                refine wpAnyH_ready (rs := [18]) (by kernel_rfl) (by simp) ?_
                refine AllReadyH.cons rfl (fun K hK => ?_) AllReadyH.nil
                go_simp
                have hS7 : NxI w zb zo m ic k v (w6.setCell ⟨w.heap.size + 2, 3, none⟩ (.slice (some ⟨gg, 0, none⟩) (k + 1) cap)) := NxI.of HX7.out.it HX7.out.lo HR.out hzb
                refine hK.out _ _ hS7 (fun _ => ?_)
                clear hK K
                refine wpAnyH_done (by kernel_rfl) ?_ _
                go_wp2_with fail
                go_meet
                exact ⟨rfl, some ⟨gg, 0, none⟩, cap, s, HX7.out⟩
            · go_simp
              refine (HMADE.out V HXD.out.lo).mono ?_
              rintro e W9 ⟨s, rfl, hz9, hl9, hb9⟩
              have HX9 := Lib.hid (HXD.out.grow hb9)
              have hS9 : NxI w zb zo m ic k v W9 := NxI.of HX9.out.it HX9.out.lo HR.out hzb
              have HZ9 : Hid (ZnMem (w.heap.size + 3) (.slice Az k cz) W9 s Z) := Lib.hid (ZnMem.of hz9 hl9 HXD.out.lt HXD.out.ownlt)
              clear hz9 hl9 hb9
              refine hK.out _ _ hS9 (fun _ => ?_)
              clear hK K
              try simp only [Act.put, List.setIfInBounds_toArray, List.set_cons_zero, List.set_cons_succ]
              refine wpAnyH_ready (rs := [5]) (by kernel_rfl) (by simp) ?_
              refine AllReadyH.cons rfl (fun K hK => ?_) AllReadyH.nil
              go_simp
              have HX10 := Lib.hid (HX9.out.grow (below_var W9 (.cells #[.int .u8 (97 + (k : Int))] 5)))
              have HB10 : Hid ((W9.alloc (.cells #[.int .u8 (97 + (k : Int))] 5)).heap[W9.heap.size]? = some (.cells #[.int .u8 (97 + (k : Int))] 5 (0, 0))) := Lib.hid (heap_alloc_last _ _)
              have hS10 : NxI w zb zo m ic k v (W9.alloc (.cells #[.int .u8 (97 + (k : Int))] 5)) := NxI.of HX10.out.it HX10.out.lo HR.out hzb
              have HZ10 := Lib.hid (HZ9.out.grow (below_var W9 (.cells #[.int .u8 (97 + (k : Int))] 5)))
              refine hK.out _ _ hS10 (fun _ => ?_)
              clear hK K
              try simp only [Act.put, List.setIfInBounds_toArray, List.set_cons_zero, List.set_cons_succ]
              generalize (W9.alloc (.cells #[.int .u8 (97 + (k : Int))] 5)) = W10 at HX10 HB10 hS10 HZ10 ⊢
              generalize W9.heap.size = bb10 at HB10 ⊢
              refine wpAnyH_ready (rs := [6]) (by kernel_rfl) (by simp) ?_
              refine AllReadyH.cons rfl (fun K hK => ?_) AllReadyH.nil
              have hcv := conv_row W10 bb10 (97 + (k : Int)) HB10.out
              go_simp
              refine hK.out _ _ hS10 (fun _ => ?_)
              clear hK K hcv
              try simp only [Act.put, List.setIfInBounds_toArray, List.set_cons_zero, List.set_cons_succ]
              refine wpAnyH_take_dd (i := 7) (v := (.string (⟨#[122]⟩ ++ ⟨#[UInt8.ofNat (97 + (k : Int)).toNat]⟩))) (d := 41) rfl rfl (by kernel_rfl) (by kernel_rfl) (by kernel_rfl) (fun _ _ _ h => h) (Or.inl ⟨by rfl, fun w' hSw => ?_⟩) hS10 ?_
              · obtain ⟨s0, _⟩ := hSw
                go_simp
              try simp only [Act.put, List.setIfInBounds_toArray, List.set_cons_zero, List.set_cons_succ]
              rw [zname_app]
              refine wpAnyH_take_dd (i := 14) (v := .agg #[.string (zname k), I Z.cal.epoch, .slice s.A Z.cal.months.length s.a, I Z.cal.leap, .slice s.B Z.cal.rules.length s.b, I Z.start, .slice s.C Z.trans.length s.c, I Z.hor, .slice s.D Z.yearly.length s.d]) (d := 48) rfl rfl (by kernel_rfl) (by kernel_rfl) (by kernel_rfl) (fun _ _ _ h => h) (yieldsIf_build rfl 73 _ rfl #[.string (zname k), I Z.cal.epoch, .slice s.A Z.cal.months.length s.a, I Z.cal.leap, .slice s.B Z.cal.rules.length s.b, I Z.start, .slice s.C Z.trans.length s.c, I Z.hor, .slice s.D Z.yearly.length s.d] (by kernel_rfl)) hS10 ?_
              try simp only [Act.put, List.setIfInBounds_toArray, List.set_cons_zero, List.set_cons_succ]
              refine wpAnyH_ready (rs := [15]) (by kernel_rfl) (by simp) ?_
              refine AllReadyH.cons rfl (fun K hK => ?_) AllReadyH.nil
              go_simp
              have HXA := Lib.hid (HX10.out.grow (below_var W10 (.cells #[.string (zname k), I Z.cal.epoch, .slice s.A Z.cal.months.length s.a, I Z.cal.leap, .slice s.B Z.cal.rules.length s.b, I Z.start, .slice s.C Z.trans.length s.c, I Z.hor, .slice s.D Z.yearly.length s.d] 73)))
              have hS12 : NxI w zb zo m ic k v (W10.alloc (.cells #[.string (zname k), I Z.cal.epoch, .slice s.A Z.cal.months.length s.a, I Z.cal.leap, .slice s.B Z.cal.rules.length s.b, I Z.start, .slice s.C Z.trans.length s.c, I Z.hor, .slice s.D Z.yearly.length s.d] 73)) := NxI.of HXA.out.it HXA.out.lo HR.out hzb
              refine hK.out _ _ hS12 (fun _ => ?_)
              clear hK K
              try simp only [Act.put, List.setIfInBounds_toArray, List.set_cons_zero, List.set_cons_succ]
              refine wpAnyH_ready (rs := [16]) (by kernel_rfl) (by simp) ?_
              refine AllReadyH.cons rfl (fun K hK => ?_) AllReadyH.nil
              have hwlt := HX10.out.lt
              refine step_append_lies _ (by rfl) _ _ _ (by rfl) (w.heap.size + 3) 73 i1' (.agg zZe) 9 144 Tryz.underlying45 HI1.out HQ0.out HQ1.out HQ2.out rfl (by omega) (.slice Az k cz) k (zecells ys) (by rfl) HXA.out.own ⟨W10.heap.size, 0, none⟩ 1 1 (⟨⟨zname k, Z⟩, s⟩ : ZeV).cells.toList (by rfl) rfl (news_lit _ _ _ _ rfl) (ze_one (⟨⟨zname k, Z⟩, s⟩ : ZeV)) (by omega) (by unfold maxLen; omega) (by omega) (by simp; omega) _ rfl ?_
              intro gg cap w6 hown6 hgrow6 hat6 _
              obtain ⟨hit6, ht6, hlo6⟩ := HX10.out.mid _ hgrow6
              have hS6 : NxI w zb zo m ic k v w6 := NxI.of hit6 hlo6 HR.out hzb
              have HX7 : Hid (NxW w #[.slice (some ⟨zb, zo, none⟩) m ic, Extern.Stop.cell wd] T (k + 1) (some ⟨gg, 0, none⟩) cap (ys ++ [(⟨⟨zname k, Z⟩, s⟩ : ZeV)]) (w6.setCell ⟨w.heap.size + 2, 3, none⟩ (.slice (some ⟨gg, 0, none⟩) (k + 1) cap))) := Lib.hid (HX10.out.add HZ10.out rfl hown6 hgrow6 hat6)
              have c66 : w6.cell? ⟨w.heap.size + 2, 3, none⟩ = some (.slice Az k cz) := (ht6.cell 3).trans (tb_get3 _ _)
              have f66 : w6.frozen? ⟨w.heap.size + 2, 3, none⟩ = false := ht6.froz 3
              clear hown6 hgrow6 hat6 hit6 ht6 hlo6
              refine hK.out _ _ hS6 (fun _ => ?_)
              clear hK K
              try simp only [Act.put, List.setIfInBounds_toArray]
              refine wpAnyH_take_dd (i := 17) (v := (.pointer (some ⟨w.heap.size + 2, 3, none⟩))) (d := 51) rfl rfl (by kernel_rfl) (by kernel_rfl) (by kernel_rfl) (fun _ _ _ h => h) (Or.inl ⟨by rfl, fun w' hSw => ?_⟩) hS6 ?_
              · obtain ⟨s0, _⟩ := hSw
                go_simp
              try simp only [Act.put]
              refine wpAnyH_ready (rs := [18]) (by kernel_rfl) (by simp) ?_
              refine AllReadyH.cons rfl (fun K hK => ?_) AllReadyH.nil
              go_simp
              have hS7 : NxI w zb zo m ic k v (w6.setCell ⟨w.heap.size + 2, 3, none⟩ (.slice (some ⟨gg, 0, none⟩) (k + 1) cap)) := NxI.of HX7.out.it HX7.out.lo HR.out hzb
              refine hK.out _ _ hS7 (fun _ => ?_)
              clear hK K
              refine wpAnyH_done (by kernel_rfl) ?_ _
              go_wp2_with fail
              go_meet
              exact ⟨rfl, some ⟨gg, 0, none⟩, cap, s, HX7.out⟩
          · go_simp
            have HX13 := Lib.hid (HXD.out.grow (below_var V (.cells #[.int .u8 (97 + (k : Int))] 5)))
            have HB13 : Hid ((V.alloc (.cells #[.int .u8 (97 + (k : Int))] 5)).heap[V.heap.size]? = some (.cells #[.int .u8 (97 + (k : Int))] 5 (0, 0))) := Lib.hid (heap_alloc_last _ _)
            have hS13 : NxI w zb zo m ic k v (V.alloc (.cells #[.int .u8 (97 + (k : Int))] 5)) := NxI.of HX13.out.it HX13.out.lo HR.out hzb
            refine hK.out _ _ hS13 (fun _ => ?_)
            clear hK K
            try simp only [Act.put, List.setIfInBounds_toArray, List.set_cons_zero, List.set_cons_succ]
            generalize (V.alloc (.cells #[.int .u8 (97 + (k : Int))] 5)) = W13 at HX13 HB13 hS13 ⊢
            generalize V.heap.size = bb13 at HB13 ⊢
            refine wpAnyH_ready (rs := [1, 6, 13]) (by kernel_rfl) (by simp) ?_
            refine AllReadyH.cons rfl (fun K hK => ?_) (AllReadyH.cons rfl (fun K hK => ?_) (AllReadyH.cons rfl (fun K hK => ?_) AllReadyH.nil))
            · have z3 : W13.cell? ⟨w.heap.size + 2, 3, none⟩ = some (.slice Az k cz) := (HX13.out.t.cell 3).trans (tb_get3 _ _)
              go_simp
              refine hK.out _ _ hS13 (fun _ => ?_)
              clear hK K z3
              try simp only [Act.put, List.setIfInBounds_toArray, List.set_cons_zero, List.set_cons_succ]
              refine wpAnyH_ready (rs := [6, 13]) (by kernel_rfl) (by simp) ?_
              refine AllReadyH.cons rfl (fun K hK => ?_) (AllReadyH.cons rfl (fun K hK => ?_) AllReadyH.nil)
              · have hcv := conv_row W13 bb13 (97 + (k : Int)) HB13.out
                go_simp
                refine hK.out _ _ hS13 (fun _ => ?_)
                clear hK K hcv
                try simp only [Act.put, List.setIfInBounds_toArray, List.set_cons_zero, List.set_cons_succ]
                refine wpAnyH_take_dd (i := 7) (v := (.string (⟨#[122]⟩ ++ ⟨#[UInt8.ofNat (97 + (k : Int)).toNat]⟩))) (d := 41) rfl rfl (by kernel_rfl) (by kernel_rfl) (by kernel_rfl) (fun _ _ _ h => h) (Or.inl ⟨by rfl, fun w' hSw => ?_⟩) hS13 ?_
                · obtain ⟨s0, _⟩ := hSw
                  go_simp
                try simp only [Act.put, List.setIfInBounds_toArray, List.set_cons_zero, List.set_cons_succ]
                rw [zname_app]
                refine wpAnyH_ready (rs := [13]) (by kernel_rfl) (by simp) ?_
                refine AllReadyH.cons rfl (fun K hK => ?_) AllReadyH.nil
                go_simp
                refine (HMADE.out W13 HX13.out.lo).mono ?_
                rintro e W16 ⟨s, rfl, hz16, hl16, hb16⟩
                have HX16 := Lib.hid (HX13.out.grow hb16)
                have hS16 : NxI w zb zo m ic k v W16 := NxI.of HX16.out.it HX16.out.lo HR.out hzb
                have HZ16 : Hid (ZnMem (w.heap.size + 3) (.slice Az k cz) W16 s Z) := Lib.hid (ZnMem.of hz16 hl16 HX13.out.lt HX13.out.ownlt)
                have HB16 := Lib.hid ((hb16.block _ (Array.getElem?_eq_some_iff.1 HB13.out).1).trans HB13.out)
                clear hz16 hl16 hb16
                refine hK.out _ _ hS16 (fun _ => ?_)
                clear hK K
                try simp only [Act.put, List.setIfInBounds_toArray, List.set_cons_zero, List.set_cons_succ]
                refine wpAnyH_take_dd (i := 14) (v := .agg #[.string (zname k), I Z.cal.epoch, .slice s.A Z.cal.months.length s.a, I Z.cal.leap, .slice s.B Z.cal.rules.length s.b, I Z.start, .slice s.C Z.trans.length s.c, I Z.hor, .slice s.D Z.yearly.length s.d]) (d := 48) rfl rfl (by kernel_rfl) (by kernel_rfl) (by kernel_rfl) (fun _ _ _ h => h) (yieldsIf_build rfl 73 _ rfl #[.string (zname k), I Z.cal.epoch, .slice s.A Z.cal.months.length s.a, I Z.cal.leap, .slice s.B Z.cal.rules.length s.b, I Z.start, .slice s.C Z.trans.length s.c, I Z.hor, .slice s.D Z.yearly.length s.d] (by kernel_rfl)) hS16 ?_
                try simp only [Act.put, List.setIfInBounds_toArray, List.set_cons_zero, List.set_cons_succ]
                refine wpAnyH_ready (rs := [15]) (by kernel_rfl) (by simp) ?_
                refine AllReadyH.cons rfl (fun K hK => ?_) AllReadyH.nil
                go_simp
                have HXA := Lib.hid (HX16.out.grow (below_var W16 (.cells #[.string (zname k), I Z.cal.epoch, .slice s.A Z.cal.months.length s.a, I Z.cal.leap, .slice s.B Z.cal.rules.length s.b, I Z.start, .slice s.C Z.trans.length s.c, I Z.hor, .slice s.D Z.yearly.length s.d] 73)))
                have hS17 : NxI w zb zo m ic k v (W16.alloc (.cells #[.string (zname k), I Z.cal.epoch, .slice s.A Z.cal.months.length s.a, I Z.cal.leap, .slice s.B Z.cal.rules.length s.b, I Z.start, .slice s.C Z.trans.length s.c, I Z.hor, .slice s.D Z.yearly.length s.d] 73)) := NxI.of HXA.out.it HXA.out.lo HR.out hzb
                refine hK.out _ _ hS17 (fun _ => ?_)
                clear hK K
                try simp only [Act.put, List.setIfInBounds_toArray, List.set_cons_zero, List.set_cons_succ]
                refine wpAnyH_ready (rs := [16]) (by kernel_rfl) (by simp) ?_
                refine AllReadyH.cons rfl (fun K hK => ?_) AllReadyH.nil
                have hwlt := HX16.out.lt
                refine step_append_lies _ (by rfl) _ _ _ (by rfl) (w.heap.size + 3) 73 i1' (.agg zZe) 9 144 Tryz.underlying45 HI1.out HQ0.out HQ1.out HQ2.out rfl (by omega) (.slice Az k cz) k (zecells ys) (by rfl) HXA.out.own ⟨W16.heap.size, 0, none⟩ 1 1 (⟨⟨zname k, Z⟩, s⟩ : ZeV).cells.toList (by rfl) rfl (news_lit _ _ _ _ rfl) (ze_one (⟨⟨zname k, Z⟩, s⟩ : ZeV)) (by omega) (by unfold maxLen; omega) (by omega) (by simp; omega) _ rfl ?_
                intro gg cap w6 hown6 hgrow6 hat6 _
                obtain ⟨hit6, ht6, hlo6⟩ := HX16.out.mid _ hgrow6
                have hS6 : NxI w zb zo m ic k v w6 := NxI.of hit6 hlo6 HR.out hzb
                have HX7 : Hid (NxW w #[.slice (some ⟨zb, zo, none⟩) m ic, Extern.Stop.cell wd] T (k + 1) (some ⟨gg, 0, none⟩) cap (ys ++ [(⟨⟨zname k, Z⟩, s⟩ : ZeV)]) (w6.setCell ⟨w.heap.size + 2, 3, none⟩ (.slice (some ⟨gg, 0, none⟩) (k + 1) cap))) := Lib.hid (HX16.out.add HZ16.out rfl hown6 hgrow6 hat6)
                have c66 : w6.cell? ⟨w.heap.size + 2, 3, none⟩ = some (.slice Az k cz) := (ht6.cell 3).trans (tb_get3 _ _)
                have f66 : w6.frozen? ⟨w.heap.size + 2, 3, none⟩ = false := ht6.froz 3
                clear hown6 hgrow6 hat6 hit6 ht6 hlo6
                refine hK.out _ _ hS6 (fun _ => ?_)
                clear hK K
                try simp only [Act.put, List.setIfInBounds_toArray]
                refine wpAnyH_take_dd (i := 17) (v := (.pointer (some ⟨w.heap.size + 2, 3, none⟩))) (d := 51) rfl rfl (by kernel_rfl) (by kernel_rfl) (by kernel_rfl) (fun _ _ _ h => h) (Or.inl ⟨by rfl, fun w' hSw => ?_⟩) hS6 ?_
                · obtain ⟨s0, _⟩ := hSw
                  go_simp
                try simp only [Act.put]
                refine wpAnyH_ready (rs := [18]) (by kernel_rfl) (by simp) ?_
                refine AllReadyH.cons rfl (fun K hK => ?_) AllReadyH.nil
                go_simp
                have hS7 : NxI w zb zo m ic k v (w6.setCell ⟨w.heap.size + 2, 3, none⟩ (.slice (some ⟨gg, 0, none⟩) (k + 1) cap)) := NxI.of HX7.out.it HX7.out.lo HR.out hzb
                refine hK.out _ _ hS7 (fun _ => ?_)
                clear hK K
                refine wpAnyH_done (by kernel_rfl) ?_ _
                go_wp2_with fail
                go_meet
                exact ⟨rfl, some ⟨gg, 0, none⟩, cap, s, HX7.out⟩
              · go_simp
                refine (HMADE.out W13 HX13.out.lo).mono ?_
                rintro e W18 ⟨s, rfl, hz18, hl18, hb18⟩
                have HX18 := Lib.hid (HX13.out.grow hb18)
                have hS18 : NxI w zb zo m ic k v W18 := NxI.of HX18.out.it HX18.out.lo HR.out hzb
                have HZ18 : Hid (ZnMem (w.heap.size + 3) (.slice Az k cz) W18 s Z) := Lib.hid (ZnMem.of hz18 hl18 HX13.out.lt HX13.out.ownlt)
                have HB18 := Lib.hid ((hb18.block _ (Array.getElem?_eq_some_iff.1 HB13.out).1).trans HB13.out)
                clear hz18 hl18 hb18
                refine hK.out _ _ hS18 (fun _ => ?_)
                clear hK K
                try simp only [Act.put, List.setIfInBounds_toArray, List.set_cons_zero, List.set_cons_succ]
                refine wpAnyH_ready (rs := [6]) (by kernel_rfl) (by simp) ?_
                refine AllReadyH.cons rfl (fun K hK => ?_) AllReadyH.nil
                have hcv := conv_row W18 bb13 (97 + (k : Int)) HB18.out
                go_simp
                refine hK.out _ _ hS18 (fun _ => ?_)
                clear hK K hcv
                try simp only [Act.put, List.setIfInBounds_toArray, List.set_cons_zero, List.set_cons_succ]
                refine wpAnyH_take_dd (i := 7) (v := (.string (⟨#[122]⟩ ++ ⟨#[UInt8.ofNat (97 + (k : Int)).toNat]⟩))) (d := 41) rfl rfl (by kernel_rfl) (by kernel_rfl) (by kernel_rfl) (fun _ _ _ h => h) (Or.inl ⟨by rfl, fun w' hSw => ?_⟩) hS18 ?_
                · obtain ⟨s0, _⟩ := hSw
                  go_simp
                try simp only [Act.put, List.setIfInBounds_toArray, List.set_cons_zero, List.set_cons_succ]
                rw [zname_app]
                refine wpAnyH_take_dd (i := 14) (v := .agg #[.string (zname k), I Z.cal.epoch, .slice s.A Z.cal.months.length s.a, I Z.cal.leap, .slice s.B Z.cal.rules.length s.b, I Z.start, .slice s.C Z.trans.length s.c, I Z.hor, .slice s.D Z.yearly.length s.d]) (d := 48) rfl rfl (by kernel_rfl) (by kernel_rfl) (by kernel_rfl) (fun _ _ _ h => h) (yieldsIf_build rfl 73 _ rfl #[.string (zname k), I Z.cal.epoch, .slice s.A Z.cal.months.length s.a, I Z.cal.leap, .slice s.B Z.cal.rules.length s.b, I Z.start, .slice s.C Z.trans.length s.c, I Z.hor, .slice s.D Z.yearly.length s.d] (by kernel_rfl)) hS18 ?_
                try simp only [Act.put, List.setIfInBounds_toArray, List.set_cons_zero, List.set_cons_succ]
                refine wpAnyH_ready (rs := [15]) (by kernel_rfl) (by simp) ?_
                refine AllReadyH.cons rfl (fun K hK => ?_) AllReadyH.nil
                go_simp
                have HXA := Lib.hid (HX18.out.grow (below_var W18 (.cells #[.string (zname k), I Z.cal.epoch, .slice s.A Z.cal.months.length s.a, I Z.cal.leap, .slice s.B Z.cal.rules.length s.b, I Z.start, .slice s.C Z.trans.length s.c, I Z.hor, .slice s.D Z.yearly.length s.d] 73)))
                have hS20 : NxI w zb zo m ic k v (W18.alloc (.cells #[.string (zname k), I Z.cal.epoch, .slice s.A Z.cal.months.length s.a, I Z.cal.leap, .slice s.B Z.cal.rules.length s.b, I Z.start, .slice s.C Z.trans.length s.c, I Z.hor, .slice s.D Z.yearly.length s.d] 73)) := NxI.of HXA.out.it HXA.out.lo HR.out hzb
                refine hK.out _ _ hS20 (fun _ => ?_)
                clear hK K
                try simp only [Act.put, List.setIfInBounds_toArray, List.set_cons_zero, List.set_cons_succ]
                refine wpAnyH_ready (rs := [16]) (by kernel_rfl) (by simp) ?_
                refine AllReadyH.cons rfl (fun K hK => ?_) AllReadyH.nil
                have hwlt := HX18.out.lt
                refine step_append_lies _ (by rfl) _ _ _ (by rfl) (w.heap.size + 3) 73 i1' (.agg zZe) 9 144 Tryz.underlying45 HI1.out HQ0.out HQ1.out HQ2.out rfl (by omega) (.slice Az k cz) k (zecells ys) (by rfl) HXA.out.own ⟨W18.heap.size, 0, none⟩ 1 1 (⟨⟨zname k, Z⟩, s⟩ : ZeV).cells.toList (by rfl) rfl (news_lit _ _ _ _ rfl) (ze_one (⟨⟨zname k, Z⟩, s⟩ : ZeV)) (by omega) (by unfold maxLen; omega) (by omega) (by simp; omega) _ rfl ?_
                intro gg cap w6 hown6 hgrow6 hat6 _
                obtain ⟨hit6, ht6, hlo6⟩ := HX18.out.mid _ hgrow6
                have hS6 : NxI w zb zo m ic k v w6 := NxI.of hit6 hlo6 HR.out hzb
                have HX7 : Hid (NxW w #[.slice (some ⟨zb, zo, none⟩) m ic, Extern.Stop.cell wd] T (k + 1) (some ⟨gg, 0, none⟩) cap (ys ++ [(⟨⟨zname k, Z⟩, s⟩ : ZeV)]) (w6.setCell ⟨w.heap.size + 2, 3, none⟩ (.slice (some ⟨gg, 0, none⟩) (k + 1) cap))) := Lib.hid (HX18.out.add HZ18.out rfl hown6 hgrow6 hat6)
                have c66 : w6.cell? ⟨w.heap.size + 2, 3, none⟩ = some (.slice Az k cz) := (ht6.cell 3).trans (tb_get3 _ _)
                have f66 : w6.frozen? ⟨w.heap.size + 2, 3, none⟩ = false := ht6.froz 3
                clear hown6 hgrow6 hat6 hit6 ht6 hlo6
                refine hK.out _ _ hS6 (fun _ => ?_)
                clear hK K
                try simp only [Act.put, List.setIfInBounds_toArray]
                refine wpAnyH_take_dd (i := 17) (v := (.pointer (some ⟨w.heap.size + 2, 3, none⟩))) (d := 51) rfl rfl (by kernel_rfl) (by kernel_rfl) (by kernel_rfl) (fun _ _ _ h => h) (Or.inl ⟨by rfl, fun w' hSw => ?_⟩) hS6 ?_
                · obtain ⟨s0, _⟩ := hSw
                  go_simp
                try simp only [Act.put]
                refine wpAnyH_ready (rs := [18]) (by kernel_rfl) (by simp) ?_
                refine AllReadyH.cons rfl (fun K hK => ?_) AllReadyH.nil
                go_simp
                have hS7 : NxI w zb zo m ic k v (w6.setCell ⟨w.heap.size + 2, 3, none⟩ (.slice (some ⟨gg, 0, none⟩) (k + 1) cap)) := NxI.of HX7.out.it HX7.out.lo HR.out hzb
                refine hK.out _ _ hS7 (fun _ => ?_)
                clear hK K
                refine wpAnyH_done (by kernel_rfl) ?_ _
                go_wp2_with fail
                go_meet
                exact ⟨rfl, some ⟨gg, 0, none⟩, cap, s, HX7.out⟩
            · have hcv := conv_row W13 bb13 (97 + (k : Int)) HB13.out
              go_simp
              refine hK.out _ _ hS13 (fun _ => ?_)
              clear hK K hcv
              try simp only [Act.put, List.setIfInBounds_toArray, List.set_cons_zero, List.set_cons_succ]
              refine wpAnyH_take_dd (i := 7) (v := (.string (⟨#[122]⟩ ++ ⟨#[UInt8.ofNat (97 + (k : Int)).toNat]⟩))) (d := 41) rfl rfl (by kernel_rfl) (by kernel_rfl) (by kernel_rfl) (fun _ _ _ h => h) (Or.inl ⟨by rfl, fun w' hSw => ?_⟩) hS13 ?_
              · obtain ⟨s0, _⟩ := hSw
                go_simp
              try simp only [Act.put, List.setIfInBounds_toArray, List.set_cons_zero, List.set_cons_succ]
              rw [zname_app]
              refine wpAnyH_ready (rs := [1, 13]) (by kernel_rfl) (by simp) ?_
              refine AllReadyH.cons rfl (fun K hK => ?_) (AllReadyH.cons rfl (fun K hK => ?_) AllReadyH.nil)
              · have z3 : W13.cell? ⟨w.heap.size + 2, 3, none⟩ = some (.slice Az k cz) := (HX13.out.t.cell 3).trans (tb_get3 _ _)
                go_simp
                refine hK.out _ _ hS13 (fun _ => ?_)
                clear hK K z3
                try simp only [Act.put, List.setIfInBounds_toArray, List.set_cons_zero, List.set_cons_succ]
                refine wpAnyH_ready (rs := [13]) (by kernel_rfl) (by simp) ?_
                refine AllReadyH.cons rfl (fun K hK => ?_) AllReadyH.nil
                go_simp
                refine (HMADE.out W13 HX13.out.lo).mono ?_
                rintro e W23 ⟨s, rfl, hz23, hl23, hb23⟩
                have HX23 := Lib.hid (HX13.out.grow hb23)
                have hS23 : NxI w zb zo m ic k v W23 := NxI.of HX23.out.it HX23.out.lo HR.out hzb
                have HZ23 : Hid (ZnMem (w.heap.size + 3) (.slice Az k cz) W23 s Z) := Lib.hid (ZnMem.of hz23 hl23 HX13.out.lt HX13.out.ownlt)
                have HB23 := Lib.hid ((hb23.block _ (Array.getElem?_eq_some_iff.1 HB13.out).1).trans HB13.out)
                clear hz23 hl23 hb23
                refine hK.out _ _ hS23 (fun _ => ?_)
                clear hK K
                try simp only [Act.put, List.setIfInBounds_toArray, List.set_cons_zero, List.set_cons_succ]
                refine wpAnyH_take_dd (i := 14) (v := .agg #[.string (zname k), I Z.cal.epoch, .slice s.A Z.cal.months.length s.a, I Z.cal.leap, .slice s.B Z.cal.rules.length s.b, I Z.start, .slice s.C Z.trans.length s.c, I Z.hor, .slice s.D Z.yearly.length s.d]) (d := 48) rfl rfl (by kernel_rfl) (by kernel_rfl) (by kernel_rfl) (fun _ _ _ h => h) (yieldsIf_build rfl 73 _ rfl #[.string (zname k), I Z.cal.epoch, .slice s.A Z.cal.months.length s.a, I Z.cal.leap, .slice s.B Z.cal.rules.length s.b, I Z.start, .slice s.C Z.trans.length s.c, I Z.hor, .slice s.D Z.yearly.length s.d] (by kernel_rfl)) hS23 ?_
                try simp only [Act.put, List.setIfInBounds_toArray, List.set_cons_zero, List.set_cons_succ]
                refine wpAnyH_ready (rs := [15]) (by kernel_rfl) (by simp) ?_
                refine AllReadyH.cons rfl (fun K hK => ?_) AllReadyH.nil
                go_simp
                have HXA := Lib.hid (HX23.out.grow (below_var W23 (.cells #[.string (zname k), I Z.cal.epoch, .slice s.A Z.cal.months.length s.a, I Z.cal.leap, .slice s.B Z.cal.rules.length s.b, I Z.start, .slice s.C Z.trans.length s.c, I Z.hor, .slice s.D Z.yearly.length s.d] 73)))
                have hS24 : NxI w zb zo m ic k v (W23.alloc (.cells #[.string (zname k), I Z.cal.epoch, .slice s.A Z.cal.months.length s.a, I Z.cal.leap, .slice s.B Z.cal.rules.length s.b, I Z.start, .slice s.C Z.trans.length s.c, I Z.hor, .slice s.D Z.yearly.length s.d] 73)) := NxI.of HXA.out.it HXA.out.lo HR.out hzb
                refine hK.out _ _ hS24 (fun _ => ?_)
                clear hK K
                try simp only [Act.put, List.setIfInBounds_toArray, List.set_cons_zero, List.set_cons_succ]
                refine wpAnyH_ready (rs := [16]) (by kernel_rfl) (by simp) ?_
                refine AllReadyH.cons rfl (fun K hK => ?_) AllReadyH.nil
                have hwlt := HX23.out.lt
                refine step_append_lies _ (by rfl) _ _ _ (by rfl) (w.heap.size + 3) 73 i1' (.agg zZe) 9 144 Tryz.underlying45 HI1.out HQ0.out HQ1.out HQ2.out rfl (by omega) (.slice Az k cz) k (zecells ys) (by rfl) HXA.out.own ⟨W23.heap.size, 0, none⟩ 1 1 (⟨⟨zname k, Z⟩, s⟩ : ZeV).cells.toList (by rfl) rfl (news_lit _ _ _ _ rfl) (ze_one (⟨⟨zname k, Z⟩, s⟩ : ZeV)) (by omega) (by unfold maxLen; omega) (by omega) (by simp; omega) _ rfl ?_
                intro gg cap w6 hown6 hgrow6 hat6 _
                obtain ⟨hit6, ht6, hlo6⟩ := HX23.out.mid _ hgrow6
                have hS6 : NxI w zb zo m ic k v w6 := NxI.of hit6 hlo6 HR.out hzb
                have HX7 : Hid (NxW w #[.slice (some ⟨zb, zo, none⟩) m ic, Extern.Stop.cell wd] T (k + 1) (some ⟨gg, 0, none⟩) cap (ys ++ [(⟨⟨zname k, Z⟩, s⟩ : ZeV)]) (w6.setCell ⟨w.heap.size + 2, 3, none⟩ (.slice (some ⟨gg, 0, none⟩) (k + 1) cap))) := Lib.hid (HX23.out.add HZ23.out rfl hown6 hgrow6 hat6)
                have c66 : w6.cell? ⟨w.heap.size + 2, 3, none⟩ = some (.slice Az k cz) := (ht6.cell 3).trans (tb_get3 _ _)
                have f66 : w6.frozen? ⟨w.heap.size + 2, 3, none⟩ = false := ht6.froz 3
                clear hown6 hgrow6 hat6 hit6 ht6 hlo6
                refine hK.out _ _ hS6 (fun _ => ?_)
                clear hK K
                try simp only [Act.put, List.setIfInBounds_toArray]
                refine wpAnyH_take_dd (i := 17) (v := (.pointer (some ⟨w.heap.size + 2, 3, none⟩))) (d := 51) rfl rfl (by kernel_rfl) (by kernel_rfl) (by kernel_rfl) (fun _ _ _ h => h) (Or.inl ⟨by rfl, fun w' hSw => ?_⟩) hS6 ?_
                · obtain ⟨s0, _⟩ := hSw
                  go_simp
                try simp only [Act.put]
                refine wpAnyH_ready (rs := [18]) (by kernel_rfl) (by simp) ?_
                refine AllReadyH.cons rfl (fun K hK => ?_) AllReadyH.nil
                go_simp
                have hS7 : NxI w zb zo m ic k v (w6.setCell ⟨w.heap.size + 2, 3, none⟩ (.slice (some ⟨gg, 0, none⟩) (k + 1) cap)) := NxI.of HX7.out.it HX7.out.lo HR.out hzb
                refine hK.out _ _ hS7 (fun _ => ?_)
                clear hK K
                refine wpAnyH_done (by kernel_rfl) ?_ _
                go_wp2_with fail
                go_meet
                exact ⟨rfl, some ⟨gg, 0, none⟩, cap, s, HX7.out⟩
              · go_simp
                refine (HMADE.out W13 HX13.out.lo).mono ?_
                rintro e W25 ⟨s, rfl, hz25, hl25, hb25⟩
                have HX25 := Lib.hid (HX13.out.grow hb25)
                have hS25 : NxI w zb zo m ic k v W25 := NxI.of HX25.out.it HX25.out.lo HR.out hzb
                have HZ25 : Hid (ZnMem (w.heap.size + 3) (.slice Az k cz) W25 s Z) := Lib.hid (ZnMem.of hz25 hl25 HX13.out.lt HX13.out.ownlt)
                have HB25 := Lib.hid ((hb25.block _ (Array.getElem?_eq_some_iff.1 HB13.out).1).trans HB13.out)
                clear hz25 hl25 hb25
                refine hK.out _ _ hS25 (fun _ => ?_)
                clear hK K
                try simp only [Act.put, List.setIfInBounds_toArray, List.set_cons_zero, List.set_cons_succ]
                refine wpAnyH_take_dd (i := 14) (v := .agg #[.string (zname k), I Z.cal.epoch, .slice s.A Z.cal.months.length s.a, I Z.cal.leap, .slice s.B Z.cal.rules.length s.b, I Z.start, .slice s.C Z.trans.length s.c, I Z.hor, .slice s.D Z.yearly.length s.d]) (d := 48) rfl rfl (by kernel_rfl) (by kernel_rfl) (by kernel_rfl) (fun _ _ _ h => h) (yieldsIf_build rfl 73 _ rfl #[.string (zname k), I Z.cal.epoch, .slice s.A Z.cal.months.length s.a, I Z.cal.leap, .slice s.B Z.cal.rules.length s.b, I Z.start, .slice s.C Z.trans.length s.c, I Z.hor, .slice s.D Z.yearly.length s.d] (by kernel_rfl)) hS25 ?_
                try simp only [Act.put, List.setIfInBounds_toArray, List.set_cons_zero, List.set_cons_succ]
                refine wpAnyH_ready (rs := [1, 15]) (by kernel_rfl) (by simp) ?_
                refine AllReadyH.cons rfl (fun K hK => ?_) (AllReadyH.cons rfl (fun K hK => ?_) AllReadyH.nil)
                · have z3 : W25.cell? ⟨w.heap.size + 2, 3, none⟩ = some (.slice Az k cz) := (HX25.out.t.cell 3).trans (tb_get3 _ _)
                  go_simp
                  refine hK.out _ _ hS25 (fun _ => ?_)
                  clear hK K z3
                  try simp only [Act.put, List.setIfInBounds_toArray, List.set_cons_zero, List.set_cons_succ]
                  refine wpAnyH_ready (rs := [15]) (by kernel_rfl) (by simp) ?_
                  refine AllReadyH.cons rfl (fun K hK => ?_) AllReadyH.nil
                  go_simp
                  have HXA := Lib.hid (HX25.out.grow (below_var W25 (.cells #[.string (zname k), I Z.cal.epoch, .slice s.A Z.cal.months.length s.a, I Z.cal.leap, .slice s.B Z.cal.rules.length s.b, I Z.start, .slice s.C Z.trans.length s.c, I Z.hor, .slice s.D Z.yearly.length s.d] 73)))
                  have hS27 : NxI w zb zo m ic k v (W25.alloc (.cells #[.string (zname k), I Z.cal.epoch, .slice s.A Z.cal.months.length s.a, I Z.cal.leap, .slice s.B Z.cal.rules.length s.b, I Z.start, .slice s.C Z.trans.length s.c, I Z.hor, .slice s.D Z.yearly.length s.d] 73)) := NxI.of HXA.out.it HXA.out.lo HR.out hzb
                  refine hK.out _ _ hS27 (fun _ => ?_)
                  clear hK K
                  try simp only [Act.put, List.setIfInBounds_toArray, List.set_cons_zero, List.set_cons_succ]
                  refine wpAnyH_ready (rs := [16]) (by kernel_rfl) (by simp) ?_
                  refine AllReadyH.cons rfl (fun K hK => ?_) AllReadyH.nil
                  have hwlt := HX25.out.lt
                  refine step_append_lies _ (by rfl) _ _ _ (by rfl) (w.heap.size + 3) 73 i1' (.agg zZe) 9 144 Tryz.underlying45 HI1.out HQ0.out HQ1.out HQ2.out rfl (by omega) (.slice Az k cz) k (zecells ys) (by rfl) HXA.out.own ⟨W25.heap.size, 0, none⟩ 1 1 (⟨⟨zname k, Z⟩, s⟩ : ZeV).cells.toList (by rfl) rfl (news_lit _ _ _ _ rfl) (ze_one (⟨⟨zname k, Z⟩, s⟩ : ZeV)) (by omega) (by unfold maxLen; omega) (by omega) (by simp; omega) _ rfl ?_
                  intro gg cap w6 hown6 hgrow6 hat6 _
                  obtain ⟨hit6, ht6, hlo6⟩ := HX25.out.mid _ hgrow6
                  have hS6 : NxI w zb zo m ic k v w6 := NxI.of hit6 hlo6 HR.out hzb
                  have HX7 : Hid (NxW w #[.slice (some ⟨zb, zo, none⟩) m ic, Extern.Stop.cell wd] T (k + 1) (some ⟨gg, 0, none⟩) cap (ys ++ [(⟨⟨zname k, Z⟩, s⟩ : ZeV)]) (w6.setCell ⟨w.heap.size + 2, 3, none⟩ (.slice (some ⟨gg, 0, none⟩) (k + 1) cap))) := Lib.hid (HX25.out.add HZ25.out rfl hown6 hgrow6 hat6)
                  have c66 : w6.cell? ⟨w.heap.size + 2, 3, none⟩ = some (.slice Az k cz) := (ht6.cell 3).trans (tb_get3 _ _)
                  have f66 : w6.frozen? ⟨w.heap.size + 2, 3, none⟩ = false := ht6.froz 3
                  clear hown6 hgrow6 hat6 hit6 ht6 hlo6
                  refine hK.out _ _ hS6 (fun _ => ?_)
                  clear hK K
                  try simp only [Act.put, List.setIfInBounds_toArray]
                  refine wpAnyH_take_dd (i := 17) (v := (.pointer (some ⟨w.heap.size + 2, 3, none⟩))) (d := 51) rfl rfl (by kernel_rfl) (by kernel_rfl) (by kernel_rfl) (fun _ _ _ h => h) (Or.inl ⟨by rfl, fun w' hSw => ?_⟩) hS6 ?_
                  · obtain ⟨s0, _⟩ := hSw
                    go_simp
                  try simp only [Act.put]
                  refine wpAnyH_ready (rs := [18]) (by kernel_rfl) (by simp) ?_
                  refine AllReadyH.cons rfl (fun K hK => ?_) AllReadyH.nil
                  go_simp
                  have hS7 : NxI w zb zo m ic k v (w6.setCell ⟨w.heap.size + 2, 3, none⟩ (.slice (some ⟨gg, 0, none⟩) (k + 1) cap)) := NxI.of HX7.out.it HX7.out.lo HR.out hzb
                  refine hK.out _ _ hS7 (fun _ => ?_)
                  clear hK K
                  refine wpAnyH_done (by kernel_rfl) ?_ _
                  go_wp2_with fail
                  go_meet
                  exact ⟨rfl, some ⟨gg, 0, none⟩, cap, s, HX7.out⟩
                · go_simp
                  have HXA := Lib.hid (HX25.out.grow (below_var W25 (.cells #[.string (zname k), I Z.cal.epoch, .slice s.A Z.cal.months.length s.a, I Z.cal.leap, .slice s.B Z.cal.rules.length s.b, I Z.start, .slice s.C Z.trans.length s.c, I Z.hor, .slice s.D Z.yearly.length s.d] 73)))
                  have hS28 : NxI w zb zo m ic k v (W25.alloc (.cells #[.string (zname k), I Z.cal.epoch, .slice s.A Z.cal.months.length s.a, I Z.cal.leap, .slice s.B Z.cal.rules.length s.b, I Z.start, .slice s.C Z.trans.length s.c, I Z.hor, .slice s.D Z.yearly.length s.d] 73)) := NxI.of HXA.out.it HXA.out.lo HR.out hzb
                  refine hK.out _ _ hS28 (fun _ => ?_)
                  clear hK K
                  try simp only [Act.put, List.setIfInBounds_toArray, List.set_cons_zero, List.set_cons_succ]
                  refine wpAnyH_ready (rs := [1]) (by kernel_rfl) (by simp) ?_
                  refine AllReadyH.cons rfl (fun K hK => ?_) AllReadyH.nil
                  have z3 : (W25.alloc (.cells #[.string (zname k), I Z.cal.epoch, .slice s.A Z.cal.months.length s.a, I Z.cal.leap, .slice s.B Z.cal.rules.length s.b, I Z.start, .slice s.C Z.trans.length s.c, I Z.hor, .slice s.D Z.yearly.length s.d] 73)).cell? ⟨w.heap.size + 2, 3, none⟩ = some (.slice Az k cz) := (HXA.out.t.cell 3).trans (tb_get3 _ _)
                  go_simp
                  refine hK.out _ _ hS28 (fun _ => ?_)
                  clear hK K z3
                  try simp only [Act.put, List.setIfInBounds_toArray, List.set_cons_zero, List.set_cons_succ]
                  refine wpAnyH_ready (rs := [16]) (by kernel_rfl) (by simp) ?_
                  refine AllReadyH.cons rfl (fun K hK => ?_) AllReadyH.nil
                  have hwlt := HX25.out.lt
                  refine step_append_lies _ (by rfl) _ _ _ (by rfl) (w.heap.size + 3) 73 i1' (.agg zZe) 9 144 Tryz.underlying45 HI1.out HQ0.out HQ1.out HQ2.out rfl (by omega) (.slice Az k cz) k (zecells ys) (by rfl) HXA.out.own ⟨W25.heap.size, 0, none⟩ 1 1 (⟨⟨zname k, Z⟩, s⟩ : ZeV).cells.toList (by rfl) rfl (news_lit _ _ _ _ rfl) (ze_one (⟨⟨zname k, Z⟩, s⟩ : ZeV)) (by omega) (by unfold maxLen; omega) (by omega) (by simp; omega) _ rfl ?_
                  intro gg cap w6 hown6 hgrow6 hat6 _
                  obtain ⟨hit6, ht6, hlo6⟩ := HX25.out.mid _ hgrow6
                  have hS6 : NxI w zb zo m ic k v w6 := NxI.of hit6 hlo6 HR.out hzb
                  have HX7 : Hid (NxW w #[.slice (some ⟨zb, zo, none⟩) m ic, Extern.Stop.cell wd] T (k + 1) (some ⟨gg, 0, none⟩) cap (ys ++ [(⟨⟨zname k, Z⟩, s⟩ : ZeV)]) (w6.setCell ⟨w.heap.size + 2, 3, none⟩ (.slice (some ⟨gg, 0, none⟩) (k + 1) cap))) := Lib.hid (HX25.out.add HZ25.out rfl hown6 hgrow6 hat6)
                  have c66 : w6.cell? ⟨w.heap.size + 2, 3, none⟩ = some (.slice Az k cz) := (ht6.cell 3).trans (tb_get3 _ _)
                  have f66 : w6.frozen? ⟨w.heap.size + 2, 3, none⟩ = false := ht6.froz 3
                  clear hown6 hgrow6 hat6 hit6 ht6 hlo6
                  refine hK.out _ _ hS6 (fun _ => ?_)
                  clear hK K
                  try simp only [Act.put, List.setIfInBounds_toArray]
                  refine wpAnyH_take_dd (i := 17) (v := (.pointer (some ⟨w.heap.size + 2, 3, none⟩))) (d := 51) rfl rfl (by kernel_rfl) (by kernel_rfl) (by kernel_rfl) (fun _ _ _ h => h) (Or.inl ⟨by rfl, fun w' hSw => ?_⟩) hS6 ?_
                  · obtain ⟨s0, _⟩ := hSw
                    go_simp
                  try simp only [Act.put]
                  refine wpAnyH_ready (rs := [18]) (by kernel_rfl) (by simp) ?_
                  refine AllReadyH.cons rfl (fun K hK => ?_) AllReadyH.nil
                  go_simp
                  have hS7 : NxI w zb zo m ic k v (w6.setCell ⟨w.heap.size + 2, 3, none⟩ (.slice (some ⟨gg, 0, none⟩) (k + 1) cap)) := NxI.of HX7.out.it HX7.out.lo HR.out hzb
                  refine hK.out _ _ hS7 (fun _ => ?_)
                  clear hK K
                  refine wpAnyH_done (by kernel_rfl) ?_ _
                  go_wp2_with fail
                  go_meet
                  exact ⟨rfl, some ⟨gg, 0, none⟩, cap, s, HX7.out⟩
            · go_simp
              refine (HMADE.out W13 HX13.out.lo).mono ?_
              rintro e W30 ⟨s, rfl, hz30, hl30, hb30⟩
              have HX30 := Lib.hid (HX13.out.grow hb30)
              have hS30 : NxI w zb zo m ic k v W30 := NxI.of HX30.out.it HX30.out.lo HR.out hzb
              have HZ30 : Hid (ZnMem (w.heap.size + 3) (.slice Az k cz) W30 s Z) := Lib.hid (ZnMem.of hz30 hl30 HX13.out.lt HX13.out.ownlt)
              have HB30 := Lib.hid ((hb30.block _ (Array.getElem?_eq_some_iff.1 HB13.out).1).trans HB13.out)
              clear hz30 hl30 hb30
              refine hK.out _ _ hS30 (fun _ => ?_)
              clear hK K
              try simp only [Act.put, List.setIfInBounds_toArray, List.set_cons_zero, List.set_cons_succ]
              refine wpAnyH_ready (rs := [1, 6]) (by kernel_rfl) (by simp) ?_
              refine AllReadyH.cons rfl (fun K hK => ?_) (AllReadyH.cons rfl (fun K hK => ?_) AllReadyH.nil)
              · have z3 : W30.cell? ⟨w.heap.size + 2, 3, none⟩ = some (.slice Az k cz) := (HX30.out.t.cell 3).trans (tb_get3 _ _)
                go_simp
                refine hK.out _ _ hS30 (fun _ => ?_)
                clear hK K z3
                try simp only [Act.put, List.setIfInBounds_toArray, List.set_cons_zero, List.set_cons_succ]
                refine wpAnyH_ready (rs := [6]) (by kernel_rfl) (by simp) ?_
                refine AllReadyH.cons rfl (fun K hK => ?_) AllReadyH.nil
                have hcv := conv_row W30 bb13 (97 + (k : Int)) HB30.out
                go_simp
                refine hK.out _ _ hS30 (fun _ => ?_)
                clear hK K hcv
                try simp only [Act.put, List.setIfInBounds_toArray, List.set_cons_zero, List.set_cons_succ]
                refine wpAnyH_take_dd (i := 7) (v := (.string (⟨#[122]⟩ ++ ⟨#[UInt8.ofNat (97 + (k : Int)).toNat]⟩))) (d := 41) rfl rfl (by kernel_rfl) (by kernel_rfl) (by kernel_rfl) (fun _ _ _ h => h) (Or.inl ⟨by rfl, fun w' hSw => ?_⟩) hS30 ?_
                · obtain ⟨s0, _⟩ := hSw
                  go_simp
                try simp only [Act.put, List.setIfInBounds_toArray, List.set_cons_zero, List.set_cons_succ]
                rw [zname_app]
                refine wpAnyH_take_dd (i := 14) (v := .agg #[.string (zname k), I Z.cal.epoch, .slice s.A Z.cal.months.length s.a, I Z.cal.leap, .slice s.B Z.cal.rules.length s.b, I Z.start, .slice s.C Z.trans.length s.c, I Z.hor, .slice s.D Z.yearly.length s.d]) (d := 48) rfl rfl (by kernel_rfl) (by kernel_rfl) (by kernel_rfl) (fun _ _ _ h => h) (yieldsIf_build rfl 73 _ rfl #[.string (zname k), I Z.cal.epoch, .slice s.A Z.cal.months.length s.a, I Z.cal.leap, .slice s.B Z.cal.rules.length s.b, I Z.start, .slice s.C Z.trans.length s.c, I Z.hor, .slice s.D Z.yearly.length s.d] (by kernel_rfl)) hS30 ?_
                try simp only [Act.put, List.setIfInBounds_toArray, List.set_cons_zero, List.set_cons_succ]
                refine wpAnyH_ready (rs := [15]) (by kernel_rfl) (by simp) ?_
                refine AllReadyH.cons rfl (fun K hK => ?_) AllReadyH.nil
                go_simp
                have HXA := Lib.hid (HX30.out.grow (below_var W30 (.cells #[.string (zname k), I Z.cal.epoch, .slice s.A Z.cal.months.length s.a, I Z.cal.leap, .slice s.B Z.cal.rules.length s.b, I Z.start, .slice s.C Z.trans.length s.c, I Z.hor, .slice s.D Z.yearly.length s.d] 73)))
                have hS33 : NxI w zb zo m ic k v (W30.alloc (.cells #[.string (zname k), I Z.cal.epoch, .slice s.A Z.cal.months.length s.a, I Z.cal.leap, .slice s.B Z.cal.rules.length s.b, I Z.start, .slice s.C Z.trans.length s.c, I Z.hor, .slice s.D Z.yearly.length s.d] 73)) := NxI.of HXA.out.it HXA.out.lo HR.out hzb
                refine hK.out _ _ hS33 (fun _ => ?_)
                clear hK K
                try simp only [Act.put, List.setIfInBounds_toArray, List.set_cons_zero, List.set_cons_succ]
                refine wpAnyH_ready (rs := [16]) (by kernel_rfl) (by simp) ?_
                refine AllReadyH.cons rfl (fun K hK => ?_) AllReadyH.nil
                have hwlt := HX30.out.lt
                refine step_append_lies _ (by rfl) _ _ _ (by rfl) (w.heap.size + 3) 73 i1' (.agg zZe) 9 144 Tryz.underlying45 HI1.out HQ0.out HQ1.out HQ2.out rfl (by omega) (.slice Az k cz) k (zecells ys) (by rfl) HXA.out.own ⟨W30.heap.size, 0, none⟩ 1 1 (⟨⟨zname k, Z⟩, s⟩ : ZeV).cells.toList (by rfl) rfl (news_lit _ _ _ _ rfl) (ze_one (⟨⟨zname k, Z⟩, s⟩ : ZeV)) (by omega) (by unfold maxLen; omega) (by omega) (by simp; omega) _ rfl ?_
                intro gg cap w6 hown6 hgrow6 hat6 _
                obtain ⟨hit6, ht6, hlo6⟩ := HX30.out.mid _ hgrow6
                have hS6 : NxI w zb zo m ic k v w6 := NxI.of hit6 hlo6 HR.out hzb
                have HX7 : Hid (NxW w #[.slice (some ⟨zb, zo, none⟩) m ic, Extern.Stop.cell wd] T (k + 1) (some ⟨gg, 0, none⟩) cap (ys ++ [(⟨⟨zname k, Z⟩, s⟩ : ZeV)]) (w6.setCell ⟨w.heap.size + 2, 3, none⟩ (.slice (some ⟨gg, 0, none⟩) (k + 1) cap))) := Lib.hid (HX30.out.add HZ30.out rfl hown6 hgrow6 hat6)
                have c66 : w6.cell? ⟨w.heap.size + 2, 3, none⟩ = some (.slice Az k cz) := (ht6.cell 3).trans (tb_get3 _ _)
                have f66 : w6.frozen? ⟨w.heap.size + 2, 3, none⟩ = false := ht6.froz 3
                clear hown6 hgrow6 hat6 hit6 ht6 hlo6
                refine hK.out _ _ hS6 (fun _ => ?_)
                clear hK K
                try simp only [Act.put, List.setIfInBounds_toArray]
                refine wpAnyH_take_dd (i := 17) (v := (.pointer (some ⟨w.heap.size + 2, 3, none⟩))) (d := 51) rfl rfl (by kernel_rfl) (by kernel_rfl) (by kernel_rfl) (fun _ _ _ h => h) (Or.inl ⟨by rfl, fun w' hSw => ?_⟩) hS6 ?_
                · obtain ⟨s0, _⟩ := hSw
                  go_simp
                try simp only [Act.put]
                refine wpAnyH_ready (rs := [18]) (by kernel_rfl) (by simp) ?_
                refine AllReadyH.cons rfl (fun K hK => ?_) AllReadyH.nil
                go_simp
                have hS7 : NxI w zb zo m ic k v (w6.setCell ⟨w.heap.size + 2, 3, none⟩ (.slice (some ⟨gg, 0, none⟩) (k + 1) cap)) := NxI.of HX7.out.it HX7.out.lo HR.out hzb
                refine hK.out _ _ hS7 (fun _ => ?_)
                clear hK K
                refine wpAnyH_done (by kernel_rfl) ?_ _
                go_wp2_with fail
                go_meet
                exact ⟨rfl, some ⟨gg, 0, none⟩, cap, s, HX7.out⟩
              · have hcv := conv_row W30 bb13 (97 + (k : Int)) HB30.out
                go_simp
                refine hK.out _ _ hS30 (fun _ => ?_)
                clear hK K hcv
                try simp only [Act.put, List.setIfInBounds_toArray, List.set_cons_zero, List.set_cons_succ]
                refine wpAnyH_take_dd (i := 7) (v := (.string (⟨#[122]⟩ ++ ⟨#[UInt8.ofNat (97 + (k : Int)).toNat]⟩))) (d := 41) rfl rfl (by kernel_rfl) (by kernel_rfl) (by kernel_rfl) (fun _ _ _ h => h) (Or.inl ⟨by rfl, fun w' hSw => ?_⟩) hS30 ?_
                · obtain ⟨s0, _⟩ := hSw
                  go_simp
                try simp only [Act.put, List.setIfInBounds_toArray, List.set_cons_zero, List.set_cons_succ]
                rw [zname_app]
                refine wpAnyH_take_dd (i := 14) (v := .agg #[.string (zname k), I Z.cal.epoch, .slice s.A Z.cal.months.length s.a, I Z.cal.leap, .slice s.B Z.cal.rules.length s.b, I Z.start, .slice s.C Z.trans.length s.c, I Z.hor, .slice s.D Z.yearly.length s.d]) (d := 48) rfl rfl (by kernel_rfl) (by kernel_rfl) (by kernel_rfl) (fun _ _ _ h => h) (yieldsIf_build rfl 73 _ rfl #[.string (zname k), I Z.cal.epoch, .slice s.A Z.cal.months.length s.a, I Z.cal.leap, .slice s.B Z.cal.rules.length s.b, I Z.start, .slice s.C Z.trans.length s.c, I Z.hor, .slice s.D Z.yearly.length s.d] (by kernel_rfl)) hS30 ?_
                try simp only [Act.put, List.setIfInBounds_toArray, List.set_cons_zero, List.set_cons_succ]
                refine wpAnyH_ready (rs := [1, 15]) (by kernel_rfl) (by simp) ?_
                refine AllReadyH.cons rfl (fun K hK => ?_) (AllReadyH.cons rfl (fun K hK => ?_) AllReadyH.nil)
                · have z3 : W30.cell? ⟨w.heap.size + 2, 3, none⟩ = some (.slice Az k cz) := (HX30.out.t.cell 3).trans (tb_get3 _ _)
                  go_simp
                  refine hK.out _ _ hS30 (fun _ => ?_)
                  clear hK K z3
                  try simp only [Act.put, List.setIfInBounds_toArray, List.set_cons_zero, List.set_cons_succ]
                  refine wpAnyH_ready (rs := [15]) (by kernel_rfl) (by simp) ?_
                  refine AllReadyH.cons rfl (fun K hK => ?_) AllReadyH.nil
                  go_simp
                  have HXA := Lib.hid (HX30.out.grow (below_var W30 (.cells #[.string (zname k), I Z.cal.epoch, .slice s.A Z.cal.months.length s.a, I Z.cal.leap, .slice s.B Z.cal.rules.length s.b, I Z.start, .slice s.C Z.trans.length s.c, I Z.hor, .slice s.D Z.yearly.length s.d] 73)))
                  have hS36 : NxI w zb zo m ic k v (W30.alloc (.cells #[.string (zname k), I Z.cal.epoch, .slice s.A Z.cal.months.length s.a, I Z.cal.leap, .slice s.B Z.cal.rules.length s.b, I Z.start, .slice s.C Z.trans.length s.c, I Z.hor, .slice s.D Z.yearly.length s.d] 73)) := NxI.of HXA.out.it HXA.out.lo HR.out hzb
                  refine hK.out _ _ hS36 (fun _ => ?_)
                  clear hK K
                  try simp only [Act.put, List.setIfInBounds_toArray, List.set_cons_zero, List.set_cons_succ]
                  refine wpAnyH_ready (rs := [16]) (by kernel_rfl) (by simp) ?_
                  refine AllReadyH.cons rfl (fun K hK => ?_) AllReadyH.nil
                  have hwlt := HX30.out.lt
                  refine step_append_lies _ (by rfl) _ _ _ (by rfl) (w.heap.size + 3) 73 i1' (.agg zZe) 9 144 Tryz.underlying45 HI1.out HQ0.out HQ1.out HQ2.out rfl (by omega) (.slice Az k cz) k (zecells ys) (by rfl) HXA.out.own ⟨W30.heap.size, 0, none⟩ 1 1 (⟨⟨zname k, Z⟩, s⟩ : ZeV).cells.toList (by rfl) rfl (news_lit _ _ _ _ rfl) (ze_one (⟨⟨zname k, Z⟩, s⟩ : ZeV)) (by omega) (by unfold maxLen; omega) (by omega) (by simp; omega) _ rfl ?_
                  intro gg cap w6 hown6 hgrow6 hat6 _
                  obtain ⟨hit6, ht6, hlo6⟩ := HX30.out.mid _ hgrow6
                  have hS6 : NxI w zb zo m ic k v w6 := NxI.of hit6 hlo6 HR.out hzb
                  have HX7 : Hid (NxW w #[.slice (some ⟨zb, zo, none⟩) m ic, Extern.Stop.cell wd] T (k + 1) (some ⟨gg, 0, none⟩) cap (ys ++ [(⟨⟨zname k, Z⟩, s⟩ : ZeV)]) (w6.setCell ⟨w.heap.size + 2, 3, none⟩ (.slice (some ⟨gg, 0, none⟩) (k + 1) cap))) := Lib.hid (HX30.out.add HZ30.out rfl hown6 hgrow6 hat6)
                  have c66 : w6.cell? ⟨w.heap.size + 2, 3, none⟩ = some (.slice Az k cz) := (ht6.cell 3).trans (tb_get3 _ _)
                  have f66 : w6.frozen? ⟨w.heap.size + 2, 3, none⟩ = false := ht6.froz 3
                  clear hown6 hgrow6 hat6 hit6 ht6 hlo6
                  refine hK.out _ _ hS6 (fun _ => ?_)
                  clear hK K
                  try simp only [Act.put, List.setIfInBounds_toArray]
                  refine wpAnyH_take_dd (i := 17) (v := (.pointer (some ⟨w.heap.size + 2, 3, none⟩))) (d := 51) rfl rfl (by kernel_rfl) (by kernel_rfl) (by kernel_rfl) (fun _ _ _ h => h) (Or.inl ⟨by rfl, fun w' hSw => ?_⟩) hS6 ?_
                  · obtain ⟨s0, _⟩ := hSw
                    go_simp
                  try simp only [Act.put]
                  refine wpAnyH_ready (rs := [18]) (by kernel_rfl) (by simp) ?_
                  refine AllReadyH.cons rfl (fun K hK => ?_) AllReadyH.nil
                  go_simp
                  have hS7 : NxI w zb zo m ic k v (w6.setCell ⟨w.heap.size + 2, 3, none⟩ (.slice (some ⟨gg, 0, none⟩) (k + 1) cap)) := NxI.of HX7.out.it HX7.out.lo HR.out hzb
                  refine hK.out _ _ hS7 (fun _ => ?_)
                  clear hK K
                  refine wpAnyH_done (by kernel_rfl) ?_ _
                  go_wp2_with fail
                  go_meet
                  exact ⟨rfl, some ⟨gg, 0, none⟩, cap, s, HX7.out⟩
                · go_simp
                  have HXA := Lib.hid (HX30.out.grow (below_var W30 (.cells #[.string (zname k), I Z.cal.epoch, .slice s.A Z.cal.months.length s.a, I Z.cal.leap, .slice s.B Z.cal.rules.length s.b, I Z.start, .slice s.C Z.trans.length s.c, I Z.hor, .slice s.D Z.yearly.length s.d] 73)))
                  have hS37 : NxI w zb zo m ic k v (W30.alloc (.cells #[.string (zname k), I Z.cal.epoch, .slice s.A Z.cal.months.length s.a, I Z.cal.leap, .slice s.B Z.cal.rules.length s.b, I Z.start, .slice s.C Z.trans.length s.c, I Z.hor, .slice s.D Z.yearly.length s.d] 73)) := NxI.of HXA.out.it HXA.out.lo HR.out hzb
                  refine hK.out _ _ hS37 (fun _ => ?_)
                  clear hK K
                  try simp only [Act.put, List.setIfInBounds_toArray, List.set_cons_zero, List.set_cons_succ]
                  refine wpAnyH_ready (rs := [1]) (by kernel_rfl) (by simp) ?_
                  refine AllReadyH.cons rfl (fun K hK => ?_) AllReadyH.nil
                  have z3 : (W30.alloc (.cells #[.string (zname k), I Z.cal.epoch, .slice s.A Z.cal.months.length s.a, I Z.cal.leap, .slice s.B Z.cal.rules.length s.b, I Z.start, .slice s.C Z.trans.length s.c, I Z.hor, .slice s.D Z.yearly.length s.d] 73)).cell? ⟨w.heap.size + 2, 3, none⟩ = some (.slice Az k cz) := (HXA.out.t.cell 3).trans (tb_get3 _ _)
                  go_simp
                  refine hK.out _ _ hS37 (fun _ => ?_)
                  clear hK K z3
                  try simp only [Act.put, List.setIfInBounds_toArray, List.set_cons_zero, List.set_cons_succ]
                  refine wpAnyH_ready (rs := [16]) (by kernel_rfl) (by simp) ?_
                  refine AllReadyH.cons rfl (fun K hK => ?_) AllReadyH.nil
                  have hwlt := HX30.out.lt
                  refine step_append_lies _ (by rfl) _ _ _ (by rfl) (w.heap.size + 3) 73 i1' (.agg zZe) 9 144 Tryz.underlying45 HI1.out HQ0.out HQ1.out HQ2.out rfl (by omega) (.slice Az k cz) k (zecells ys) (by rfl) HXA.out.own ⟨W30.heap.size, 0, none⟩ 1 1 (⟨⟨zname k, Z⟩, s⟩ : ZeV).cells.toList (by rfl) rfl (news_lit _ _ _ _ rfl) (ze_one (⟨⟨zname k, Z⟩, s⟩ : ZeV)) (by omega) (by unfold maxLen; omega) (by omega) (by simp; omega) _ rfl ?_
                  intro gg cap w6 hown6 hgrow6 hat6 _
                  obtain ⟨hit6, ht6, hlo6⟩ := HX30.out.mid _ hgrow6
                  have hS6 : NxI w zb zo m ic k v w6 := NxI.of hit6 hlo6 HR.out hzb
                  have HX7 : Hid (NxW w #[.slice (some ⟨zb, zo, none⟩) m ic, Extern.Stop.cell wd] T (k + 1) (some ⟨gg, 0, none⟩) cap (ys ++ [(⟨⟨zname k, Z⟩, s⟩ : ZeV)]) (w6.setCell ⟨w.heap.size + 2, 3, none⟩ (.slice (some ⟨gg, 0, none⟩) (k + 1) cap))) := Lib.hid (HX30.out.add HZ30.out rfl hown6 hgrow6 hat6)
                  have c66 : w6.cell? ⟨w.heap.size + 2, 3, none⟩ = some (.slice Az k cz) := (ht6.cell 3).trans (tb_get3 _ _)
                  have f66 : w6.frozen? ⟨w.heap.size + 2, 3, none⟩ = false := ht6.froz 3
                  clear hown6 hgrow6 hat6 hit6 ht6 hlo6
                  refine hK.out _ _ hS6 (fun _ => ?_)
                  clear hK K
                  try simp only [Act.put, List.setIfInBounds_toArray]
                  refine wpAnyH_take_dd (i := 17) (v := (.pointer (some ⟨w.heap.size + 2, 3, none⟩))) (d := 51) rfl rfl (by kernel_rfl) (by kernel_rfl) (by kernel_rfl) (fun _ _ _ h => h) (Or.inl ⟨by rfl, fun w' hSw => ?_⟩) hS6 ?_
                  · obtain ⟨s0, _⟩ := hSw
                    go_simp
                  try simp only [Act.put]
                  refine wpAnyH_ready (rs := [18]) (by kernel_rfl) (by simp) ?_
                  refine AllReadyH.cons rfl (fun K hK => ?_) AllReadyH.nil
                  go_simp
                  have hS7 : NxI w zb zo m ic k v (w6.setCell ⟨w.heap.size + 2, 3, none⟩ (.slice (some ⟨gg, 0, none⟩) (k + 1) cap)) := NxI.of HX7.out.it HX7.out.lo HR.out hzb
                  refine hK.out _ _ hS7 (fun _ => ?_)
                  clear hK K
                  refine wpAnyH_done (by kernel_rfl) ?_ _
                  go_wp2_with fail
                  go_meet
                  exact ⟨rfl, some ⟨gg, 0, none⟩, cap, s, HX7.out⟩
          · go_simp
            refine (HMADE.out V HXD.out.lo).mono ?_
            rintro e W39 ⟨s, rfl, hz39, hl39, hb39⟩
            have HX39 := Lib.hid (HXD.out.grow hb39)
            have hS39 : NxI w zb zo m ic k v W39 := NxI.of HX39.out.it HX39.out.lo HR.out hzb
            have HZ39 : Hid (ZnMem (w.heap.size + 3) (.slice Az k cz) W39 s Z) := Lib.hid (ZnMem.of hz39 hl39 HXD.out.lt HXD.out.ownlt)
            clear hz39 hl39 hb39
            refine hK.out _ _ hS39 (fun _ => ?_)
            clear hK K
            try simp only [Act.put, List.setIfInBounds_toArray, List.set_cons_zero, List.set_cons_succ]
            refine wpAnyH_ready (rs := [1, 5]) (by kernel_rfl) (by simp) ?_
            refine AllReadyH.cons rfl (fun K hK => ?_) (AllReadyH.cons rfl (fun K hK => ?_) AllReadyH.nil)
            · have z3 : W39.cell? ⟨w.heap.size + 2, 3, none⟩ = some (.slice Az k cz) := (HX39.out.t.cell 3).trans (tb_get3 _ _)
              go_simp
              refine hK.out _ _ hS39 (fun _ => ?_)
              clear hK K z3
              try simp only [Act.put, List.setIfInBounds_toArray, List.set_cons_zero, List.set_cons_succ]
              refine wpAnyH_ready (rs := [5]) (by kernel_rfl) (by simp) ?_
              refine AllReadyH.cons rfl (fun K hK => ?_) AllReadyH.nil
              go_simp
              have HX41 := Lib.hid (HX39.out.grow (below_var W39 (.cells #[.int .u8 (97 + (k : Int))] 5)))
              have HB41 : Hid ((W39.alloc (.cells #[.int .u8 (97 + (k : Int))] 5)).heap[W39.heap.size]? = some (.cells #[.int .u8 (97 + (k : Int))] 5 (0, 0))) := Lib.hid (heap_alloc_last _ _)
              have hS41 : NxI w zb zo m ic k v (W39.alloc (.cells #[.int .u8 (97 + (k : Int))] 5)) := NxI.of HX41.out.it HX41.out.lo HR.out hzb
              have HZ41 := Lib.hid (HZ39.out.grow (below_var W39 (.cells #[.int .u8 (97 + (k : Int))] 5)))
              refine hK.out _ _ hS41 (fun _ => ?_)
              clear hK K
              try simp only [Act.put, List.setIfInBounds_toArray, List.set_cons_zero, List.set_cons_succ]
              generalize (W39.alloc (.cells #[.int .u8 (97 + (k : Int))] 5)) = W41 at HX41 HB41 hS41 HZ41 ⊢
              generalize W39.heap.size = bb41 at HB41 ⊢
              refine wpAnyH_ready (rs := [6]) (by kernel_rfl) (by simp) ?_
              refine AllReadyH.cons rfl (fun K hK => ?_) AllReadyH.nil
              have hcv := conv_row W41 bb41 (97 + (k : Int)) HB41.out
              go_simp
              refine hK.out _ _ hS41 (fun _ => ?_)
              clear hK K hcv
              try simp only [Act.put, List.setIfInBounds_toArray, List.set_cons_zero, List.set_cons_succ]
              refine wpAnyH_take_dd (i := 7) (v := (.string (⟨#[122]⟩ ++ ⟨#[UInt8.ofNat (97 + (k : Int)).toNat]⟩))) (d := 41) rfl rfl (by kernel_rfl) (by kernel_rfl) (by kernel_rfl) (fun _ _ _ h => h) (Or.inl ⟨by rfl, fun w' hSw => ?_⟩) hS41 ?_
              · obtain ⟨s0, _⟩ := hSw
                go_simp
              try simp only [Act.put, List.setIfInBounds_toArray, List.set_cons_zero, List.set_cons_succ]
              rw [zname_app]
              refine wpAnyH_take_dd (i := 14) (v := .agg #[.string (zname k), I Z.cal.epoch, .slice s.A Z.cal.months.length s.a, I Z.cal.leap, .slice s.B Z.cal.rules.length s.b, I Z.start, .slice s.C Z.trans.length s.c, I Z.hor, .slice s.D Z.yearly.length s.d]) (d := 48) rfl rfl (by kernel_rfl) (by kernel_rfl) (by kernel_rfl) (fun _ _ _ h => h) (yieldsIf_build rfl 73 _ rfl #[.string (zname k), I Z.cal.epoch, .slice s.A Z.cal.months.length s.a, I Z.cal.leap, .slice s.B Z.cal.rules.length s.b, I Z.start, .slice s.C Z.trans.length s.c, I Z.hor, .slice s.D Z.yearly.length s.d] (by kernel_rfl)) hS41 ?_
              try simp only [Act.put, List.setIfInBounds_toArray, List.set_cons_zero, List.set_cons_succ]
              refine wpAnyH_ready (rs := [15]) (by kernel_rfl) (by simp) ?_
              refine AllReadyH.cons rfl (fun K hK => ?_) AllReadyH.nil
              go_simp
              have HXA := Lib.hid (HX41.out.grow (below_var W41 (.cells #[.string (zname k), I Z.cal.epoch, .slice s.A Z.cal.months.length s.a, I Z.cal.leap, .slice s.B Z.cal.rules.length s.b, I Z.start, .slice s.C Z.trans.length s.c, I Z.hor, .slice s.D Z.yearly.length s.d] 73)))
              have hS43 : NxI w zb zo m ic k v (W41.alloc (.cells #[.string (zname k), I Z.cal.epoch, .slice s.A Z.cal.months.length s.a, I Z.cal.leap, .slice s.B Z.cal.rules.length s.b, I Z.start, .slice s.C Z.trans.length s.c, I Z.hor, .slice s.D Z.yearly.length s.d] 73)) := NxI.of HXA.out.it HXA.out.lo HR.out hzb
              refine hK.out _ _ hS43 (fun _ => ?_)
              clear hK K
              try simp only [Act.put, List.setIfInBounds_toArray, List.set_cons_zero, List.set_cons_succ]
              refine wpAnyH_ready (rs := [16]) (by kernel_rfl) (by simp) ?_
              refine AllReadyH.cons rfl (fun K hK => ?_) AllReadyH.nil
              have hwlt := HX41.out.lt
              refine step_append_lies _ (by rfl) _ _ _ (by rfl) (w.heap.size + 3) 73 i1' (.agg zZe) 9 144 Tryz.underlying45 HI1.out HQ0.out HQ1.out HQ2.out rfl (by omega) (.slice Az k cz) k (zecells ys) (by rfl) HXA.out.own ⟨W41.heap.size, 0, none⟩ 1 1 (⟨⟨zname k, Z⟩, s⟩ : ZeV).cells.toList (by rfl) rfl (news_lit _ _ _ _ rfl) (ze_one (⟨⟨zname k, Z⟩, s⟩ : ZeV)) (by omega) (by unfold maxLen; omega) (by omega) (by simp; omega) _ rfl ?_
              intro gg cap w6 hown6 hgrow6 hat6 _
              obtain ⟨hit6, ht6, hlo6⟩ := HX41.out.mid _ hgrow6
              have hS6 : NxI w zb zo m ic k v w6 := NxI.of hit6 hlo6 HR.out hzb
              have HX7 : Hid (NxW w #[.slice (some ⟨zb, zo, none⟩) m ic, Extern.Stop.cell wd] T (k + 1) (some ⟨gg, 0, none⟩) cap (ys ++ [(⟨⟨zname k, Z⟩, s⟩ : ZeV)]) (w6.setCell ⟨w.heap.size + 2, 3, none⟩ (.slice (some ⟨gg, 0, none⟩) (k + 1) cap))) := Lib.hid (HX41.out.add HZ41.out rfl hown6 hgrow6 hat6)
              have c66 : w6.cell? ⟨w.heap.size + 2, 3, none⟩ = some (.slice Az k cz) := (ht6.cell 3).trans (tb_get3 _ _)
              have f66 : w6.frozen? ⟨w.heap.size + 2, 3, none⟩ = false := ht6.froz 3
              clear hown6 hgrow6 hat6 hit6 ht6 hlo6
              refine hK.out _ _ hS6 (fun _ => ?_)
              clear hK K
              try simp only [Act.put, List.setIfInBounds_toArray]
              refine wpAnyH_take_dd (i := 17) (v := (.pointer (some ⟨w.heap.size + 2, 3, none⟩))) (d := 51) rfl rfl (by kernel_rfl) (by kernel_rfl) (by kernel_rfl) (fun _ _ _ h => h) (Or.inl ⟨by rfl, fun w' hSw => ?_⟩) hS6 ?_
              · obtain ⟨s0, _⟩ := hSw
                go_simp
              try simp only [Act.put]
              refine wpAnyH_ready (rs := [18]) (by kernel_rfl) (by simp) ?_
              refine AllReadyH.cons rfl (fun K hK => ?_) AllReadyH.nil
              go_simp
              have hS7 : NxI w zb zo m ic k v (w6.setCell ⟨w.heap.size + 2, 3, none⟩ (.slice (some ⟨gg, 0, none⟩) (k + 1) cap)) := NxI.of HX7.out.it HX7.out.lo HR.out hzb
              refine hK.out _ _ hS7 (fun _ => ?_)
              clear hK K
              refine wpAnyH_done (by kernel_rfl) ?_ _
              go_wp2_with fail
              go_meet
              exact ⟨rfl, some ⟨gg, 0, none⟩, cap, s, HX7.out⟩
            · go_simp
              have HX44 := Lib.hid (HX39.out.grow (below_var W39 (.cells #[.int .u8 (97 + (k : Int))] 5)))
              have HB44 : Hid ((W39.alloc (.cells #[.int .u8 (97 + (k : Int))] 5)).heap[W39.heap.size]? = some (.cells #[.int .u8 (97 + (k : Int))] 5 (0, 0))) := Lib.hid (heap_alloc_last _ _)
              have hS44 : NxI w zb zo m ic k v (W39.alloc (.cells #[.int .u8 (97 + (k : Int))] 5)) := NxI.of HX44.out.it HX44.out.lo HR.out hzb
              have HZ44 := Lib.hid (HZ39.out.grow (below_var W39 (.cells #[.int .u8 (97 + (k : Int))] 5)))
              refine hK.out _ _ hS44 (fun _ => ?_)
              clear hK K
              try simp only [Act.put, List.setIfInBounds_toArray, List.set_cons_zero, List.set_cons_succ]
              generalize (W39.alloc (.cells #[.int .u8 (97 + (k : Int))] 5)) = W44 at HX44 HB44 hS44 HZ44 ⊢
              generalize W39.heap.size = bb44 at HB44 ⊢
              refine wpAnyH_ready (rs := [1, 6]) (by kernel_rfl) (by simp) ?_
              refine AllReadyH.cons rfl (fun K hK => ?_) (AllReadyH.cons rfl (fun K hK => ?_) AllReadyH.nil)
              · have z3 : W44.cell? ⟨w.heap.size + 2, 3, none⟩ = some (.slice Az k cz) := (HX44.out.t.cell 3).trans (tb_get3 _ _)
                go_simp
                refine hK.out _ _ hS44 (fun _ => ?_)
                clear hK K z3
                try simp only [Act.put, List.setIfInBounds_toArray, List.set_cons_zero, List.set_cons_succ]
                refine wpAnyH_ready (rs := [6]) (by kernel_rfl) (by simp) ?_
                refine AllReadyH.cons rfl (fun K hK => ?_) AllReadyH.nil
                have hcv := conv_row W44 bb44 (97 + (k : Int)) HB44.out
                go_simp
                refine hK.out _ _ hS44 (fun _ => ?_)
                clear hK K hcv
                try simp only [Act.put, List.setIfInBounds_toArray, List.set_cons_zero, List.set_cons_succ]
                refine wpAnyH_take_dd (i := 7) (v := (.string (⟨#[122]⟩ ++ ⟨#[UInt8.ofNat (97 + (k : Int)).toNat]⟩))) (d := 41) rfl rfl (by kernel_rfl) (by kernel_rfl) (by kernel_rfl) (fun _ _ _ h => h) (Or.inl ⟨by rfl, fun w' hSw => ?_⟩) hS44 ?_
                · obtain ⟨s0, _⟩ := hSw
                  go_simp
                try simp only [Act.put, List.setIfInBounds_toArray, List.set_cons_zero, List.set_cons_succ]
                rw [zname_app]
                refine wpAnyH_take_dd (i := 14) (v := .agg #[.string (zname k), I Z.cal.epoch, .slice s.A Z.cal.months.length s.a, I Z.cal.leap, .slice s.B Z.cal.rules.length s.b, I Z.start, .slice s.C Z.trans.length s.c, I Z.hor, .slice s.D Z.yearly.length s.d]) (d := 48) rfl rfl (by kernel_rfl) (by kernel_rfl) (by kernel_rfl) (fun _ _ _ h => h) (yieldsIf_build rfl 73 _ rfl #[.string (zname k), I Z.cal.epoch, .slice s.A Z.cal.months.length s.a, I Z.cal.leap, .slice s.B Z.cal.rules.length s.b, I Z.start, .slice s.C Z.trans.length s.c, I Z.hor, .slice s.D Z.yearly.length s.d] (by kernel_rfl)) hS44 ?_
                try simp only [Act.put, List.setIfInBounds_toArray, List.set_cons_zero, List.set_cons_succ]
                refine wpAnyH_ready (rs := [15]) (by kernel_rfl) (by simp) ?_
                refine AllReadyH.cons rfl (fun K hK => ?_) AllReadyH.nil
                go_simp
                have HXA := Lib.hid (HX44.out.grow (below_var W44 (.cells #[.string (zname k), I Z.cal.epoch, .slice s.A Z.cal.months.length s.a, I Z.cal.leap, .slice s.B Z.cal.rules.length s.b, I Z.start, .slice s.C Z.trans.length s.c, I Z.hor, .slice s.D Z.yearly.length s.d] 73)))
                have hS47 : NxI w zb zo m ic k v (W44.alloc (.cells #[.string (zname k), I Z.cal.epoch, .slice s.A Z.cal.months.length s.a, I Z.cal.leap, .slice s.B Z.cal.rules.length s.b, I Z.start, .slice s.C Z.trans.length s.c, I Z.hor, .slice s.D Z.yearly.length s.d] 73)) := NxI.of HXA.out.it HXA.out.lo HR.out hzb
                refine hK.out _ _ hS47 (fun _ => ?_)
                clear hK K
                try simp only [Act.put, List.setIfInBounds_toArray, List.set_cons_zero, List.set_cons_succ]
                refine wpAnyH_ready (rs := [16]) (by kernel_rfl) (by simp) ?_
                refine AllReadyH.cons rfl (fun K hK => ?_) AllReadyH.nil
                have hwlt := HX44.out.lt
                refine step_append_lies _ (by rfl) _ _ _ (by rfl) (w.heap.size + 3) 73 i1' (.agg zZe) 9 144 Tryz.underlying45 HI1.out HQ0.out HQ1.out HQ2.out rfl (by omega) (.slice Az k cz) k (zecells ys) (by rfl) HXA.out.own ⟨W44.heap.size, 0, none⟩ 1 1 (⟨⟨zname k, Z⟩, s⟩ : ZeV).cells.toList (by rfl) rfl (news_lit _ _ _ _ rfl) (ze_one (⟨⟨zname k, Z⟩, s⟩ : ZeV)) (by omega) (by unfold maxLen; omega) (by omega) (by simp; omega) _ rfl ?_
                intro gg cap w6 hown6 hgrow6 hat6 _
                obtain ⟨hit6, ht6, hlo6⟩ := HX44.out.mid _ hgrow6
                have hS6 : NxI w zb zo m ic k v w6 := NxI.of hit6 hlo6 HR.out hzb
                have HX7 : Hid (NxW w #[.slice (some ⟨zb, zo, none⟩) m ic, Extern.Stop.cell wd] T (k + 1) (some ⟨gg, 0, none⟩) cap (ys ++ [(⟨⟨zname k, Z⟩, s⟩ : ZeV)]) (w6.setCell ⟨w.heap.size + 2, 3, none⟩ (.slice (some ⟨gg, 0, none⟩) (k + 1) cap))) := Lib.hid (HX44.out.add HZ44.out rfl hown6 hgrow6 hat6)
                have c66 : w6.cell? ⟨w.heap.size + 2, 3, none⟩ = some (.slice Az k cz) := (ht6.cell 3).trans (tb_get3 _ _)
                have f66 : w6.frozen? ⟨w.heap.size + 2, 3, none⟩ = false := ht6.froz 3
                clear hown6 hgrow6 hat6 hit6 ht6 hlo6
                refine hK.out _ _ hS6 (fun _ => ?_)
                clear hK K
                try simp only [Act.put, List.setIfInBounds_toArray]
                refine wpAnyH_take_dd (i := 17) (v := (.pointer (some ⟨w.heap.size + 2, 3, none⟩))) (d := 51) rfl rfl (by kernel_rfl) (by kernel_rfl) (by kernel_rfl) (fun _ _ _ h => h) (Or.inl ⟨by rfl, fun w' hSw => ?_⟩) hS6 ?_
                · obtain ⟨s0, _⟩ := hSw
                  go_simp
                try simp only [Act.put]
                refine wpAnyH_ready (rs := [18]) (by kernel_rfl) (by simp) ?_
                refine AllReadyH.cons rfl (fun K hK => ?_) AllReadyH.nil
                go_simp
                have hS7 : NxI w zb zo m ic k v (w6.setCell ⟨w.heap.size + 2, 3, none⟩ (.slice (some ⟨gg, 0, none⟩) (k + 1) cap)) := NxI.of HX7.out.it HX7.out.lo HR.out hzb
                refine hK.out _ _ hS7 (fun _ => ?_)
                clear hK K
                refine wpAnyH_done (by kernel_rfl) ?_ _
                go_wp2_with fail
                go_meet
                exact ⟨rfl, some ⟨gg, 0, none⟩, cap, s, HX7.out⟩
              · have hcv := conv_row W44 bb44 (97 + (k : Int)) HB44.out
                go_simp
                refine hK.out _ _ hS44 (fun _ => ?_)
                clear hK K hcv
                try simp only [Act.put, List.setIfInBounds_toArray, List.set_cons_zero, List.set_cons_succ]
                refine wpAnyH_take_dd (i := 7) (v := (.string (⟨#[122]⟩ ++ ⟨#[UInt8.ofNat (97 + (k : Int)).toNat]⟩))) (d := 41) rfl rfl (by kernel_rfl) (by kernel_rfl) (by kernel_rfl) (fun _ _ _ h => h) (Or.inl ⟨by rfl, fun w' hSw => ?_⟩) hS44 ?_
                · obtain ⟨s0, _⟩ := hSw
                  go_simp
                try simp only [Act.put, List.setIfInBounds_toArray, List.set_cons_zero, List.set_cons_succ]
                rw [zname_app]
                refine wpAnyH_take_dd (i := 14) (v := .agg #[.string (zname k), I Z.cal.epoch, .slice s.A Z.cal.months.length s.a, I Z.cal.leap, .slice s.B Z.cal.rules.length s.b, I Z.start, .slice s.C Z.trans.length s.c, I Z.hor, .slice s.D Z.yearly.length s.d]) (d := 48) rfl rfl (by kernel_rfl) (by kernel_rfl) (by kernel_rfl) (fun _ _ _ h => h) (yieldsIf_build rfl 73 _ rfl #[.string (zname k), I Z.cal.epoch, .slice s.A Z.cal.months.length s.a, I Z.cal.leap, .slice s.B Z.cal.rules.length s.b, I Z.start, .slice s.C Z.trans.length s.c, I Z.hor, .slice s.D Z.yearly.length s.d] (by kernel_rfl)) hS44 ?_
                try simp only [Act.put, List.setIfInBounds_toArray, List.set_cons_zero, List.set_cons_succ]
                refine wpAnyH_ready (rs := [1, 15]) (by kernel_rfl) (by simp) ?_
                refine AllReadyH.cons rfl (fun K hK => ?_) (AllReadyH.cons rfl (fun K hK => ?_) AllReadyH.nil)
                · have z3 : W44.cell? ⟨w.heap.size + 2, 3, none⟩ = some (.slice Az k cz) := (HX44.out.t.cell 3).trans (tb_get3 _ _)
                  go_simp
                  refine hK.out _ _ hS44 (fun _ => ?_)
                  clear hK K z3
                  try simp only [Act.put, List.setIfInBounds_toArray, List.set_cons_zero, List.set_cons_succ]
                  refine wpAnyH_ready (rs := [15]) (by kernel_rfl) (by simp) ?_
                  refine AllReadyH.cons rfl (fun K hK => ?_) AllReadyH.nil
                  go_simp
                  have HXA := Lib.hid (HX44.out.grow (below_var W44 (.cells #[.string (zname k), I Z.cal.epoch, .slice s.A Z.cal.months.length s.a, I Z.cal.leap, .slice s.B Z.cal.rules.length s.b, I Z.start, .slice s.C Z.trans.length s.c, I Z.hor, .slice s.D Z.yearly.length s.d] 73)))
                  have hS50 : NxI w zb zo m ic k v (W44.alloc (.cells #[.string (zname k), I Z.cal.epoch, .slice s.A Z.cal.months.length s.a, I Z.cal.leap, .slice s.B Z.cal.rules.length s.b, I Z.start, .slice s.C Z.trans.length s.c, I Z.hor, .slice s.D Z.yearly.length s.d] 73)) := NxI.of HXA.out.it HXA.out.lo HR.out hzb
                  refine hK.out _ _ hS50 (fun _ => ?_)
                  clear hK K
                  try simp only [Act.put, List.setIfInBounds_toArray, List.set_cons_zero, List.set_cons_succ]
                  refine wpAnyH_ready (rs := [16]) (by kernel_rfl) (by simp) ?_
                  refine AllReadyH.cons rfl (fun K hK => ?_) AllReadyH.nil
                  have hwlt := HX44.out.lt
                  refine step_append_lies _ (by rfl) _ _ _ (by rfl) (w.heap.size + 3) 73 i1' (.agg zZe) 9 144 Tryz.underlying45 HI1.out HQ0.out HQ1.out HQ2.out rfl (by omega) (.slice Az k cz) k (zecells ys) (by rfl) HXA.out.own ⟨W44.heap.size, 0, none⟩ 1 1 (⟨⟨zname k, Z⟩, s⟩ : ZeV).cells.toList (by rfl) rfl (news_lit _ _ _ _ rfl) (ze_one (⟨⟨zname k, Z⟩, s⟩ : ZeV)) (by omega) (by unfold maxLen; omega) (by omega) (by simp; omega) _ rfl ?_
                  intro gg cap w6 hown6 hgrow6 hat6 _
                  obtain ⟨hit6, ht6, hlo6⟩ := HX44.out.mid _ hgrow6
                  have hS6 : NxI w zb zo m ic k v w6 := NxI.of hit6 hlo6 HR.out hzb
                  have HX7 : Hid (NxW w #[.slice (some ⟨zb, zo, none⟩) m ic, Extern.Stop.cell wd] T (k + 1) (some ⟨gg, 0, none⟩) cap (ys ++ [(⟨⟨zname k, Z⟩, s⟩ : ZeV)]) (w6.setCell ⟨w.heap.size + 2, 3, none⟩ (.slice (some ⟨gg, 0, none⟩) (k + 1) cap))) := Lib.hid (HX44.out.add HZ44.out rfl hown6 hgrow6 hat6)
                  have c66 : w6.cell? ⟨w.heap.size + 2, 3, none⟩ = some (.slice Az k cz) := (ht6.cell 3).trans (tb_get3 _ _)
                  have f66 : w6.frozen? ⟨w.heap.size + 2, 3, none⟩ = false := ht6.froz 3
                  clear hown6 hgrow6 hat6 hit6 ht6 hlo6
                  refine hK.out _ _ hS6 (fun _ => ?_)
                  clear hK K
                  try simp only [Act.put, List.setIfInBounds_toArray]
                  refine wpAnyH_take_dd (i := 17) (v := (.pointer (some ⟨w.heap.size + 2, 3, none⟩))) (d := 51) rfl rfl (by kernel_rfl) (by kernel_rfl) (by kernel_rfl) (fun _ _ _ h => h) (Or.inl ⟨by rfl, fun w' hSw => ?_⟩) hS6 ?_
                  · obtain ⟨s0, _⟩ := hSw
                    go_simp
                  try simp only [Act.put]
                  refine wpAnyH_ready (rs := [18]) (by kernel_rfl) (by simp) ?_
                  refine AllReadyH.cons rfl (fun K hK => ?_) AllReadyH.nil
                  go_simp
                  have hS7 : NxI w zb zo m ic k v (w6.setCell ⟨w.heap.size + 2, 3, none⟩ (.slice (some ⟨gg, 0, none⟩) (k + 1) cap)) := NxI.of HX7.out.it HX7.out.lo HR.out hzb
                  refine hK.out _ _ hS7 (fun _ => ?_)
                  clear hK K
                  refine wpAnyH_done (by kernel_rfl) ?_ _
                  go_wp2_with fail
                  go_meet
                  exact ⟨rfl, some ⟨gg, 0, none⟩, cap, s, HX7.out⟩
                · go_simp
                  have HXA := Lib.hid (HX44.out.grow (below_var W44 (.cells #[.string (zname k), I Z.cal.epoch, .slice s.A Z.cal.months.length s.a, I Z.cal.leap, .slice s.B Z.cal.rules.length s.b, I Z.start, .slice s.C Z.trans.length s.c, I Z.hor, .slice s.D Z.yearly.length s.d] 73)))
                  have hS51 : NxI w zb zo m ic k v (W44.alloc (.cells #[.string (zname k), I Z.cal.epoch, .slice s.A Z.cal.months.length s.a, I Z.cal.leap, .slice s.B Z.cal.rules.length s.b, I Z.start, .slice s.C Z.trans.length s.c, I Z.hor, .slice s.D Z.yearly.length s.d] 73)) := NxI.of HXA.out.it HXA.out.lo HR.out hzb
                  refine hK.out _ _ hS51 (fun _ => ?_)
                  clear hK K
                  try simp only [Act.put, List.setIfInBounds_toArray, List.set_cons_zero, List.set_cons_succ]
                  refine wpAnyH_ready (rs := [1]) (by kernel_rfl) (by simp) ?_
                  refine AllReadyH.cons rfl (fun K hK => ?_) AllReadyH.nil
                  have z3 : (W44.alloc (.cells #[.string (zname k), I Z.cal.epoch, .slice s.A Z.cal.months.length s.a, I Z.cal.leap, .slice s.B Z.cal.rules.length s.b, I Z.start, .slice s.C Z.trans.length s.c, I Z.hor, .slice s.D Z.yearly.length s.d] 73)).cell? ⟨w.heap.size + 2, 3, none⟩ = some (.slice Az k cz) := (HXA.out.t.cell 3).trans (tb_get3 _ _)
                  go_simp
                  refine hK.out _ _ hS51 (fun _ => ?_)
                  clear hK K z3
                  try simp only [Act.put, List.setIfInBounds_toArray, List.set_cons_zero, List.set_cons_succ]
                  refine wpAnyH_ready (rs := [16]) (by kernel_rfl) (by simp) ?_
                  refine AllReadyH.cons rfl (fun K hK => ?_) AllReadyH.nil
                  have hwlt := HX44.out.lt
                  refine step_append_lies _ (by rfl) _ _ _ (by rfl) (w.heap.size + 3) 73 i1' (.agg zZe) 9 144 Tryz.underlying45 HI1.out HQ0.out HQ1.out HQ2.out rfl (by omega) (.slice Az k cz) k (zecells ys) (by rfl) HXA.out.own ⟨W44.heap.size, 0, none⟩ 1 1 (⟨⟨zname k, Z⟩, s⟩ : ZeV).cells.toList (by rfl) rfl (news_lit _ _ _ _ rfl) (ze_one (⟨⟨zname k, Z⟩, s⟩ : ZeV)) (by omega) (by unfold maxLen; omega) (by omega) (by simp; omega) _ rfl ?_
                  intro gg cap w6 hown6 hgrow6 hat6 _
                  obtain ⟨hit6, ht6, hlo6⟩ := HX44.out.mid _ hgrow6
                  have hS6 : NxI w zb zo m ic k v w6 := NxI.of hit6 hlo6 HR.out hzb
                  have HX7 : Hid (NxW w #[.slice (some ⟨zb, zo, none⟩) m ic, Extern.Stop.cell wd] T (k + 1) (some ⟨gg, 0, none⟩) cap (ys ++ [(⟨⟨zname k, Z⟩, s⟩ : ZeV)]) (w6.setCell ⟨w.heap.size + 2, 3, none⟩ (.slice (some ⟨gg, 0, none⟩) (k + 1) cap))) := Lib.hid (HX44.out.add HZ44.out rfl hown6 hgrow6 hat6)
                  have c66 : w6.cell? ⟨w.heap.size + 2, 3, none⟩ = some (.slice Az k cz) := (ht6.cell 3).trans (tb_get3 _ _)
                  have f66 : w6.frozen? ⟨w.heap.size + 2, 3, none⟩ = false := ht6.froz 3
                  clear hown6 hgrow6 hat6 hit6 ht6 hlo6
                  refine hK.out _ _ hS6 (fun _ => ?_)
                  clear hK K
                  try simp only [Act.put, List.setIfInBounds_toArray]
                  refine wpAnyH_take_dd (i := 17) (v := (.pointer (some ⟨w.heap.size + 2, 3, none⟩))) (d := 51) rfl rfl (by kernel_rfl) (by kernel_rfl) (by kernel_rfl) (fun _ _ _ h => h) (Or.inl ⟨by rfl, fun w' hSw => ?_⟩) hS6 ?_
                  · obtain ⟨s0, _⟩ := hSw
                    go_simp
                  try simp only [Act.put]
                  refine wpAnyH_ready (rs := [18]) (by kernel_rfl) (by simp) ?_
                  refine AllReadyH.cons rfl (fun K hK => ?_) AllReadyH.nil
                  go_simp
                  have hS7 : NxI w zb zo m ic k v (w6.setCell ⟨w.heap.size + 2, 3, none⟩ (.slice (some ⟨gg, 0, none⟩) (k + 1) cap)) := NxI.of HX7.out.it HX7.out.lo HR.out hzb
                  refine hK.out _ _ hS7 (fun _ => ?_)
                  clear hK K
                  refine wpAnyH_done (by kernel_rfl) ?_ _
                  go_wp2_with fail
                  go_meet
                  exact ⟨rfl, some ⟨gg, 0, none⟩, cap, s, HX7.out⟩
        case rest =>
          obtain ⟨rfl, Az2, cz2, s, hw2⟩ := hcut
          have HW2 := Lib.hid hw2
          clear hw2 HX0
          go_wp2_with fail
          go_roundw
          case rel => exact ⟨k + 1, Az2, cz2, _, by omega, by omega, by go_num, by rw [List.length_append, HYL.out]; rfl, by rw [List.map_append, HYE.out, nxZes_snoc vs k v HVK.out, HZE.out]; rfl, HW2.out⟩
          case measure => simp [intOf]; omega
      · have HEX : Hid (∃ k Az cz ys, k ≤ 3 ∧ ys.length = k ∧ ys.map (·.e) = nxZes vs ∧ NxW w #[.slice A m ic, Extern.Stop.cell wd] T k Az cz ys wr) := Lib.hid ⟨k, Az, cz, ys, hk3, HYL.out, by
          rw [HYE.out]
          unfold nxZes
          rcases Nat.lt_or_ge k 3 with h | h
          · have e : k = vs.length := by have := HM.out; omega
            rw [List.take_of_length_le (by omega), List.take_of_length_le (by omega)]
          · rw [show k = 3 by omega], HX0.out⟩
        have hex : ¬ (k : Int) < (m : Int) ∨ ((k : Int) < (m : Int) ∧ ¬ (k : Int) < 3) := by omega
        rcases hex with h1 | ⟨h1, h2⟩
        all_goals
          go_wp2_with fail
          go_meet
          exact HEX.out
  case rest =>
    obtain ⟨k, Az, cz, ys, hk3, hyl, hye, hw⟩ := hcut
    have HW := Lib.hid hw
    have HYL := Lib.hid hyl
    have HYE := Lib.hid hye
    clear hw hyl hye
    have HP32 : Hid (T.prev.length = 32) := Lib.hid (by rw [← HT.out]; rfl)
    have HM32 : Hid (T.mac.length = 32) := Lib.hid (by rw [← HT.out]; rfl)
    have HZE : Hid ((tbVal zTb (.slice none 0 0)).size = 68) := Lib.hid (tb_size _ _ rfl rfl)
    by_cases hn0 : n = 0
    · have i1 : ¬ (0 : Int) < (n : Int) := by omega
      have HSZ : Hid ((Tryz.prog.info? 47).map (·.size) = some (tbVal T (.slice Az k cz)).size) := Lib.hid (tb_info _ _ HP32.out HM32.out)
      have HSE : Hid ((tbVal zTb (.slice none 0 0)).size = (tbVal T (.slice Az k cz)).size) := Lib.hid (by rw [HZE.out, tb_size _ _ HP32.out HM32.out])
      go_wp2_with (first
        | ((with_reducible refine g_loa 47 ?_); go_must (refine wpList_load_nm rfl _ _ rfl (w.heap.size + 2) rfl (tbVal T (.slice Az k cz)) HW.out.t.rowU _ Tryz.underlying47 rfl HSZ.out ?_))
        | ((with_reducible refine g_sto 47 ?_); go_must (refine wpList_store_row rfl _ _ _ rfl (w.heap.size + 1) (tbVal T (.slice Az k cz)) rfl rfl 47 (tbVal zTb (.slice none 0 0)) HW.out.r.var HSZ.out HSE.out (tbVal_one _ _ _ _) ?_)))
      refine bodyPost_ret (v := .agg (tbVal T (.slice Az k cz))) (results_cell_row rfl _ _ (w.heap.size + 1) _ (tbVal T (.slice Az k cz)) (0, 0) _ rfl (setRow_heap _ _ _ _ _ _ HW.out.r.var) Tryz.underlying47 rfl HSZ.out) rfl ?_
      obtain ⟨f1, f2⟩ := HW.out.fin HP32.out HM32.out (tbVal T (.slice Az k cz))
      exact ⟨_, by simp only [HYL.out]; rfl, f1, by rw [← HT.out]; exact HII.out.symm, by rw [← HT.out]; show (n : Int) + 1 = _; rw [hn0], by rw [← HT.out]; show wi = _; rw [← HWI.out, hn0], fun _ => by rw [← HT.out], HYE.out, HW.out.low, f2⟩
    · have i1 : (0 : Int) < (n : Int) := by omega
      obtain ⟨p, hp⟩ : ∃ p, n - 1 = p := ⟨_, rfl⟩
      have hpn : (n : Int) - 1 = (p : Int) := by omega
      have hpl : (p : Int) < (n : Int) := by omega
      have hwp : IntKind.i64.wrap (p : Int) = (p : Int) := by rw [IntKind.wrap_i64]; omega
      obtain ⟨y, hy⟩ : ∃ y, ts[p]? = some y := ⟨_, List.getElem?_eq_getElem (by rw [HN.out]; omega)⟩
      have hym := List.mem_of_getElem? hy
      have hsz : ∀ z ∈ ts, z.cells.length = 68 := fun z hz => (HC.out.each z hz).size
      obtain ⟨cb, co, rfl, hcb, hcl⟩ := HC.out.row.there (by rw [flat_len TbV.cells ts hsz, HN.out]; omega)
      have HYT := Lib.hid (HC.out.each y hym)
      have HYM := Lib.hid (HTM.out y hym)
      have HYR : Hid (wc.rangeAt cb (co + p * 68) y.cells) := Lib.hid (rangeAt_keep (CellsAt.elem (s := 68) (f := TbV.cells) hsz hcl p y hy) HW.out.lo hcb)
      have HYI : Hid ((Tryz.prog.info? 47).map (·.size) = some y.cells.length) := Lib.hid (by rw [HYT.out.size]; kernel_rfl)
      clear hcl hy hym hsz hp
      go_wp2_with ((with_reducible refine g_loa 47 ?_); go_must (refine wpList_load_Mid rfl _ _ rfl cb (co + p * 68) rfl y.cells HYR.out _ Tryz.underlying47 rfl HYI.out ?_))
      refine (link14_r y wc ((HYT.out.keep HW.out.lo).more HW.out.lo.size) HYM.out).mono ?_
      rintro e w2 ⟨d, hd, rfl, hb2⟩
      have HW2 := Lib.hid (HW.out.grow hb2)
      have HD := Lib.hid hd
      have HTH : Hid (w2.there (w.heap.size + 2) 4 (cD d).size) := Lib.hid (HW2.out.t.there 4 _ (by rw [cD_size, hd, tb_size _ _ HP32.out HM32.out]; omega))
      have HW3 := Lib.hid (HW2.out.prev HP32.out d hd)
      have HDI := Lib.hid (dig_info3 d hd)
      have HSZ : Hid ((Tryz.prog.info? 47).map (·.size) = some (tbVal { T with prev := d } (.slice Az k cz)).size) := Lib.hid (tb_info { T with prev := d } _ hd HM32.out)
      have HSE : Hid ((tbVal zTb (.slice none 0 0)).size = (tbVal { T with prev := d } (.slice Az k cz)).size) := Lib.hid (by rw [HZE.out, tb_size { T with prev := d } _ hd HM32.out])
      obtain ⟨W3, hW3⟩ : ∃ W, w2.setCells (w.heap.size + 2) 4 (cD d).toList = W := ⟨_, rfl⟩
      rw [hW3] at HW3
      have HWE := Lib.hid hW3
      clear hW3 hb2 hd HW HYR
      go_wp2_with (first
        | ((with_reducible refine g_sto 29 ?_); go_must ((refine wpList_store_mid rfl _ _ _ rfl (w.heap.size + 2) 4 (cD d) rfl rfl HTH.out HDI.out (cD_one _) ?_); rw [HWE.out]))
        | ((with_reducible refine g_loa 47 ?_); go_must (refine wpList_load_nm rfl _ _ rfl (w.heap.size + 2) rfl (tbVal { T with prev := d } (.slice Az k cz)) HW3.out.t.rowU _ Tryz.underlying47 rfl HSZ.out ?_))
        | ((with_reducible refine g_sto 47 ?_); go_must (refine wpList_store_row rfl _ _ _ rfl (w.heap.size + 1) (tbVal { T with prev := d } (.slice Az k cz)) rfl rfl 47 (tbVal zTb (.slice none 0 0)) HW3.out.r.var HSZ.out HSE.out (tbVal_one _ _ _ _) ?_)))
      refine bodyPost_ret (v := .agg (tbVal { T with prev := d } (.slice Az k cz))) (results_cell_row rfl _ _ (w.heap.size + 1) _ (tbVal { T with prev := d } (.slice Az k cz)) (0, 0) _ rfl (setRow_heap _ _ _ _ _ _ HW3.out.r.var) Tryz.underlying47 rfl HSZ.out) rfl ?_
      obtain ⟨f1, f2⟩ := HW3.out.fin HD.out HM32.out (tbVal { T with prev := d } (.slice Az k cz))
      exact ⟨_, by simp only [HYL.out]; rfl, f1, by rw [← HT.out]; exact HII.out.symm, by rw [← HT.out], by rw [← HT.out]; exact HWI.out.symm, fun h => absurd h hn0, HYE.out, HW3.out.low, f2⟩
end Go.Proofs.YtbdkalpljhpnmaaGreat
