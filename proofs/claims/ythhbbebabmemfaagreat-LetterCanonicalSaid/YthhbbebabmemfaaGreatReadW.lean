/- letter.Read, walked, for letters that have numbers alone. -/
import Derived.Test.YthhbbebabmemfaaGreatBEq
import Derived.Test.YthhbbebabmemfaaGreatBytesW
import Derived.Test.YthhbbebabmemfaaGreatReadI
import Derived.BigQuiet
import Derived.Deep.AppendLies
import Derived.Deep.CutBlock
import Derived.Deep.DeepCutAuto
import Derived.Deep.DrawnRows
import Derived.Deep.MidRow
import Derived.Deep.QuietTactic
import Derived.Deep.RegionHeld3
import Derived.Deep.RegionLaw
import Derived.Deep.WholeRow
import Derived.Great.BuildSlice
import Derived.Laws.BytesString
import Derived.Laws.CopyOwn
import Derived.Laws.EntriesVeiled
import Derived.Laws.MakeOwn
import Derived.Laws.ResultCell
import Derived.Laws.Rows
import Derived.Laws.Tables
import Derived.Lib.Hide
import Derived.LoopIn
import Derived.LoopNIn
import Derived.Maps.AppendAt
import Derived.Outline
import Derived.OwnWalkIn
import Derived.RangeFuncBound
import Derived.RangeFuncBox
import Derived.RangeFuncCalls
import Derived.RangeFuncLeaves
import Derived.RangeFuncNested
import Derived.Shelf.Abstract
import Derived.Shelf.Bytes.SlSmallAll
import Derived.Shelf.RegionOpen
import Derived.StillTailTactics
import Derived.Stop.BytesEq
import Derived.TacticsInMore
import Derived.WalkKit
import Derived.WalkLawsBesides
import Derived.WalkSpells
namespace Go.Proofs.YthhbbebabmemfaaGreat
open Go Go.RowKit

theorem setNum_series (l : Lt) (k : Nat) (x : Int) : (setNum l k x).series = l.series := by unfold setNum; split <;> rfl
theorem setNum_cellsL (l : Lt) (k : Nat) (x : Int) : (setNum l k x).cells = l.cells := by unfold setNum; split <;> rfl
theorem setNum_ref (l : Lt) (k : Nat) (x : Int) : (setNum l k x).ref = l.ref := by unfold setNum; split <;> rfl
theorem ltVal_setNum (l : Lt) (s : Sl) (x : Int) (k o : Nat) (hk : k < 17) (h : numOff k = some o) : ltVal (setNum l k x) s = (ltVal l s).setIfInBounds o (I x) := by
  unfold ltVal
  rw [setNum_series, setNum_cellsL]
  exact setNum_cells l _ _ _ x k o hk h
theorem rdTo_ref (r : RS) (k : Nat) : (rdTo r k).l.ref = r.l.ref := by
  induction k with
  | zero => rfl
  | succ k ih =>
    unfold rdTo
    split
    · exact (setNum_ref _ _ _).trans ih
    · exact ih
theorem ltVal_one (l : Lt) (s : Sl) : (ltVal l s).all (·.oneCell') = true := by
  unfold ltVal ltCells refCells
  simp [Value.oneCell', Extern.Stop.cell]
theorem results_row_tmp {P : Program} {fn : Func} {p u : Tmp} {ty : TypeId} (h : fn.results = #[.cell p ty, .tmp u]) (tmps : Array Value) (w : World) (g : Nat) (t : TypeId) (cs : Array Value) (fr : Nat × Nat) (d : TypeDesc)
    (hp : tmps.getD p undef = .pointer (some ⟨g, 0, none⟩)) (hg : w.heap[g]? = some (.cells cs t fr))
    (hu : P.underlying ty = some d) (hd : (match d with | .struct _ | .array _ _ => true | _ => false) = true) (hi : (P.info? ty).map (·.size) = some cs.size) (v : Value) (hv : tmps.getD u undef = v) :
    (results fn tmps).run P w = .ok (.tuple #[.agg cs, v]) w := by
  rw [results_cell_tmp h, hp, hv]
  simp [asAddr, Result.andThen, run_loadVar_row w g t ty cs fr d hg hu hd hi]

theorem RIn.start {w w1 : World} {o : Obj} {A : Option Addr} {bs : List UInt8} {c : Nat} (ho : o = .cells (ltVal zLt zSl) 37 (0, 0)) (hrb : RBlk w1 (w.heap.size + 2) (w.heap.size + 1) A bs.length c false) (hsz : w.heap.size + 2 + 3 ≤ w1.heap.size)
    (hb : Below (w.heap.size + 2) ((w.alloc o).alloc o) w1) (hl : bs.length ≤ c) (hc : c ≤ 140737488355328) (hby : BytesAt w w.heap.size A bs) (hn : A = none → c = 0) : RIn w w1 ⟨zLt, bs, false⟩ := by
  subst ho
  have h2 : Below w.heap.size w w1 := (((Below.refl _ w).alloc (Nat.le_refl _) _).alloc (by simp) _).trans (hb.mono (by omega))
  exact ⟨(hb.block _ (by omega)).trans (heap_alloc2_new w _ _), ⟨A, c, hrb, hl, hc, hby.keep h2, hn⟩, (hb.block _ (by omega)).trans (heap_alloc2_old w _ _), h2, by omega⟩
theorem newReader_rd (w : World) (A : Option Addr) (bs : List UInt8) (c : Nat) (hl : bs.length ≤ c) (hc : c ≤ 140737488355328) (hby : BytesAt w w.heap.size A bs) (hn : A = none → c = 0) :
    Calls Tryz.prog 14 #[pt (w.heap.size + 1), .slice A bs.length c] ((w.alloc (.cells (ltVal zLt zSl) 37)).alloc (.cells (ltVal zLt zSl) 37)) fun e w1 =>
      e = .returned (.tuple #[pt (w.heap.size + 3), .func (.func 45) #[] #[pt (w.heap.size + 4), pt (w.heap.size + 2)]]) ∧ RIn w w1 ⟨zLt, bs, false⟩ := by
  refine (newReader_any (w.heap.size + 1) A bs.length c _).mono fun e w1 ⟨h1, h2, h3, h4⟩ => ?_
  have hs : ((w.alloc (.cells (ltVal zLt zSl) 37)).alloc (.cells (ltVal zLt zSl) 37)).heap.size = w.heap.size + 2 := by rw [World.size_alloc, World.size_alloc]
  rw [hs] at h1 h2 h3 h4
  exact ⟨h1, RIn.start rfl h2 h3 h4 hl hc hby hn⟩
theorem set_kind (l : Lt) (s : Sl) (x : Int) : ltVal { l with kind := x } s = (ltVal l s).setIfInBounds 0 (I x) := rfl
theorem set_src (l : Lt) (s : Sl) (x : Int) : ltVal { l with src := x } s = (ltVal l s).setIfInBounds 1 (I x) := rfl
theorem set_dst (l : Lt) (s : Sl) (x : Int) : ltVal { l with dst := x } s = (ltVal l s).setIfInBounds 2 (I x) := rfl
/-- Whether the reader has come to its end without a failure. -/
def rdOK (r : RS) : Bool := !r.bad && ((r.rest.length : Int) == 0)
theorem RIn.done {w w1 : World} {r : RS} (h : RIn w w1 r) : Calls Tryz.prog 45 #[pt (w.heap.size + 4), pt (w.heap.size + 2)] w1 fun e w' => e = .returned (.bool (rdOK r)) ∧ w1 = w' := by
  obtain ⟨A, c, hr, _⟩ := h.st
  exact done_any w1 (w.heap.size + 2) (w.heap.size + 1) A _ c r.bad hr
def RdRel (r0 : RS) (w : World) (i : Value) (wr : World) : Prop :=
  ∃ k : Nat, k ≤ 17 ∧ i = .int .i64 k ∧ RIn w wr (rdTo r0 k)
def ReadGot (w : World) (code : Int) (l : Lt) (e : Ending) (w' : World) : Prop := e = .returned (.tuple #[.agg (ltVal l zSl), I code]) ∧ Below w.heap.size w w'
def ReadPost (w : World) (ok : Bool) (l : Lt) (e : Ending) (w' : World) : Prop := match ok with | true => ReadGot w 0 l e w' | false => ReadGot w 3 zLt e w'
theorem size62 (l : Lt) (s : Sl) (h : l.ref.length = 32) : (Tryz.prog.info? 37).map (·.size) = some (ltVal l s).size := by unfold ltVal; rw [lt_size _ _ _ _ h]; kernel_rfl
theorem bytesAt_own {w : World} {B : Nat} {v : Value} {bs : List UInt8} (h : w.ownsRow B 5 1 v bs.length (bs.map Extern.Stop.cell)) :
    ∃ A c, v = .slice A bs.length c ∧ bs.length ≤ c ∧ c ≤ maxLen ∧ (A = none → c = 0) ∧ BytesAt w w.heap.size A bs := by
  obtain ⟨h0, ⟨rfl, h⟩ | ⟨g, cap, cur, rfl, hg, hb, h1, h2, h3, h4⟩⟩ := h
  · exact ⟨none, 0, by rw [h], by omega, Nat.zero_le _, fun _ => rfl, .inl h⟩
  · refine ⟨some ⟨g, 0, none⟩, cap, rfl, h1, h2, (fun e => nomatch e), .inr ⟨g, 0, rfl, lt_of_blk hb, fun j hj => ?_⟩⟩
    have h5 : (cur.toList.take (bs.length * 1))[j]? = (bs.map Extern.Stop.cell)[j]? := by rw [h4]
    rw [Nat.mul_one, List.getElem?_take_of_lt hj, List.getElem?_map] at h5
    rw [Nat.zero_add, cell_of_row w g j _ _ _ hb]
    simp only [Array.getElem?_toList] at h5
    rw [h5]
    simp [hj]
attribute [local go_sem] ltVal_get lt_get0 lt_get1 lt_get2
set_option maxRecDepth 10000 in
set_option maxHeartbeats 8000000 in
theorem read_nums (w : World) (A : Option Addr) (bs : List UInt8) (c : Nat) (hl : bs.length ≤ c) (hc : c ≤ 140737488355328) (hby : BytesAt w w.heap.size A bs) (hn : A = none → c = 0)
    (hnum : ∀ k : Nat, k < 17 → usesB (rdHead bs).l.kind k = true → ∃ o, numOff k = some o) (code : Int) (out : List UInt8)
    (hB : rdOK (rdTo (rdHead bs) 17) = true → ∀ w', Below w.heap.size w w' → Calls Tryz.prog 6 #[.agg (ltVal (rdTo (rdHead bs) 17).l zSl)] w' (BytesPost w' code out))
    (ok : Bool) (hok : (rdOK (rdTo (rdHead bs) 17) && (code == 0) && (out == bs)) = ok) :
    Calls Tryz.prog 5 #[.slice A bs.length c] w (ReadPost w ok (rdTo (rdHead bs) 17).l) := by
  have HREF : Hid ((rdTo (rdHead bs) 17).l.ref.length = 32) := Lib.hid (by rw [rdTo_ref]; rfl)
  have HN := Lib.hid (newReader_rd w A bs c hl hc hby hn)
  have HY := Lib.hid hby
  have HNUM := Lib.hid hnum
  have HBC := Lib.hid hB
  have HOK := Lib.hid hok
  clear hby hn hnum hB hok
  go_enter Tryz.func5, Tryz.ntmps5
  go_wp2_with (first
    | (refine wpList_alloc_as rfl _ rfl (ltVal zLt zSl) lt_zero ?_)
    | (go_at_call 14; refine HN.out.mono ?_; rintro e w1 ⟨rfl, hi1⟩; have HI1 := Lib.hid hi1; clear hi1))
  obtain ⟨r, hr⟩ : ∃ r, (⟨zLt, bs, false⟩ : RS) = r := ⟨_, rfl⟩
  have HH : Hid (rdHead bs = rdDst (rdSrc (rdKind r))) := Lib.hid (by rw [← hr]; rfl)
  rw [hr] at HI1
  clear hr
  refine (HI1.out.number 1 (by omega)).mono ?_
  rintro e w2 ⟨rfl, hi2⟩
  have hr2 := hi2.row.2
  have hf2 := hi2.froz
  have HI2 : Hid (RIn w (w2.setCell ⟨w.heap.size + 1, 0, none⟩ (I (r.num 1))) (rdKind r)) := Lib.hid (hi2.store (set_kind _ _ _))
  clear hi2 HI1
  obtain ⟨x, hx⟩ : ∃ x, r.num 1 = x := ⟨_, rfl⟩
  rw [hx] at HI2 ⊢
  clear hx
  go_wp2_with fail
  clear hr2 hf2
  obtain ⟨r1, hr1⟩ : ∃ r1, rdKind r = r1 := ⟨_, rfl⟩
  rw [hr1] at HI2 HH
  clear hr1
  refine (HI2.out.number 1 (by omega)).mono ?_
  rintro e w3 ⟨rfl, hi3⟩
  have hr3 := hi3.row.2
  have hf3 := hi3.froz
  have HI3 : Hid (RIn w (w3.setCell ⟨w.heap.size + 1, 1, none⟩ (I (r1.num 1))) (rdSrc r1)) := Lib.hid (hi3.store (set_src _ _ _))
  clear hi3 HI2
  obtain ⟨y, hy⟩ : ∃ y, r1.num 1 = y := ⟨_, rfl⟩
  rw [hy] at HI3 ⊢
  clear hy
  go_wp2_with fail
  clear hr3 hf3
  obtain ⟨r2, hr2⟩ : ∃ r2, rdSrc r1 = r2 := ⟨_, rfl⟩
  rw [hr2] at HI3 HH
  clear hr2
  refine (HI3.out.number 1 (by omega)).mono ?_
  rintro e w4 ⟨rfl, hi4⟩
  have hr4 := hi4.row.2
  have hf4 := hi4.froz
  have HI4 : Hid (RIn w (w4.setCell ⟨w.heap.size + 1, 2, none⟩ (I (r2.num 1))) (rdDst r2)) := Lib.hid (hi4.store (set_dst _ _ _))
  clear hi4 HI3
  rw [← HH.out] at HI4
  obtain ⟨z, hz⟩ : ∃ z, r2.num 1 = z := ⟨_, rfl⟩
  rw [hz] at HI4 ⊢
  clear hz HH
  obtain ⟨r0, hr0⟩ : ∃ r0, rdHead bs = r0 := ⟨_, rfl⟩
  rw [hr0] at HNUM HBC HOK HI4 HREF
  have HR00 := Lib.hid hr0
  clear hr0
  have HG4 := Lib.hid (HI4.out.grow (below_var _ (.cells (rFns (w.heap.size + 3)) 56)))
  clear HI4
  go_wp2_with (first
    | (refine wpList_build_as rfl _ rfl (rFns (w.heap.size + 3)) (by kernel_rfl) ?_)
    | (refine wpList_var_row rfl rfl _ _ _ rfl rfl rfl rfl _ (rFns (w.heap.size + 3)) (rFns_info _) rfl rfl rfl (rFns_one _) ?_)
    | (go_at_call 21; refine (numbers_any _ _).mono ?_; rintro e w5 ⟨rfl, hb5⟩; have HI5 := Lib.hid (HG4.out.grow hb5); clear hb5))
  clear hr4 hf4 HG4
  go_loopw [38] (fun i wr => RdRel r0 w i wr) (fun i _ => 17 - (intOf i).toNat)
  case atStart => exact ⟨0, by omega, rfl, HI5.out⟩
  case round =>
    obtain ⟨k, hk, rfl, hi⟩ := hrel
    have HI := Lib.hid hi
    clear hi HI5
    by_cases hlt : k < 17
    · have hrow := HI.out.row.2
      have HKD := Lib.hid (rdTo_kind r0 k)
      have HU0 := Lib.hid (rdTo_kind r0 k)
      have HRT : Hid (rdTo r0 (k + 1) = if usesB r0.l.kind k = true then rdNum (rdTo r0 k) k else rdTo r0 k) := Lib.hid rfl
      obtain ⟨rk, hrk⟩ : ∃ rk, rdTo r0 k = rk := ⟨_, rfl⟩
      rw [hrk] at HI hrow HKD HRT
      clear hrk
      have hix := fun W => index_nums (w.heap.size + 1) k hlt W
      cases hu : usesB r0.l.kind k
      · have HU := Lib.hid hu
        rw [hu] at HRT
        clear hu
        obtain ⟨q, hq⟩ : ∃ q, ptrAt (w.heap.size + 1) k = q := ⟨_, rfl⟩
        rw [hq] at hix
        clear hq
        go_wp2_with (go_at_call 22; refine (uses_any _ _ _ (by omega) (by omega)).mono ?_; rintro e w6 ⟨rfl, hb6⟩; have HI6 := Lib.hid (HI.out.grow hb6); rw [HKD.out, HU.out]; clear hb6)
        go_roundw
        case rel => exact ⟨k + 1, by omega, by go_num, by rw [HRT.out]; exact HI6.out⟩
        case measure => simp [intOf]; omega
      · have HU := Lib.hid hu
        rw [hu] at HRT
        obtain ⟨o, ho⟩ := HNUM.out k hlt hu
        clear hu
        have hp : ptrAt (w.heap.size + 1) k = .pointer (some ⟨w.heap.size + 1, o, none⟩) := by unfold ptrAt; rw [ho]; rfl
        rw [hp] at hix
        have hcl := fun l : Lt => lt_num l (.slice zSl.A l.series.rule.length zSl.c) (.slice zSl.B l.series.moves.length zSl.d) (.slice zSl.C l.cells.length zSl.e) k o hlt ho
        have HO := Lib.hid ho
        clear ho hp
        go_wp2_with (go_at_call 22; refine (uses_any _ _ _ (by omega) (by omega)).mono ?_; rintro e w6 ⟨rfl, hb6⟩; have HI6 := Lib.hid (HI.out.grow hb6); rw [HKD.out, HU.out]; clear hb6)
        refine (HI6.out.number 8 (by omega)).mono ?_
        rintro e w7 ⟨rfl, hi7⟩
        have hc7 : w7.cell? ⟨w.heap.size + 1, o, none⟩ = some (I (numF rk.l k)) := (hi7.row.2 o).trans (hcl rk.l)
        have hf7 := hi7.froz o
        have HI7 : Hid (RIn w (w7.setCell ⟨w.heap.size + 1, o, none⟩ (I (rk.num 8))) (rdNum rk k)) := Lib.hid (hi7.store (ltVal_setNum _ _ _ k o hlt HO.out))
        clear hi7 hrow hcl
        obtain ⟨v, hv⟩ : ∃ v, rk.num 8 = v := ⟨_, rfl⟩
        rw [hv] at HI7 ⊢
        clear hv
        obtain ⟨v0, hv0⟩ : ∃ v, numF rk.l k = v := ⟨_, rfl⟩
        rw [hv0] at hc7
        clear hv0
        go_wp2
        go_roundw
        case rel => exact ⟨k + 1, by omega, by go_num, by rw [HRT.out]; exact HI7.out⟩
        case measure => simp [intOf]; omega
    · have hke : k = 17 := by omega
      subst hke
      clear hlt hk HNUM HN
      obtain ⟨r, hr⟩ : ∃ r, rdTo r0 17 = r := ⟨_, rfl⟩
      rw [hr] at HBC HOK HI HREF
      have HRR := Lib.hid hr
      clear hr
      have HW := Lib.hid HI.out.row
      have HSZ := Lib.hid (size62 r.l zSl HREF.out)
      obtain ⟨q, hq⟩ : ∃ q, rdOK r = q := ⟨_, rfl⟩
      rw [hq] at HBC HOK
      have HQ := Lib.hid hq
      clear hq
      cases q
      · have hok := HOK.out
        rw [Bool.false_and, Bool.false_and] at hok
        subst hok
        go_wp2_with (first
          | (go_at_call 45; refine HI.out.done.mono ?_; rintro e w8 ⟨rfl, rfl⟩; rw [HQ.out])
          | (refine wpList_build_as rfl _ rfl (ltVal zLt zSl) (by kernel_rfl) ?_)
          | (refine wpList_store_row rfl _ _ _ rfl w.heap.size (ltVal zLt zSl) rfl rfl 37 (ltVal zLt zSl) HI.out.res (size62 zLt zSl rfl) rfl (ltVal_one _ _) ?_))
        refine bodyPost_ret (v := .tuple #[.agg (ltVal zLt zSl), I 3]) (results_row_tmp rfl _ _ w.heap.size _ (ltVal zLt zSl) (0, 0) _ rfl (setRow_heap _ _ _ _ _ _ HI.out.res) Tryz.underlying37 rfl (size62 _ _ rfl) _ rfl) rfl ?_
        exact ⟨rfl, below_setRow HI.out.lo (Nat.le_refl _) _⟩
      · have HBC2 := Lib.hid (HBC.out rfl)
        clear HBC
        obtain ⟨qc, hqc⟩ : ∃ q, (code == 0) = q := ⟨_, rfl⟩
        have HQC := Lib.hid hqc
        cases qc
        · have hok := HOK.out
          rw [hqc] at hok
          rw [Bool.and_false, Bool.false_and] at hok
          subst hok
          have hne : ¬ code = 0 := by rw [beq_dec] at hqc; exact of_decide_eq_false hqc
          clear hqc
          go_wp2_with (first
            | (go_at_call 45; refine HI.out.done.mono ?_; rintro e w8 ⟨rfl, rfl⟩; rw [HQ.out])
            | (refine wpList_load_Row rfl _ _ rfl (w.heap.size + 1) rfl (ltVal r.l zSl) HW.out _ Tryz.underlying37 rfl HSZ.out ?_)
            | (go_at_call 6; refine (HBC2.out _ HI.out.lo).mono ?_; rintro e w9 ⟨h9, hb9⟩; rw [if_neg (by have := HQC.out; rw [beq_dec] at this; exact of_decide_eq_false this)] at h9; subst h9; have HI9 := Lib.hid (HI.out.grow hb9); clear hb9)
            | (refine wpList_build_as rfl _ rfl (ltVal zLt zSl) (by kernel_rfl) ?_)
            | (refine wpList_store_row rfl _ _ _ rfl w.heap.size (ltVal zLt zSl) rfl rfl 37 (ltVal zLt zSl) HI9.out.res (size62 zLt zSl rfl) rfl (ltVal_one _ _) ?_))
          refine bodyPost_ret (v := .tuple #[.agg (ltVal zLt zSl), I 3]) (results_row_tmp rfl _ _ w.heap.size _ (ltVal zLt zSl) (0, 0) _ rfl (setRow_heap _ _ _ _ _ _ HI9.out.res) Tryz.underlying37 rfl (size62 _ _ rfl) _ rfl) rfl ?_
          exact ⟨rfl, below_setRow HI9.out.lo (Nat.le_refl _) _⟩
        · have hc0 : code = 0 := by rw [beq_dec] at hqc; exact of_decide_eq_true hqc
          subst hc0
          obtain ⟨qe, hqe⟩ : ∃ q, (out == bs) = q := ⟨_, rfl⟩
          have HQE := Lib.hid hqe
          have hok := HOK.out
          rw [hqe] at hok
          clear hqe hqc HQC
          cases qe
          · have hok : false = ok := hok
            subst hok
            go_wp2_with (first
              | (go_at_call 45; refine HI.out.done.mono ?_; rintro e w8 ⟨rfl, rfl⟩; rw [HQ.out])
              | (refine wpList_load_Row rfl _ _ rfl (w.heap.size + 1) rfl (ltVal r.l zSl) HW.out _ Tryz.underlying37 rfl HSZ.out ?_)
              | (go_at_call 6; refine (HBC2.out _ HI.out.lo).mono ?_; rintro e w9 ⟨h9, hb9⟩; rw [if_pos rfl] at h9; obtain ⟨v, rfl, hv⟩ := h9; obtain ⟨A9, c9, rfl, _, _, _, hby9⟩ := bytesAt_own hv; have HY9 := Lib.hid hby9; have HI9 := Lib.hid (HI.out.grow hb9); clear hb9 hv hby9)
              | (go_at_call 23; refine (bytesEqual_any _ A9 A out bs c9 c _ _ HY9.out (HY.out.keep HI9.out.lo)).mono ?_; rintro e w10 ⟨rfl, rfl⟩; rw [HQE.out])
              | (refine wpList_build_as rfl _ rfl (ltVal zLt zSl) (by kernel_rfl) ?_)
              | (refine wpList_store_row rfl _ _ _ rfl w.heap.size (ltVal zLt zSl) rfl rfl 37 (ltVal zLt zSl) HI9.out.res (size62 zLt zSl rfl) rfl (ltVal_one _ _) ?_))
            refine bodyPost_ret (v := .tuple #[.agg (ltVal zLt zSl), I 3]) (results_row_tmp rfl _ _ w.heap.size _ (ltVal zLt zSl) (0, 0) _ rfl (setRow_heap _ _ _ _ _ _ HI9.out.res) Tryz.underlying37 rfl (size62 _ _ rfl) _ rfl) rfl ?_
            exact ⟨rfl, below_setRow HI9.out.lo (Nat.le_refl _) _⟩
          · have hok : true = ok := hok
            subst hok
            go_wp2_with (first
              | (go_at_call 45; refine HI.out.done.mono ?_; rintro e w8 ⟨rfl, rfl⟩; rw [HQ.out])
              | (refine wpList_load_Row rfl _ _ rfl (w.heap.size + 1) rfl (ltVal r.l zSl) HW.out _ Tryz.underlying37 rfl HSZ.out ?_)
              | (refine wpList_load_Row rfl _ _ rfl (w.heap.size + 1) rfl (ltVal r.l zSl) HI9.out.row _ Tryz.underlying37 rfl HSZ.out ?_)
              | (go_at_call 6; refine (HBC2.out _ HI.out.lo).mono ?_; rintro e w9 ⟨h9, hb9⟩; rw [if_pos rfl] at h9; obtain ⟨v, rfl, hv⟩ := h9; obtain ⟨A9, c9, rfl, _, _, _, hby9⟩ := bytesAt_own hv; have HY9 := Lib.hid hby9; have HI9 := Lib.hid (HI.out.grow hb9); clear hb9 hv hby9)
              | (go_at_call 23; refine (bytesEqual_any _ A9 A out bs c9 c _ _ HY9.out (HY.out.keep HI9.out.lo)).mono ?_; rintro e w10 ⟨rfl, rfl⟩; rw [HQE.out])
              | (refine wpList_store_row rfl _ _ _ rfl w.heap.size (ltVal r.l zSl) rfl rfl 37 (ltVal zLt zSl) HI9.out.res HSZ.out (by unfold ltVal; rw [lt_size _ _ _ _ HREF.out]; rfl) (ltVal_one _ _) ?_))
            refine bodyPost_ret (v := .tuple #[.agg (ltVal r.l zSl), I 0]) (results_row_tmp rfl _ _ w.heap.size _ (ltVal r.l zSl) (0, 0) _ rfl (setRow_heap _ _ _ _ _ _ HI9.out.res) Tryz.underlying37 rfl (size62 _ _ HREF.out) _ rfl) rfl ?_
            rw [HR00.out, HRR.out]
            exact ⟨rfl, below_setRow HI9.out.lo (Nat.le_refl _) _⟩
end Go.Proofs.YthhbbebabmemfaaGreat
