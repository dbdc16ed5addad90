/- table.Prefer. -/
import Derived.Test.YtbdkalpljhpnmaaGreatPh
import Derived.Test.YtbdkalpljhpnmaaGreatQd
import Derived.BigQuiet
import Derived.Deep.AppendLies
import Derived.Deep.CutBlock
import Derived.Deep.DeepCutAuto
import Derived.Deep.DrawnRows
import Derived.Deep.MidRow
import Derived.Deep.QuietTactic
import Derived.Deep.RegionHeld3
import Derived.Deep.RegionLaw
import Derived.Deep.WholeRow
import Derived.Great.BuildSlice
import Derived.Laws.BytesString
import Derived.Laws.CopyOwn
import Derived.Laws.EntriesVeiled
import Derived.Laws.MakeOwn
import Derived.Laws.ResultCell
import Derived.Laws.Rows
import Derived.Laws.Tables
import Derived.Lib.Hide
import Derived.LoopIn
import Derived.LoopNIn
import Derived.Maps.AppendAt
import Derived.Outline
import Derived.OwnWalkIn
import Derived.RangeFuncBound
import Derived.RangeFuncBox
import Derived.RangeFuncCalls
import Derived.RangeFuncLeaves
import Derived.RangeFuncNested
import Derived.Shelf.Abstract
import Derived.Shelf.Bytes.SlSmallAll
import Derived.Shelf.RegionOpen
import Derived.StillTailTactics
import Derived.Stop.BytesEq
import Derived.TacticsInMore
import Derived.WalkKit
import Derived.WalkLawsBesides
import Derived.WalkSpells
namespace Go.Proofs.YtbdkalpljhpnmaaGreat
open Go Go.RowKit

theorem results_row_tmp2 {P : Program} {fn : Func} {p u v : Tmp} {ty : TypeId} (h : fn.results = #[.cell p ty, .tmp u, .tmp v]) (tmps : Array Value) (w : World) (g : Nat) (t : TypeId) (cs : Array Value) (fr : Nat × Nat) (d : TypeDesc)
    (hp : tmps.getD p undef = .pointer (some ⟨g, 0, none⟩)) (hg : w.heap[g]? = some (.cells cs t fr))
    (hu : P.underlying ty = some d) (hd : (match d with | .struct _ | .array _ _ => true | _ => false) = true) (hi : (P.info? ty).map (·.size) = some cs.size) (v1 v2 : Value) (hv1 : tmps.getD u undef = v1) (hv2 : tmps.getD v undef = v2) :
    (results fn tmps).run P w = .ok (.tuple #[.agg cs, v1, v2]) w := by
  have hp' : tmps[p]?.getD undef = .pointer (some ⟨g, 0, none⟩) := by simpa using hp
  have hv1' : tmps[u]?.getD undef = v1 := by simpa using hv1
  have hv2' : tmps[v]?.getD undef = v2 := by simpa using hv2
  simp [results, h, hp', asAddr, run_loadVar_row w g t ty cs fr d hg hu hd hi, hv1', hv2']
/-- A chain as it lies. -/
structure ChV where
  A : Option Addr
  c : Nat
  ts : List TbV
def ChV.cell (x : ChV) : Value := .slice x.A x.ts.length x.c
/-- Chains in memory older than block B. -/
structure CsAt (w : World) (B : Nat) (A : Option Addr) (cs : List ChV) : Prop where
  row : CellsAt w B A (cs.map ChV.cell)
  each : ∀ x ∈ cs, ChAt w B x.A x.ts
theorem CsAt.keep {w w' : World} {B : Nat} {A : Option Addr} {cs : List ChV} (h : CsAt w B A cs) (hb : Below B w w') : CsAt w' B A cs := ⟨h.row.keep hb, fun x hx => (h.each x hx).keep hb⟩
theorem CsAt.more {w : World} {B B' : Nat} {A : Option Addr} {cs : List ChV} (h : CsAt w B A cs) (hB : B ≤ B') : CsAt w B' A cs := ⟨h.row.more hB, fun x hx => (h.each x hx).more hB⟩
theorem CsAt.grow {w w' : World} {A : Option Addr} {cs : List ChV} (h : CsAt w w.heap.size A cs) (hb : Below w.heap.size w w') : CsAt w' w'.heap.size A cs := (h.keep hb).more hb.size
/-- How long the chains and their lists are. -/
def CsLen (cs : List ChV) : Prop := ∀ x ∈ cs, x.ts.length ≤ 1000 ∧ ChLen x.ts
/-- The zone that the version in force of a chain has under a name. -/
def pick (ts : List TbV) (name : ByteArray) : Option Zn := if (curF ts).2 = true ∧ 0 ≤ (curF ts).1 then (ts[(curF ts).1.toNat]?).bind fun x => zFind x.t.zones name else none
def pk (cs : List ChV) (name : ByteArray) (k : Int) : Option Zn := (cs[k.toNat]?).bind fun c => pick c.ts name
def PrefP (w : World) (cs : List ChV) (zs : List Int) (name : ByteArray) (e : Ending) (w' : World) : Prop :=
  Below w.heap.size w w' ∧ (((∃ k ∈ zs, ¬ (0 ≤ k ∧ k < (cs.length : Int))) ∧ e = .returned (.tuple #[.agg zZn, I 0, I 1])) ∨
    ((∀ k ∈ zs, 0 ≤ k ∧ k < (cs.length : Int)) ∧ (((∀ k ∈ zs, pk cs name k = none) ∧ e = .returned (.tuple #[.agg zZn, I 0, I 4])) ∨
      ∃ (j : Nat) (k : Int) (z : Zn) (s : Zs), zs[j]? = some k ∧ pk cs name k = some z ∧ (∀ (i : Nat) (k' : Int), i < j → zs[i]? = some k' → pk cs name k' = none) ∧ e = .returned (.tuple #[.agg (znCells z s), I k, I 0]) ∧ ZnO w.heap.size w' s z ∧ ZnLen z)))
/-- Prefer's result variable. -/
structure PrV (w W : World) : Prop where
  res : W.heap[w.heap.size]? = some (.cells zZn 41 (0, 0))
  up : Below w.heap.size w W
theorem PrV.grow {w W W' : World} (h : PrV w W) (hb : Below W.heap.size W W') : PrV w W' := ⟨(hb.block _ (Array.getElem?_eq_some_iff.1 h.res).1).trans h.res, below_trans h.up hb⟩
theorem PrV.lt {w W : World} (h : PrV w W) : w.heap.size < W.heap.size := (Array.getElem?_eq_some_iff.1 h.res).1
def Pr1 (w : World) (zs : List Int) (m o : Nat) (i : Value) (wr : World) : Prop := ∃ k : Nat, k ≤ o ∧ i = .int .i64 k ∧ (∀ (j : Nat) (y : Int), j < k → zs[j]? = some y → 0 ≤ y ∧ y < (m : Int)) ∧ PrV w wr
def Pr2 (w : World) (cs : List ChV) (zs : List Int) (name : ByteArray) (o : Nat) (i : Value) (wr : World) : Prop := ∃ k : Nat, k ≤ o ∧ i = .int .i64 k ∧ (∀ (j : Nat) (y : Int), j < k → zs[j]? = some y → pk cs name y = none) ∧ PrV w wr
theorem pk_none {cs : List ChV} {name : ByteArray} {k : Int} {c : ChV} {p : Int} {b : Bool} (hc : cs[k.toNat]? = some c) (hp : curF c.ts = (p, b)) (h : ¬ (b = true ∧ 0 ≤ p)) : pk cs name k = none := by
  unfold pk pick
  rw [hc, Option.bind_some, hp, if_neg h]
theorem pk_at {cs : List ChV} {name : ByteArray} {k : Int} {c : ChV} {i : Nat} {x : TbV} (hc : cs[k.toNat]? = some c) (hp : curF c.ts = ((i : Int), true)) (hx : c.ts[i]? = some x) : pk cs name k = zFind x.t.zones name := by
  unfold pk pick
  rw [hc, Option.bind_some, hp, if_pos ⟨rfl, by show (0 : Int) ≤ (i : Int); omega⟩]
  show (c.ts[((i : Int)).toNat]?).bind _ = _
  rw [Int.toNat_natCast, hx]
  rfl
set_option maxRecDepth 10000 in
set_option maxHeartbeats 4000000 in
theorem prefer_any (A O : Option Addr) (c oc m o : Nat) (cs : List ChV) (zs : List Int) (name : ByteArray) (w : World) (hm : cs.length = m) (hm1 : m ≤ 1000) (ho : zs.length = o) (ho1 : o ≤ 1000) (hl : CsLen cs) (h : CsAt w w.heap.size A cs) (hO : IntsAt w w.heap.size O zs) :
    Calls Tryz.prog 6 #[.slice A m c, .slice O o oc, .string name] w (PrefP w cs zs name) := by
  have HV : Hid (PrV w (w.alloc (.cells zZn 41))) := Lib.hid ⟨heap_alloc_last w _, below_var w _⟩
  have HM := Lib.hid hm
  have HO := Lib.hid ho
  have HL := Lib.hid hl
  have HC := Lib.hid h
  have HI := Lib.hid hO
  clear hm ho hl h hO
  go_enter Tryz.func6, Tryz.ntmps6
  go_wp2_with (with_reducible refine g_alloc 41 ?_; refine wpList_alloc_as rfl _ rfl zZn (by kernel_rfl) ?_)
  go_loopw [19] (fun i wr => Pr1 w zs m o i wr) (fun i _ => o - (intOf i).toNat)
  case atStart => exact ⟨0, Nat.zero_le _, rfl, fun j y hj => absurd hj (Nat.not_lt_zero _), HV.out⟩
  case round =>
    obtain ⟨k, hk, rfl, hall, hv⟩ := hrel
    have HALL := Lib.hid hall
    have HV1 := Lib.hid hv
    clear hall hv HV
    by_cases hlt : k < o
    · have hkl : k < zs.length := by rw [HO.out]; exact hlt
      obtain ⟨y, hy⟩ : ∃ y, zs[k]? = some y := ⟨_, List.getElem?_eq_getElem hkl⟩
      obtain ⟨b, off, rfl, hbw, hcl⟩ : ∃ b off, O = some ⟨b, off, none⟩ ∧ b < w.heap.size ∧ ∀ j, j < zs.length → w.cell? ⟨b, off + j, none⟩ = some (I (zs[j]?.getD 0)) := by
        rcases HI.out with h | h
        · omega
        · exact h
      have c0 : wr.cell? ⟨b, off + k, none⟩ = some (I y) := by rw [HV1.out.up.cell (p := ⟨b, off + k, none⟩) hbw, hcl k hkl, hy]; rfl
      have HY := Lib.hid hy
      have i0 : (0 : Int) ≤ (k : Int) := by omega
      have i1 : (k : Int) < (o : Int) := by omega
      clear hkl hcl hy
      by_cases hyr : 0 ≤ y ∧ y < (m : Int)
      · obtain ⟨hy0, hy1⟩ := hyr
        have q0 : ¬ y < 0 := by omega
        have q1 : ¬ (m : Int) ≤ y := by omega
        go_wp2_with fail
        go_roundw
        case rel =>
          refine ⟨k + 1, by omega, by go_num, fun j y' hj hy' => ?_, HV1.out⟩
          by_cases e : j = k
          · subst e
            have h1 := HY.out
            rw [hy'] at h1
            injection h1 with h1
            omega
          · exact HALL.out j y' (by omega) hy'
        case measure => simp [intOf]; omega
      · have HBAD : Hid (∃ k ∈ zs, ¬ (0 ≤ k ∧ k < (cs.length : Int))) := Lib.hid ⟨y, List.mem_of_getElem? HY.out, by rw [HM.out]; exact hyr⟩
        by_cases q0 : y < 0
        · clear hyr
          go_wp2_with (first
            | ((with_reducible refine pb_build 41 ?_); refine wpList_build_as rfl _ rfl zZn (by kernel_rfl) ?_)
            | ((with_reducible refine g_store 41 ?_); refine wpList_store_row rfl _ _ _ rfl w.heap.size zZn rfl rfl 41 zZn HV1.out.res zz_size rfl zz_one ?_))
          refine bodyPost_ret (v := .tuple #[.agg zZn, I 0, I 1]) (results_row_tmp2 rfl _ _ w.heap.size _ zZn (0, 0) _ rfl (setRow_heap _ _ _ _ _ _ HV1.out.res) Tryz.underlying41 rfl zz_size _ _ rfl rfl) rfl ?_
          exact ⟨below_setRow HV1.out.up (Nat.le_refl _) _, .inl ⟨HBAD.out, rfl⟩⟩
        · have q1 : (m : Int) ≤ y := by omega
          clear hyr
          go_wp2_with (first
            | ((with_reducible refine pb_build 41 ?_); refine wpList_build_as rfl _ rfl zZn (by kernel_rfl) ?_)
            | ((with_reducible refine g_store 41 ?_); refine wpList_store_row rfl _ _ _ rfl w.heap.size zZn rfl rfl 41 zZn HV1.out.res zz_size rfl zz_one ?_))
          refine bodyPost_ret (v := .tuple #[.agg zZn, I 0, I 1]) (results_row_tmp2 rfl _ _ w.heap.size _ zZn (0, 0) _ rfl (setRow_heap _ _ _ _ _ _ HV1.out.res) Tryz.underlying41 rfl zz_size _ _ rfl rfl) rfl ?_
          exact ⟨below_setRow HV1.out.up (Nat.le_refl _) _, .inl ⟨HBAD.out, rfl⟩⟩
    · have hke : k = o := by omega
      have HGOOD : Hid (∀ k ∈ zs, 0 ≤ k ∧ k < (cs.length : Int)) := Lib.hid fun y hy => by
        obtain ⟨j, hj⟩ := List.mem_iff_getElem?.1 hy
        have h1 := (List.getElem?_eq_some_iff.1 hj).1
        have h2 := HALL.out j y (by have := HO.out; omega) hj
        rw [HM.out]
        exact h2
      have hnl : ¬ (k : Int) < (o : Int) := by omega
      clear hke hlt HALL
      go_wp2_with fail
      clear hnl
      go_loopw [35] (fun i wr => Pr2 w cs zs name o i wr) (fun i _ => o - (intOf i).toNat)
      case atStart => exact ⟨0, Nat.zero_le _, rfl, fun j y hj => absurd hj (Nat.not_lt_zero _), HV1.out⟩
      case round =>
        obtain ⟨q, hq, rfl, hall, hv⟩ := hrel
        have HALL := Lib.hid hall
        have HV2 := Lib.hid hv
        clear hall hv HV1
        by_cases hlt : q < o
        · have hql : q < zs.length := by rw [HO.out]; exact hlt
          obtain ⟨y, hy⟩ : ∃ y, zs[q]? = some y := ⟨_, List.getElem?_eq_getElem hql⟩
          obtain ⟨b, off, rfl, hbw, hcl⟩ : ∃ b off, O = some ⟨b, off, none⟩ ∧ b < w.heap.size ∧ ∀ j, j < zs.length → w.cell? ⟨b, off + j, none⟩ = some (I (zs[j]?.getD 0)) := by
            rcases HI.out with h | h
            · omega
            · exact h
          have c0 : wr.cell? ⟨b, off + q, none⟩ = some (I y) := by rw [HV2.out.up.cell (p := ⟨b, off + q, none⟩) hbw, hcl q hql, hy]; rfl
          have hyr := HGOOD.out y (List.mem_of_getElem? hy)
          rw [HM.out] at hyr
          obtain ⟨r, rfl⟩ := Int.eq_ofNat_of_zero_le hyr.1
          have hrm : r < m := by omega
          obtain ⟨x, hx⟩ : ∃ x, cs[r]? = some x := ⟨_, List.getElem?_eq_getElem (by rw [HM.out]; exact hrm)⟩
          have hxm := List.mem_of_getElem? hx
          obtain ⟨g, goff, rfl, hgw, hgl⟩ := HC.out.row.there (by rw [List.length_map, HM.out]; omega)
          have c1 : wr.cell? ⟨g, goff + r, none⟩ = some (.slice x.A x.ts.length x.c) := by
            rw [HV2.out.up.cell (p := ⟨g, goff + r, none⟩) hgw]
            exact hgl r _ (by rw [List.getElem?_map, hx]; rfl)
          have HCH := Lib.hid (HC.out.each x hxm)
          have HLX := Lib.hid (HL.out x hxm)
          have HX : Hid (cs[((r : Nat) : Int).toNat]? = some x) := Lib.hid hx
          have HY := Lib.hid hy
          have i0 : (0 : Int) ≤ (q : Int) := by omega
          have i1 : (q : Int) < (o : Int) := by omega
          have r0 : (0 : Int) ≤ (r : Int) := by omega
          have r1 : (r : Int) < (m : Int) := by omega
          clear hql hcl hy hyr hx hxm hgl
          go_wp2_with fail
          refine (show Calls Tryz.prog _ _ wr _ from current_any x.A x.c x.ts.length x.ts wr rfl HLX.out.1 ((HCH.out.keep HV2.out.up).more HV2.out.up.size)).mono ?_
          rintro e w3 ⟨p, bb, rfl, hp, hb3⟩
          have hrg := curF_range hp
          have HP := Lib.hid hp
          have HV3 := Lib.hid (HV2.out.grow hb3)
          have c1' := (hb3.cell (p := ⟨g, goff + r, none⟩) (Nat.lt_of_lt_of_le hgw HV2.out.up.size)).trans c1
          clear hb3 hp
          have NEXT : Hid (pk cs name (r : Int) = none → ∀ (j : Nat) (y : Int), j < q + 1 → zs[j]? = some y → pk cs name y = none) := Lib.hid fun h0 j y hj hy => by
            by_cases e : j = q
            · subst e
              have h1 := HY.out
              rw [hy] at h1
              injection h1 with h1
              rw [h1]
              exact h0
            · exact HALL.out j y (by omega) hy
          cases bb with
          | false =>
            have HNO := Lib.hid (pk_none (name := name) HX.out HP.out (by simp))
            clear hrg
            go_wp2_with fail
            go_roundw
            case rel => exact ⟨q + 1, by omega, by go_num, NEXT.out HNO.out, HV3.out⟩
            case measure => simp [intOf]; omega
          | true =>
            rcases hrg with hneg | ⟨i, t, rfl, ht⟩
            · have HNO := Lib.hid (pk_none (name := name) HX.out HP.out (by omega))
              have q2 : ¬ (0 : Int) ≤ p := by omega
              go_wp2_with fail
              go_roundw
              case rel => exact ⟨q + 1, by omega, by go_num, NEXT.out HNO.out, HV3.out⟩
              case measure => simp [intOf]; omega
            · have ht := ht rfl
              have htm := List.mem_of_getElem? ht
              have h68 := (HCH.out.each t htm).size
              have hil : i < x.ts.length := (List.getElem?_eq_some_iff.1 ht).1
              obtain ⟨tb, toff, hta, htw, htab⟩ : ∃ b off, x.A = some ⟨b, off, none⟩ ∧ b < w.heap.size ∧ TabsAt w b off x.ts := by
                rcases tabs_of HCH.out with h0 | h0
                · omega
                · exact h0
              have HCX : Hid (w3.rangeAt tb (toff + i * 68) t.cells) := Lib.hid (rangeAt_keep (htab i t ht).1 HV3.out.up htw)
              have HSZ : Hid ((Tryz.prog.info? 47).map (·.size) = some t.cells.length) := Lib.hid (by rw [h68]; kernel_rfl)
              have HTA := Lib.hid (((HCH.out.each t htm).keep HV3.out.up).more HV3.out.up.size)
              have HLT := Lib.hid (HLX.out.2 t htm)
              have HPK := Lib.hid (pk_at (name := name) HX.out HP.out ht)
              have j0 : (0 : Int) ≤ (i : Int) := by omega
              obtain ⟨nx, hnx⟩ : ∃ nx, x.ts.length = nx := ⟨_, rfl⟩
              have j1 : (i : Int) < (nx : Int) := by omega
              rw [hta, hnx] at c1'
              clear ht htm h68 hil htab hta hnx c1 c0
              go_wp2_with ((with_reducible refine g_load 47 ?_); refine wpList_load_mid rfl _ _ rfl tb (toff + i * 68) rfl t.cells _ HCX.out Tryz.underlying47 rfl HSZ.out ?_)
              refine (show Calls Tryz.prog _ #[.agg t.cells.toArray, .string name] w3 _ from zone_any t t.zs.length name w3 rfl HLT.out.1 HLT.out.2 HTA.out).mono ?_
              rintro e w4 ⟨hb4, ⟨hno, rfl⟩ | ⟨z, s, hz, rfl, hzo, ez, hez, rfl⟩⟩
              · have HNO : Hid (pk cs name (r : Int) = none) := Lib.hid (by rw [HPK.out]; exact hno)
                have HV4 := Lib.hid (HV3.out.grow hb4)
                clear hb4 hno
                go_wp2_with (first
                  | (with_reducible refine g_alloc 41 ?_; refine wpList_alloc_as rfl _ rfl zZn (by kernel_rfl) ?_)
                  | ((with_reducible refine g_store 41 ?_); refine wpList_store_new rfl _ _ _ rfl zZn rfl rfl 41 zZn rfl zz_size rfl zz_one ?_; intro W5 hb5 _ _; have HV5 := Lib.hid (HV4.out.grow hb5); clear hb5))
                go_roundw
                case rel => exact ⟨q + 1, by omega, by go_num, NEXT.out HNO.out, HV5.out⟩
                case measure => simp [intOf]; omega
              · have HYES : Hid (pk cs name (r : Int) = some ez.z) := Lib.hid (by rw [HPK.out]; exact hz)
                have HV4 := Lib.hid (HV3.out.grow hb4)
                have HZO := Lib.hid hzo
                have hlw := HV3.out.lt
                have HZL : Hid (ZnLen ez.z) := Lib.hid (by
                  have h1 := HTA.out.names
                  rw [h1] at hez
                  obtain ⟨v, hv, rfl⟩ := List.mem_map.1 hez
                  exact HLT.out.2 v hv)
                clear hb4 hzo hz hez
                go_wp2_with (first
                  | (with_reducible refine g_alloc 41 ?_; refine wpList_alloc_as rfl _ rfl zZn (by kernel_rfl) ?_)
                  | ((with_reducible refine g_store 41 ?_); refine wpList_store_new rfl _ _ _ rfl (znCells ez.z s) rfl rfl 41 zZn rfl (zn_size _ _) rfl (zn_one _ _) ?_; intro W5 hb5 hl5 hr5; have HV5 := Lib.hid (HV4.out.grow hb5); have HR5 := Lib.hid hr5; have HZ5 := Lib.hid (HZO.out.of_blocks hb5.size fun k _ h2 => hb5.block k h2); clear hb5 hl5 hr5)
                  | ((with_reducible refine g_load 41 ?_); refine wpList_load_Row rfl _ _ rfl w4.heap.size rfl (znCells ez.z s) HR5.out _ Tryz.underlying41 rfl (zn_size _ _) ?_)
                  | ((with_reducible refine g_store 41 ?_); refine wpList_store_row rfl _ _ _ rfl w.heap.size (znCells ez.z s) rfl rfl 41 zZn HV5.out.res (zn_size _ _) rfl (zn_one _ _) ?_))
                refine bodyPost_ret (v := .tuple #[.agg (znCells ez.z s), I (r : Int), I 0]) (results_row_tmp2 rfl _ _ w.heap.size _ (znCells ez.z s) (0, 0) _ rfl (setRow_heap _ _ _ _ _ _ HV5.out.res) Tryz.underlying41 rfl (zn_size _ _) _ _ rfl rfl) rfl ?_
                refine ⟨below_setRow HV5.out.up (Nat.le_refl _) _, .inr ⟨HGOOD.out, .inr ⟨q, (r : Int), ez.z, s, HY.out, HYES.out, HALL.out, rfl, ?_, HZL.out⟩⟩⟩
                exact (HZ5.out.of_blocks (by simp [World.setRow]) fun k h1 _ => setRow_other _ _ k _ (by omega)).lower (by omega)
        · have hqe : q = o := by omega
          have HNONE : Hid (∀ k ∈ zs, pk cs name k = none) := Lib.hid fun y hy => by
            obtain ⟨j, hj⟩ := List.mem_iff_getElem?.1 hy
            have h1 := (List.getElem?_eq_some_iff.1 hj).1
            exact HALL.out j y (by have := HO.out; omega) hj
          have hnl : ¬ (q : Int) < (o : Int) := by omega
          clear hqe hlt
          go_wp2_with (first
            | ((with_reducible refine pb_build 41 ?_); refine wpList_build_as rfl _ rfl zZn (by kernel_rfl) ?_)
            | ((with_reducible refine g_store 41 ?_); refine wpList_store_row rfl _ _ _ rfl w.heap.size zZn rfl rfl 41 zZn HV2.out.res zz_size rfl zz_one ?_))
          refine bodyPost_ret (v := .tuple #[.agg zZn, I 0, I 4]) (results_row_tmp2 rfl _ _ w.heap.size _ zZn (0, 0) _ rfl (setRow_heap _ _ _ _ _ _ HV2.out.res) Tryz.underlying41 rfl zz_size _ _ rfl rfl) rfl ?_
          exact ⟨below_setRow HV2.out.up (Nat.le_refl _) _, .inr ⟨HGOOD.out, .inl ⟨HNONE.out, rfl⟩⟩⟩
end Go.Proofs.YtbdkalpljhpnmaaGreat
