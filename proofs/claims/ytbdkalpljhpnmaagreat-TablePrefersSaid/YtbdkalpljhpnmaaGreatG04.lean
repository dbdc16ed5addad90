/- The texts Ky, Kz, Kp, Kq, Kv, in this order. -/
import Derived.Test.YtbdkalpljhpnmaaGreatG03
import Derived.BigQuiet
import Derived.Deep.AppendLies
import Derived.Deep.CutBlock
import Derived.Deep.DeepCutAuto
import Derived.Deep.DrawnRows
import Derived.Deep.MidRow
import Derived.Deep.QuietTactic
import Derived.Deep.RegionHeld3
import Derived.Deep.RegionLaw
import Derived.Deep.WholeRow
import Derived.Great.BuildSlice
import Derived.Handy
import Derived.Laws.BytesString
import Derived.Laws.CopyOwn
import Derived.Laws.EntriesVeiled
import Derived.Laws.MakeOwn
import Derived.Laws.ResultCell
import Derived.Laws.Rows
import Derived.Laws.Tables
import Derived.Lib.Hide
import Derived.LoopIn
import Derived.LoopNIn
import Derived.Maps.AppendAt
import Derived.Outline
import Derived.OwnWalkIn
import Derived.RangeFuncBound
import Derived.RangeFuncBox
import Derived.RangeFuncCalls
import Derived.RangeFuncLeaves
import Derived.RangeFuncNested
import Derived.Shelf.Abstract
import Derived.Shelf.Bytes.SlSmallAll
import Derived.Shelf.RegionOpen
import Derived.StillTailTactics
import Derived.Stop.BytesEq
import Derived.TacticsInMore
import Derived.WalkKit
import Derived.WalkLawsBesides
import Derived.WalkSpells
import Derived.Test.YtbdkalpljhpnmaaGreatKf
import Derived.Test.YtbdkalpljhpnmaaGreatKf3
import Derived.Test.YtbdkalpljhpnmaaGreatKg
import Derived.Test.YtbdkalpljhpnmaaGreatKh
import Derived.Test.YtbdkalpljhpnmaaGreatPs
/- kalendsref03.expand. -/
namespace Go.Proofs.YtbdkalpljhpnmaaGreat
open Go Go.RowKit

/-- A word of four bytes. -/
def wd4 (x0 x1 x2 x3 : Int) : Int :=
  IntKind.u32.wrap (IntKind.u32.wrap (IntKind.u32.wrap (x0 * 16777216 + x1 * 65536) + x2 * 256) + x3)
structure ScS (w : World) (zs : List Int) (wr : World) : Prop where
  var : AV (w.heap.size + 1) 187 (cellsU zs) wr
  res : AV w.heap.size 187 (cellsU (List.replicate 64 0)) wr
  lo : Below w.heap.size w wr
theorem ScS.drew {w wr : World} {zs : List Int} (h : ScS w zs wr) : ScS w zs wr.drew := ⟨h.var.drew, h.res.drew, h.lo.drew⟩
theorem ScS.put {w wr : World} {zs : List Int} (h : ScS w zs wr) (i : Nat) (z : Int) : ScS w (zs.set i z) (wr.setCell ⟨w.heap.size + 1, i, none⟩ (.int .u32 z)) :=
  ⟨by rw [← cellsU_set]; exact h.var.put i _, h.res.far (by omega) _ _, h.lo.setCell (p := ⟨w.heap.size + 1, i, none⟩) (Nat.le_succ _) _⟩
theorem ScS.drewN {w wr : World} {zs : List Int} (h : ScS w zs wr) (n : Nat) : ScS w zs (wr.drewN n) := ⟨⟨h.var.var⟩, ⟨h.res.var⟩, ⟨h.lo.os, h.lo.tape, h.lo.output, h.lo.size, h.lo.block⟩⟩
set_option maxRecDepth 10000 in
set_option maxHeartbeats 2000000 in
theorem expand_r (w : World) (bb off c : Nat) (xs : List UInt8) (hx : xs.length = 64) (hb : bb < w.heap.size) (hA : ∀ j, j < 64 → w.cell? ⟨bb, off + j, none⟩ = some (Extern.Stop.cell (xs[j]?.getD 0))) :
    Calls Tryz.prog 87 #[.slice (some ⟨bb, off, none⟩) 64 c] w fun e w' => ∃ zs : List Int, zs.length = 64 ∧ e = .returned (.agg (cellsU zs)) ∧ Below w.heap.size w w' := by
  have HX := Lib.hid hx
  have HA := Lib.hid hA
  clear hx hA
  have hi0 := zero64_info
  obtain ⟨z64, hz64⟩ : ∃ l : List Int, List.replicate 64 0 = l := ⟨_, rfl⟩
  rw [hz64] at hi0
  have HI0 := Lib.hid hi0
  have HZ := Lib.hid hz64
  have HZL : Hid (z64.length = 64) := Lib.hid (by rw [← hz64]; rfl)
  have HSZ : Hid ((Tryz.prog.info? 187).map (·.size) = some (cellsU z64).size) := Lib.hid (by rw [cellsU_size, HZL.out]; kernel_rfl)
  have HLIT : Hid (Value.agg (cellsU z64) = .agg #[.int .u32 0, .int .u32 0, .int .u32 0, .int .u32 0, .int .u32 0, .int .u32 0, .int .u32 0, .int .u32 0, .int .u32 0, .int .u32 0, .int .u32 0, .int .u32 0, .int .u32 0, .int .u32 0, .int .u32 0, .int .u32 0, .int .u32 0, .int .u32 0, .int .u32 0, .int .u32 0, .int .u32 0, .int .u32 0, .int .u32 0, .int .u32 0, .int .u32 0, .int .u32 0, .int .u32 0, .int .u32 0, .int .u32 0, .int .u32 0, .int .u32 0, .int .u32 0, .int .u32 0, .int .u32 0, .int .u32 0, .int .u32 0, .int .u32 0, .int .u32 0, .int .u32 0, .int .u32 0, .int .u32 0, .int .u32 0, .int .u32 0, .int .u32 0, .int .u32 0, .int .u32 0, .int .u32 0, .int .u32 0, .int .u32 0, .int .u32 0, .int .u32 0, .int .u32 0, .int .u32 0, .int .u32 0, .int .u32 0, .int .u32 0, .int .u32 0, .int .u32 0, .int .u32 0, .int .u32 0, .int .u32 0, .int .u32 0, .int .u32 0, .int .u32 0]) := Lib.hid (by rw [← hz64]; rfl)
  clear hi0 hz64
  go_enter Tryz.func87, Tryz.ntmps87
  go_wp2_with (first
    | (refine wpList_alloc_nm rfl _ rfl (cellsU z64) HI0.out ?_)
    | ((with_reducible refine g_sto 187 ?_); go_must (refine wpList_store_row rfl _ _ _ rfl (w.alloc (.cells (cellsU z64) 187)).heap.size (cellsU z64) rfl HLIT.out.symm 187 (cellsU z64) (heap_alloc_last _ _) HSZ.out rfl (cellsU_one _) ?_)))
  have H0 : Hid (ScS w z64 (((w.alloc (.cells (cellsU z64) 187)).alloc (.cells (cellsU z64) 187)).setRow (w.heap.size + 1) (cellsU z64))) := Lib.hid ⟨⟨setRow_heap _ _ _ _ _ _ (heap_alloc2_new w _ _)⟩, ⟨by rw [HZ.out]; exact (setRow_other _ _ _ _ (by omega)).trans (heap_alloc2_old w _ _)⟩, below_setRow (below_trans (below_var w _) (below_var _ _)) (by omega) _⟩
  go_loopw [4] (fun i wr => ∃ (k : Nat) (zs : List Int), k ≤ 16 ∧ i = I k ∧ zs.length = 64 ∧ ScS w zs wr) (fun i _ => 16 - (intOf i).toNat)
  case atStart => exact ⟨0, z64, Nat.zero_le _, rfl, HZL.out, H0.out⟩
  case round =>
    obtain ⟨k, zs, hk, rfl, hzl, hs⟩ := hrel
    have HS := Lib.hid hs
    have HL := Lib.hid hzl
    clear H0 hs hzl
    by_cases hlt : (k : Int) < 16
    · obtain ⟨p, hp⟩ : ∃ p : Nat, 4 * k = p := ⟨_, rfl⟩
      obtain ⟨p1, hp1⟩ : ∃ q : Nat, p + 1 = q := ⟨_, rfl⟩
      obtain ⟨p2, hp2⟩ : ∃ q : Nat, p + 2 = q := ⟨_, rfl⟩
      obtain ⟨p3, hp3⟩ : ∃ q : Nat, p + 3 = q := ⟨_, rfl⟩
      have c0 : wr.cell? ⟨bb, off + p, none⟩ = some (Extern.Stop.cell (xs[p]?.getD 0)) := (HS.out.lo.cell (p := ⟨bb, off + p, none⟩) hb).trans (HA.out p (by omega))
      have c1 : wr.cell? ⟨bb, off + p1, none⟩ = some (Extern.Stop.cell (xs[p1]?.getD 0)) := (HS.out.lo.cell (p := ⟨bb, off + p1, none⟩) hb).trans (HA.out p1 (by omega))
      have c2 : wr.cell? ⟨bb, off + p2, none⟩ = some (Extern.Stop.cell (xs[p2]?.getD 0)) := (HS.out.lo.cell (p := ⟨bb, off + p2, none⟩) hb).trans (HA.out p2 (by omega))
      have c3 : wr.cell? ⟨bb, off + p3, none⟩ = some (Extern.Stop.cell (xs[p3]?.getD 0)) := (HS.out.lo.cell (p := ⟨bb, off + p3, none⟩) hb).trans (HA.out p3 (by omega))
      obtain ⟨x0, e0⟩ : ∃ x : Int, ((xs[p]?.getD 0).toNat : Int) = x := ⟨_, rfl⟩
      obtain ⟨x1, e1⟩ : ∃ x : Int, ((xs[p1]?.getD 0).toNat : Int) = x := ⟨_, rfl⟩
      obtain ⟨x2, e2⟩ : ∃ x : Int, ((xs[p2]?.getD 0).toNat : Int) = x := ⟨_, rfl⟩
      obtain ⟨x3, e3⟩ : ∃ x : Int, ((xs[p3]?.getD 0).toNat : Int) = x := ⟨_, rfl⟩
      replace c0 : wr.cell? ⟨bb, off + p, none⟩ = some (.int .u8 x0) := c0.trans (by rw [← e0]; rfl)
      replace c1 : wr.cell? ⟨bb, off + p1, none⟩ = some (.int .u8 x1) := c1.trans (by rw [← e1]; rfl)
      replace c2 : wr.cell? ⟨bb, off + p2, none⟩ = some (.int .u8 x2) := c2.trans (by rw [← e2]; rfl)
      replace c3 : wr.cell? ⟨bb, off + p3, none⟩ = some (.int .u8 x3) := c3.trans (by rw [← e3]; rfl)
      have g0 : 4 * (k : Int) = (p : Int) := by omega
      have g1 : (p : Int) + 1 = (p1 : Int) := by omega
      have g2 : (p : Int) + 2 = (p2 : Int) := by omega
      have g3 : (p : Int) + 3 = (p3 : Int) := by omega
      have w0 : IntKind.i64.wrap (p : Int) = (p : Int) := by rw [IntKind.wrap_i64]; omega
      have w1 : IntKind.i64.wrap (p1 : Int) = (p1 : Int) := by rw [IntKind.wrap_i64]; omega
      have w2 : IntKind.i64.wrap (p2 : Int) = (p2 : Int) := by rw [IntKind.wrap_i64]; omega
      have w3 : IntKind.i64.wrap (p3 : Int) = (p3 : Int) := by rw [IntKind.wrap_i64]; omega
      have b0 : (p : Int) < 64 := by omega
      have b1 : (p1 : Int) < 64 := by omega
      have b2 : (p2 : Int) < 64 := by omega
      have b3 : (p3 : Int) < 64 := by omega
      have HE := Lib.hid (And.intro (And.intro e0 e1) (And.intro e2 e3))
      have HP := Lib.hid (And.intro hp (And.intro hp1 (And.intro hp2 hp3)))
      clear e0 e1 e2 e3 hp hp1 hp2 hp3
      obtain ⟨z0, hz0⟩ : ∃ z, zs[k]?.getD 0 = z := ⟨_, rfl⟩
      have hv : wr.cell? ⟨w.heap.size + 1, k, none⟩ = some (.int .u32 z0) := (HS.out.var.cell k).trans (by rw [cellsU_get _ _ (by rw [HL.out]; omega), hz0])
      have hf := HS.out.var.froz k
      have hk64 : (k : Int) < 64 := by omega
      go_wp2_with fail
      go_still_tail 35, (by kernel_rfl)
      change wpList _ _ _ _ _ wr.drew
      go_wp2_with fail
      go_roundw
      case rel => exact ⟨k + 1, zs.set k _, by omega, by go_num, by rw [List.length_set, HL.out], HS.out.drew.put k _⟩
      case measure => simp [intOf]; omega
    · have H1 : Hid (∃ zs : List Int, zs.length = 64 ∧ ScS w zs wr) := Lib.hid ⟨zs, HL.out, HS.out⟩
      go_wp2_with fail
      go_loopw [5] (fun i wr => ∃ (k : Nat) (zs : List Int), 16 ≤ k ∧ k ≤ 64 ∧ i = I k ∧ zs.length = 64 ∧ ScS w zs wr) (fun i _ => 64 - (intOf i).toNat)
      case atStart => exact H1.out.elim fun zs h => ⟨16, zs, by omega, by omega, rfl, h.1, h.2⟩
      case round =>
        clear hlt HS HL
        obtain ⟨k, zs, hk0, hk, rfl, hzl, hs⟩ := hrel
        have HS := Lib.hid hs
        have HL := Lib.hid hzl
        clear hs hzl
        by_cases hlt : (k : Int) < 64
        · obtain ⟨q16, hq16⟩ : ∃ q : Nat, k - 16 = q := ⟨_, rfl⟩
          obtain ⟨q15, hq15⟩ : ∃ q : Nat, k - 15 = q := ⟨_, rfl⟩
          obtain ⟨q7, hq7⟩ : ∃ q : Nat, k - 7 = q := ⟨_, rfl⟩
          obtain ⟨q2, hq2⟩ : ∃ q : Nat, k - 2 = q := ⟨_, rfl⟩
          obtain ⟨za, hza⟩ : ∃ z, zs[q16]?.getD 0 = z := ⟨_, rfl⟩
          obtain ⟨zx, hzx⟩ : ∃ z, zs[q15]?.getD 0 = z := ⟨_, rfl⟩
          obtain ⟨zb, hzb⟩ : ∃ z, zs[q7]?.getD 0 = z := ⟨_, rfl⟩
          obtain ⟨zy, hzy⟩ : ∃ z, zs[q2]?.getD 0 = z := ⟨_, rfl⟩
          have va : ∀ n, (wr.drewN n).cell? ⟨w.heap.size + 1, q16, none⟩ = some (.int .u32 za) := fun n => (HS.out.var.cell q16).trans (by rw [cellsU_get _ _ (by rw [HL.out]; omega), hza])
          have vx : wr.cell? ⟨w.heap.size + 1, q15, none⟩ = some (.int .u32 zx) := (HS.out.var.cell q15).trans (by rw [cellsU_get _ _ (by rw [HL.out]; omega), hzx])
          have vb : ∀ n, (wr.drewN n).cell? ⟨w.heap.size + 1, q7, none⟩ = some (.int .u32 zb) := fun n => (HS.out.var.cell q7).trans (by rw [cellsU_get _ _ (by rw [HL.out]; omega), hzb])
          have vy : wr.cell? ⟨w.heap.size + 1, q2, none⟩ = some (.int .u32 zy) := (HS.out.var.cell q2).trans (by rw [cellsU_get _ _ (by rw [HL.out]; omega), hzy])
          have g16 : (k : Int) - 16 = (q16 : Int) := by omega
          have g15 : (k : Int) - 15 = (q15 : Int) := by omega
          have g7 : (k : Int) - 7 = (q7 : Int) := by omega
          have g2 : (k : Int) - 2 = (q2 : Int) := by omega
          obtain ⟨z0, hz0⟩ : ∃ z, zs[k]?.getD 0 = z := ⟨_, rfl⟩
          have v0 : ∀ n, (wr.drewN n).cell? ⟨w.heap.size + 1, k, none⟩ = some (.int .u32 z0) := fun n => (HS.out.var.cell k).trans (by rw [cellsU_get _ _ (by rw [HL.out]; omega), hz0])
          have hf : ∀ n, (wr.drewN n).frozen? ⟨w.heap.size + 1, k, none⟩ = false := fun n => HS.out.var.froz k
          clear hza hzx hzb hzy hq16 hq15 hq7 hq2 hz0
          have wq16 : IntKind.i64.wrap (q16 : Int) = (q16 : Int) := by rw [IntKind.wrap_i64]; omega
          have wq15 : IntKind.i64.wrap (q15 : Int) = (q15 : Int) := by rw [IntKind.wrap_i64]; omega
          have wq7 : IntKind.i64.wrap (q7 : Int) = (q7 : Int) := by rw [IntKind.wrap_i64]; omega
          have wq2 : IntKind.i64.wrap (q2 : Int) = (q2 : Int) := by rw [IntKind.wrap_i64]; omega
          have b16 : (q16 : Int) < 64 := by omega
          have b15 : (q15 : Int) < 64 := by omega
          have b7 : (q7 : Int) < 64 := by omega
          have b2 : (q2 : Int) < 64 := by omega
          go_wp2_with fail
          go_quiet (fail)
          go_wp2_with fail
          have n16 : (⟨w.heap.size + 1, k, none⟩ : Addr) ≠ ⟨w.heap.size + 1, q16, none⟩ := fun e => by have := congrArg Addr.off e; simp at this; omega
          have n7 : (⟨w.heap.size + 1, k, none⟩ : Addr) ≠ ⟨w.heap.size + 1, q7, none⟩ := fun e => by have := congrArg Addr.off e; simp at this; omega
          go_region_held3 (fun W => W.cell? ⟨w.heap.size + 1, q16, none⟩ = some (.int .u32 za) ∧ W.cell? ⟨w.heap.size + 1, q7, none⟩ = some (.int .u32 zb))
            (first | exact ⟨va 0, vb 0⟩ | exact ⟨(World.cell?_setCell_other _ _ _ _ n16).trans (va 0), (World.cell?_setCell_other _ _ _ _ n7).trans (vb 0)⟩)
            (first | (go_at_call 89; refine (turn_r _ _ _ (by omega) (by omega)).mono ?_; rintro e wf ⟨rfl, m, rfl⟩))
          all_goals
            go_wp2_with fail
            go_roundw
            case rel => exact ⟨k + 1, zs.set k _, by omega, by omega, by go_num, by rw [List.length_set, HL.out], (HS.out.drewN _).put k _⟩
            case measure => simp [intOf]; omega
        · have hke : k = 64 := by omega
          have HSZ2 : Hid ((Tryz.prog.info? 187).map (·.size) = some (cellsU zs).size) := Lib.hid (by rw [cellsU_size, HL.out]; kernel_rfl)
          have HRW : Hid (RowU wr (w.heap.size + 1) (cellsU zs)) := Lib.hid ⟨HS.out.var.lt, HS.out.var.cell⟩
          have HS1 : Hid ((cellsU (List.replicate 64 0)).size = (cellsU zs).size) := Lib.hid (by rw [cellsU_size, cellsU_size, HL.out]; simp)
          go_wp2_with (first
            | ((with_reducible refine g_loa 187 ?_); go_must (refine wpList_load_nm rfl _ _ rfl (w.heap.size + 1) rfl (cellsU zs) HRW.out _ Tryz.underlying187 rfl HSZ2.out ?_))
            | ((with_reducible refine g_sto 187 ?_); go_must (refine wpList_store_row rfl _ _ _ rfl w.heap.size (cellsU zs) rfl rfl 187 (cellsU (List.replicate 64 0)) HS.out.res.var HSZ2.out HS1.out (cellsU_one _) ?_)))
          refine bodyPost_ret (v := .agg (cellsU zs)) (results_cell_row rfl _ _ w.heap.size _ (cellsU zs) (0, 0) _ rfl (setRow_heap _ _ _ _ _ _ HS.out.res.var) Tryz.underlying187 rfl HSZ2.out) rfl ?_
          exact ⟨zs, HL.out, rfl, below_setRow' HS.out.lo (Nat.le_refl _) _⟩
end Go.Proofs.YtbdkalpljhpnmaaGreat

/- kalendsref03.step. -/
namespace Go.Proofs.YtbdkalpljhpnmaaGreat
open Go Go.RowKit

theorem AV.rowS {b : Nat} {t : TypeId} {cs : Array Value} {W : World} (h : AV b t cs W) (ds : Array Value) : AV b t ds (W.setRow b ds) := ⟨setRow_heap _ _ _ _ _ _ h.var⟩
theorem AV.rowF {b c : Nat} {t : TypeId} {cs : Array Value} {W : World} (h : AV b t cs W) (hn : b ≠ c) (ds : Array Value) : AV b t cs (W.setRow c ds) := ⟨(setRow_other _ _ b _ hn).trans h.var⟩
theorem AV.rowU {b : Nat} {t : TypeId} {cs : Array Value} {W : World} (h : AV b t cs W) : RowU W b cs := ⟨h.lt, h.cell⟩
theorem zero8_info3 : (Tryz.prog.info? 157).map (fun i => (i.zero, i.size)) = some (some (.agg (cellsU (List.replicate 8 0))), (cellsU (List.replicate 8 0)).size) := by kernel_rfl
theorem eight3 {t : List Int} (h : t.length = 8) : ∃ a b c d e f g i, t = [a, b, c, d, e, f, g, i] := by
  match t, h with
  | [a, b, c, d, e, f, g, i], _ => exact ⟨a, b, c, d, e, f, g, i, rfl⟩
/-- The parameter and the result. -/
structure St0 (w : World) (cs : Array Value) (W : World) : Prop where
  s : AV w.heap.size 157 cs W
  r : AV (w.heap.size + 1) 157 (cellsU (List.replicate 8 0)) W
  lo : Below w.heap.size w W
theorem St0.start (w : World) (cs : Array Value) : St0 w cs ((w.alloc (.cells cs 157)).alloc (.cells (cellsU (List.replicate 8 0)) 157)) :=
  ⟨⟨heap_alloc2_old w _ _⟩, ⟨heap_alloc2_new w _ _⟩, below_trans (below_var w _) (below_var _ _)⟩
theorem St0.grow {w W W' : World} {cs : Array Value} (h : St0 w cs W) (hb : Below W.heap.size W W') : St0 w cs W' :=
  ⟨h.s.below hb, h.r.below hb, below_trans h.lo hb⟩
/-- The variables of step: the words at wb, the constants behind them, the state behind these. -/
structure StS (w : World) (wb : Nat) (cs ts ws ks : Array Value) (W : World) : Prop where
  b : St0 w cs W
  hw : w.heap.size + 2 ≤ wb
  w : AV wb 187 ws W
  k : AV (wb + 1) 187 ks W
  t : AV (wb + 2) 157 ts W
theorem StS.drewN {w W : World} {wb : Nat} {cs ts ws ks : Array Value} (h : StS w wb cs ts ws ks W) (n : Nat) : StS w wb cs ts ws ks (W.drewN n) :=
  ⟨⟨⟨h.b.s.var⟩, ⟨h.b.r.var⟩, ⟨h.b.lo.os, h.b.lo.tape, h.b.lo.output, h.b.lo.size, h.b.lo.block⟩⟩, h.hw, ⟨h.w.var⟩, ⟨h.k.var⟩, ⟨h.t.var⟩⟩
theorem StS.drew {w W : World} {wb : Nat} {cs ts ws ks : Array Value} (h : StS w wb cs ts ws ks W) : StS w wb cs ts ws ks W.drew :=
  ⟨⟨⟨h.b.s.var⟩, ⟨h.b.r.var⟩, ⟨h.b.lo.os, h.b.lo.tape, h.b.lo.output, h.b.lo.size, h.b.lo.block⟩⟩, h.hw, ⟨h.w.var⟩, ⟨h.k.var⟩, ⟨h.t.var⟩⟩
theorem StS.row {w W : World} {wb : Nat} {cs ts ws ks : Array Value} (h : StS w wb cs ts ws ks W) (ds : Array Value) : StS w wb cs ds ws ks (W.setRow (wb + 2) ds) := by
  have hw := h.hw
  exact ⟨⟨h.b.s.rowF (by omega) _, h.b.r.rowF (by omega) _, below_setRow' h.b.lo (by omega) _⟩, h.hw, h.w.rowF (by omega) _, h.k.rowF (by omega) _, h.t.rowS _⟩
theorem StS.put {w W : World} {wb : Nat} {cs ws ks : Array Value} {zs : List Int} (h : StS w wb cs (cellsU zs) ws ks W) (i : Nat) (z : Int) : StS w wb cs (cellsU (zs.set i z)) ws ks (W.setCell ⟨wb + 2, i, none⟩ (.int .u32 z)) := by
  have hw := h.hw
  exact ⟨⟨h.b.s.far (by omega) _ _, h.b.r.far (by omega) _ _, h.b.lo.setCell (p := ⟨wb + 2, i, none⟩) (show w.heap.size ≤ wb + 2 by omega) _⟩, h.hw, h.w.far (by omega) _ _, h.k.far (by omega) _ _, by rw [← cellsU_set]; exact h.t.put i _⟩
theorem StS.start {w W : World} {cs : Array Value} (h : St0 w cs W) (ws ks zs : Array Value) : StS w W.heap.size cs cs ws ks ((((((W.alloc (.cells zs 187)).alloc (.cells zs 187)).setRow W.heap.size ws).setRow (W.heap.size + 1) ks).alloc (.cells (cellsU (List.replicate 8 0)) 157)).setRow (W.heap.size + 2) cs) := by
  obtain ⟨W1, hW1⟩ : ∃ W1, W.alloc (.cells zs 187) = W1 := ⟨_, rfl⟩
  have s1 : W1.heap.size = W.heap.size + 1 := by rw [← hW1]; simp
  have b1 : Below W.heap.size W W1 := by rw [← hW1]; exact below_var W _
  have a1 : AV W.heap.size 187 zs W1 := by rw [← hW1]; exact AV.new W _ _
  rw [hW1]
  obtain ⟨W2, hW2⟩ : ∃ W2, W1.alloc (.cells zs 187) = W2 := ⟨_, rfl⟩
  have b2 : Below W1.heap.size W1 W2 := by rw [← hW2]; exact below_var W1 _
  have s2 : W2.heap.size = W.heap.size + 2 := by rw [← hW2]; simp; omega
  have a2 : AV (W.heap.size + 1) 187 zs W2 := by rw [← hW2, ← s1]; exact AV.new W1 _ _
  rw [hW2]
  obtain ⟨W3, hW3⟩ : ∃ W3, W2.setRow W.heap.size ws = W3 := ⟨_, rfl⟩
  have s3 : W3.heap.size = W.heap.size + 2 := by rw [← hW3, ← s2]; simp [World.setRow]
  have b3 : Below W.heap.size W W3 := by rw [← hW3]; exact below_setRow' (b1.trans (b2.mono (by omega))) (Nat.le_refl _) _
  have a3 : AV W.heap.size 187 ws W3 := by rw [← hW3]; exact (a1.below b2).rowS _
  have a3' : AV (W.heap.size + 1) 187 zs W3 := by rw [← hW3]; exact a2.rowF (by omega) _
  rw [hW3]
  obtain ⟨W4, hW4⟩ : ∃ W4, W3.setRow (W.heap.size + 1) ks = W4 := ⟨_, rfl⟩
  have s4 : W4.heap.size = W.heap.size + 2 := by rw [← hW4, ← s3]; simp [World.setRow]
  have b4 : Below W.heap.size W W4 := by rw [← hW4]; exact below_setRow' b3 (by omega) _
  have a4 : AV W.heap.size 187 ws W4 := by rw [← hW4]; exact a3.rowF (by omega) _
  have a4' : AV (W.heap.size + 1) 187 ks W4 := by rw [← hW4]; exact a3'.rowS _
  rw [hW4]
  have b5 := below_var W4 (.cells (cellsU (List.replicate 8 0)) 157)
  have a5 := AV.new W4 (cellsU (List.replicate 8 0)) 157
  rw [s4] at a5
  have hl := h.lo.size
  have hr := h.r.lt
  exact ⟨⟨((h.s.below b4).below b5).rowF (by have := h.s.lt; omega) _, ((h.r.below b4).below b5).rowF (by omega) _, below_setRow' (below_trans h.lo (b4.trans (b5.mono (by omega)))) (by omega) _⟩, by omega, (a4.below b5).rowF (by omega) _, (a4'.below b5).rowF (by omega) _, a5.rowS _⟩
theorem al_sz (W : World) (o : Obj) : (W.alloc o).heap.size = W.heap.size + 1 := by simp
theorem st4_size (W : World) (zs ws ks : Array Value) : ((((W.alloc (.cells zs 187)).alloc (.cells zs 187)).setRow W.heap.size ws).setRow (W.heap.size + 1) ks).heap.size = W.heap.size + 2 := by simp [World.setRow]
theorem st4_below (W : World) (zs ws ks : Array Value) : Below W.heap.size W ((((W.alloc (.cells zs 187)).alloc (.cells zs 187)).setRow W.heap.size ws).setRow (W.heap.size + 1) ks) :=
  below_setRow' (below_setRow' (below_trans (below_var W _) (below_var _ _)) (Nat.le_refl _) _) (Nat.le_succ _) _
theorem st4_row {w W : World} {cs : Array Value} (h : St0 w cs W) (zs ws ks : Array Value) : RowU ((((W.alloc (.cells zs 187)).alloc (.cells zs 187)).setRow W.heap.size ws).setRow (W.heap.size + 1) ks) w.heap.size cs := (h.s.below (st4_below W zs ws ks)).rowU
theorem st5_var (W : World) (zs ws ks cs : Array Value) : (((((W.alloc (.cells zs 187)).alloc (.cells zs 187)).setRow W.heap.size ws).setRow (W.heap.size + 1) ks).alloc (.cells cs 157)).heap[W.heap.size + 2]? = some (.cells cs 157 (0, 0)) := by
  rw [← st4_size W zs ws ks]; exact heap_alloc_last _ _
set_option maxRecDepth 10000 in
set_option maxHeartbeats 2000000 in
theorem step_r (w : World) (bb off c : Nat) (ss : List Int) (hs : ss.length = 8) (xs : List UInt8) (hx : xs.length = 64) (hb : bb < w.heap.size) (hA : ∀ j, j < 64 → w.cell? ⟨bb, off + j, none⟩ = some (Extern.Stop.cell (xs[j]?.getD 0))) :
    Calls Tryz.prog 66 #[.agg (cellsU ss), .slice (some ⟨bb, off, none⟩) 64 c] w fun e w' => ∃ zs : List Int, zs.length = 8 ∧ e = .returned (.agg (cellsU zs)) ∧ Below w.heap.size w w' := by
  obtain ⟨cs, hcs⟩ : ∃ a, cellsU ss = a := ⟨_, rfl⟩
  rw [hcs]
  have hz : cs.size = 8 := by rw [← hcs, cellsU_size, hs]
  have HCS := Lib.hid hcs
  have HSS := Lib.hid hs
  have H0 := Lib.hid (St0.start w cs)
  have HEX : Hid (∀ W, Below w.heap.size w W → Calls Tryz.prog 87 #[.slice (some ⟨bb, off, none⟩) 64 c] W fun e w' => ∃ zs : List Int, zs.length = 64 ∧ e = .returned (.agg (cellsU zs)) ∧ Below W.heap.size W w') :=
    Lib.hid fun W h => expand_r W bb off c xs hx (Nat.lt_of_lt_of_le hb h.size) fun j hj => (h.cell (p := ⟨bb, off + j, none⟩) hb).trans (hA j hj)
  have HI8 : Hid ((Tryz.prog.info? 157).map (·.size) = some cs.size) := Lib.hid (by rw [hz]; kernel_rfl)
  have HZ8 : Hid ((cellsU (List.replicate 8 0)).size = cs.size) := Lib.hid (by rw [cellsU_size, hz]; simp)
  have HC1 : Hid (cs.all (·.oneCell') = true) := Lib.hid (by rw [← hcs]; exact cellsU_one _)
  clear hx hA hcs hs hz
  go_enter Tryz.func66, Tryz.ntmps66
  go_upto_region 1 with (first
    | ((with_reducible refine g_alloc 157 ?_); go_must (refine wpList_alloc_nm rfl _ rfl (cellsU (List.replicate 8 0)) zero8_info3 ?_)))
  generalize (w.alloc (.cells cs 157)).alloc (.cells (cellsU (List.replicate 8 0)) 157) = W0 at H0 ⊢
  go_wp2_with fail
  refine (HEX.out _ H0.out.lo).mono ?_
  rintro e w1 ⟨ws, hwl, rfl, hb1⟩
  have H1 := Lib.hid (H0.out.grow hb1)
  have HWL := Lib.hid hwl
  clear hb1 H0 HEX hwl
  go_wp2_with fail
  refine (rounds_r w1).mono ?_
  rintro e w2 ⟨rfl, hb2⟩
  have H2 := Lib.hid (H1.out.grow hb2)
  clear hb2 H1
  rw [u32s_eq]
  obtain ⟨ks, hks⟩ : ∃ l, rk3 = l := ⟨_, rfl⟩
  rw [hks]
  have HKL : Hid (ks.length = 64) := Lib.hid (by rw [← hks]; rfl)
  clear hks
  have H3 := Lib.hid (StS.start H2.out (cellsU ws) (cellsU ks) (cellsU (List.replicate 64 0)))
  have HI4 : Hid ((Tryz.prog.info? 187).map (·.size) = some (cellsU ws).size) := Lib.hid (by rw [cellsU_size, HWL.out]; kernel_rfl)
  have HI5 : Hid ((Tryz.prog.info? 187).map (·.size) = some (cellsU ks).size) := Lib.hid (by rw [cellsU_size, HKL.out]; kernel_rfl)
  have HZ4 : Hid ((cellsU (List.replicate 64 0)).size = (cellsU ws).size) := Lib.hid (by rw [cellsU_size, cellsU_size, HWL.out]; simp)
  have HZ5 : Hid ((cellsU (List.replicate 64 0)).size = (cellsU ks).size) := Lib.hid (by rw [cellsU_size, cellsU_size, HKL.out]; simp)
  obtain ⟨u64, hu64⟩ : ∃ l : List Int, List.replicate 64 0 = l := ⟨_, rfl⟩
  rw [hu64] at H3 HZ4 HZ5
  have HUI : Hid ((Tryz.prog.info? 187).map (fun i => (i.zero, i.size)) = some (some (.agg (cellsU u64)), (cellsU u64).size)) := Lib.hid (by rw [← hu64]; exact zero64_info)
  clear hu64
  obtain ⟨u8, hu8⟩ : ∃ l : List Int, List.replicate 8 0 = l := ⟨_, rfl⟩
  rw [hu8] at H3 HZ8
  have HU8 : Hid ((Tryz.prog.info? 157).map (fun i => (i.zero, i.size)) = some (some (.agg (cellsU u8)), (cellsU u8).size)) := Lib.hid (by rw [← hu8]; exact zero8_info3)
  clear hu8
  go_upto_region 2 with (first
    | ((with_reducible refine g_alloc 187 ?_); go_must (refine wpList_alloc_nm rfl _ rfl (cellsU u64) HUI.out ?_))
    | ((with_reducible refine g_sto 187 ?_); go_must (first
        | (refine wpList_store_row rfl _ _ _ rfl w2.heap.size (cellsU ws) rfl rfl 187 (cellsU u64) (heap_alloc2_old w2 _ _) HI4.out HZ4.out (cellsU_one _) ?_)
        | (refine wpList_store_row rfl _ _ _ rfl (w2.heap.size + 1) (cellsU ks) (congrArg (fun b => Value.pointer (some ⟨b, 0, none⟩)) (al_sz w2 _)) rfl 187 (cellsU u64) ((setRow_other _ _ _ _ (by omega)).trans (heap_alloc2_new w2 _ _)) HI5.out HZ5.out (cellsU_one _) ?_))))
  have HR4 := Lib.hid (st4_row H2.out (cellsU u64) (cellsU ws) (cellsU ks))
  have HV5 := Lib.hid (st5_var w2 (cellsU u64) (cellsU ws) (cellsU ks) (cellsU u8))
  have HS4 := Lib.hid (st4_size w2 (cellsU u64) (cellsU ws) (cellsU ks))
  generalize ((((w2.alloc (.cells (cellsU u64) 187)).alloc (.cells (cellsU u64) 187)).setRow w2.heap.size (cellsU ws)).setRow (w2.heap.size + 1) (cellsU ks)) = W4 at H3 HR4 HV5 HS4 ⊢
  obtain ⟨wb, hwb⟩ : ∃ b, w2.heap.size = b := ⟨_, rfl⟩
  rw [hwb] at H3 HV5 HS4
  rw [al_sz w2, hwb]
  clear hwb H2 HZ4 HZ5 HUI
  go_wp2_with (first
    | ((with_reducible refine g_loa 157 ?_); go_must (refine wpList_load_nm rfl _ _ rfl w.heap.size rfl cs HR4.out _ Tryz.underlying157 rfl HI8.out ?_))
    | ((with_reducible refine g_alloc 157 ?_); go_must (refine wpList_alloc_nm rfl _ rfl (cellsU u8) HU8.out ?_))
    | ((with_reducible refine g_sto 157 ?_); go_must (refine wpList_store_row rfl _ _ _ rfl (wb + 2) cs (congrArg (fun b => Value.pointer (some ⟨b, 0, none⟩)) HS4.out) rfl 157 (cellsU u8) HV5.out HI8.out HZ8.out HC1.out ?_)))
  generalize (W4.alloc (.cells (cellsU u8) 157)).setRow (wb + 2) cs = W6 at H3 ⊢
  rw [HS4.out]
  clear HR4 HV5 HS4 HZ8 HU8
  go_loopw [8] (fun i wr => ∃ (k : Nat) (ts : List Int), k ≤ 64 ∧ i = I k ∧ ts.length = 8 ∧ StS w wb cs (cellsU ts) (cellsU ws) (cellsU ks) wr) (fun i _ => 64 - (intOf i).toNat)
  case atStart => exact ⟨0, ss, Nat.zero_le _, rfl, HSS.out, by rw [HCS.out]; exact H3.out⟩
  case round =>
    obtain ⟨k, ts, hk, rfl, htl, hs⟩ := hrel
    have HS := Lib.hid hs
    clear H3 hs
    by_cases hlt : (k : Int) < 64
    · obtain ⟨t0, t1, t2, t3, t4, t5, t6, t7, rfl⟩ := eight3 htl
      clear htl
      have c0 : wr.cell? ⟨wb + 2, 0, none⟩ = some (.int .u32 t0) := HS.out.t.cell 0
      have c4 : wr.cell? ⟨wb + 2, 4, none⟩ = some (.int .u32 t4) := HS.out.t.cell 4
      go_wp2_with fail
      go_quiet (fail)
      obtain ⟨W7, hW7⟩ : ∃ W, wr.drewN nq = W := ⟨_, rfl⟩
      rw [hW7]
      have HS7 : Hid (StS w wb cs (cellsU [t0, t1, t2, t3, t4, t5, t6, t7]) (cellsU ws) (cellsU ks) W7) := Lib.hid (by rw [← hW7]; exact HS.out.drewN nq)
      clear hW7 c0 c4 HS
      obtain ⟨wk, hwk⟩ : ∃ z, ws[k]?.getD 0 = z := ⟨_, rfl⟩
      obtain ⟨kk, hkk⟩ : ∃ z, ks[k]?.getD 0 = z := ⟨_, rfl⟩
      have cw : W7.cell? ⟨wb, k, none⟩ = some (.int .u32 wk) := (HS7.out.w.cell k).trans (by rw [cellsU_get _ _ (by rw [HWL.out]; omega), hwk])
      have ck : W7.cell? ⟨wb + 1, k, none⟩ = some (.int .u32 kk) := (HS7.out.k.cell k).trans (by rw [cellsU_get _ _ (by rw [HKL.out]; omega), hkk])
      clear hwk hkk
      have c0 : W7.cell? ⟨wb + 2, 0, none⟩ = some (.int .u32 t0) := HS7.out.t.cell 0
      have c1 : W7.cell? ⟨wb + 2, 1, none⟩ = some (.int .u32 t1) := HS7.out.t.cell 1
      have c2 : W7.cell? ⟨wb + 2, 2, none⟩ = some (.int .u32 t2) := HS7.out.t.cell 2
      have c3 : W7.cell? ⟨wb + 2, 3, none⟩ = some (.int .u32 t3) := HS7.out.t.cell 3
      have c4 : W7.cell? ⟨wb + 2, 4, none⟩ = some (.int .u32 t4) := HS7.out.t.cell 4
      have c5 : W7.cell? ⟨wb + 2, 5, none⟩ = some (.int .u32 t5) := HS7.out.t.cell 5
      have c6 : W7.cell? ⟨wb + 2, 6, none⟩ = some (.int .u32 t6) := HS7.out.t.cell 6
      have c7 : W7.cell? ⟨wb + 2, 7, none⟩ = some (.int .u32 t7) := HS7.out.t.cell 7
      go_wp2_with fail
      go_quiet ((go_at_call 89; exact turn_quiet _ _ _ _ (by omega) (by omega)))
      generalize (((t7 + bits BinOp.xor IntKind.u32 (bits BinOp.xor IntKind.u32 (turn3F t4 6) (turn3F t4 11)) (turn3F t4 25) + bits BinOp.xor IntKind.u32 (bits BinOp.and IntKind.u32 t4 t5) (bits BinOp.and IntKind.u32 ((4294967295 - t4) % 4294967296) t6) + kk) % 4294967296 + wk) % 4294967296) = X
      obtain ⟨W8, hW8⟩ : ∃ W, W7.drewN nq = W := ⟨_, rfl⟩
      rw [hW8]
      have HS8 : Hid (StS w wb cs (cellsU [t0, t1, t2, t3, t4, t5, t6, t7]) (cellsU ws) (cellsU ks) W8) := Lib.hid (by rw [← hW8]; exact HS7.out.drewN nq)
      clear hW8 c0 c1 c2 c3 c4 c5 c6 c7 cw ck HS7
      have c1 : W8.cell? ⟨wb + 2, 1, none⟩ = some (.int .u32 t1) := HS8.out.t.cell 1
      have c2 : W8.cell? ⟨wb + 2, 2, none⟩ = some (.int .u32 t2) := HS8.out.t.cell 2
      go_wp2_with fail
      go_quiet ((go_at_call 89; exact turn_quiet _ _ _ _ (by omega) (by omega)))
      generalize ((bits BinOp.xor IntKind.u32 (bits BinOp.xor IntKind.u32 (turn3F t0 2) (turn3F t0 13)) (turn3F t0 22) + bits BinOp.xor IntKind.u32 (bits BinOp.xor IntKind.u32 (bits BinOp.and IntKind.u32 t0 t1) (bits BinOp.and IntKind.u32 t0 t2)) (bits BinOp.and IntKind.u32 t1 t2)) % 4294967296) = Y
      obtain ⟨W9, hW9⟩ : ∃ W, W8.drewN nq = W := ⟨_, rfl⟩
      rw [hW9]
      have HS9 : Hid (StS w wb cs (cellsU [t0, t1, t2, t3, t4, t5, t6, t7]) (cellsU ws) (cellsU ks) W9) := Lib.hid (by rw [← hW9]; exact HS8.out.drewN nq)
      clear hW9 c1 c2 HS8
      have c0 : W9.cell? ⟨wb + 2, 0, none⟩ = some (.int .u32 t0) := HS9.out.t.cell 0
      have c1 : W9.cell? ⟨wb + 2, 1, none⟩ = some (.int .u32 t1) := HS9.out.t.cell 1
      have c2 : W9.cell? ⟨wb + 2, 2, none⟩ = some (.int .u32 t2) := HS9.out.t.cell 2
      have c3 : W9.cell? ⟨wb + 2, 3, none⟩ = some (.int .u32 t3) := HS9.out.t.cell 3
      have c4 : W9.cell? ⟨wb + 2, 4, none⟩ = some (.int .u32 t4) := HS9.out.t.cell 4
      have c5 : W9.cell? ⟨wb + 2, 5, none⟩ = some (.int .u32 t5) := HS9.out.t.cell 5
      have c6 : W9.cell? ⟨wb + 2, 6, none⟩ = some (.int .u32 t6) := HS9.out.t.cell 6
      have c7 : W9.cell? ⟨wb + 2, 7, none⟩ = some (.int .u32 t7) := HS9.out.t.cell 7
      have HI9 : Hid ((Tryz.prog.info? 157).map (·.size) = some (cellsU [(X + Y) % 4294967296, t0, t1, t2, (t3 + X) % 4294967296, t4, t5, t6]).size) := Lib.hid (by kernel_rfl)
      go_wp2_with ((with_reducible refine g_sto 157 ?_); go_must (refine wpList_store_row rfl _ _ _ rfl (wb + 2) (cellsU [(X + Y) % 4294967296, t0, t1, t2, (t3 + X) % 4294967296, t4, t5, t6]) rfl rfl 157 (cellsU [t0, t1, t2, t3, t4, t5, t6, t7]) HS9.out.t.var HI9.out rfl (cellsU_one _) ?_))
      go_roundw
      case rel => exact ⟨k + 1, _, by omega, by go_num, rfl, HS9.out.row _⟩
      case measure => simp [intOf]; omega
    · have HTL := Lib.hid htl
      clear htl
      go_wp2_with fail
      go_loopw [13] (fun i wr => ∃ (k : Nat) (zs : List Int), k ≤ 8 ∧ i = I k ∧ zs.length = 8 ∧ StS w wb cs (cellsU zs) (cellsU ws) (cellsU ks) wr) (fun i _ => 8 - (intOf i).toNat)
      case atStart => exact ⟨0, ts, Nat.zero_le _, rfl, HTL.out, HS.out⟩
      case round =>
        clear HS HTL hlt
        obtain ⟨j, zs, hj, rfl, hzl, hs⟩ := hrel
        have HS := Lib.hid hs
        have HL := Lib.hid hzl
        clear hs hzl
        by_cases hlt : (j : Int) < 8
        · obtain ⟨sj, hsj⟩ : ∃ z, ss[j]?.getD 0 = z := ⟨_, rfl⟩
          obtain ⟨tj, htj⟩ : ∃ z, zs[j]?.getD 0 = z := ⟨_, rfl⟩
          have cS : wr.cell? ⟨w.heap.size, j, none⟩ = some (.int .u32 sj) := (HS.out.b.s.cell j).trans (by rw [← HCS.out, cellsU_get _ _ (by rw [HSS.out]; omega), hsj])
          have cT : wr.cell? ⟨wb + 2, j, none⟩ = some (.int .u32 tj) := (HS.out.t.cell j).trans (by rw [cellsU_get _ _ (by rw [HL.out]; omega), htj])
          have cf := HS.out.t.froz j
          clear hsj htj
          go_wp2_with fail
          go_still_tail 9, (by kernel_rfl)
          change wpList _ _ _ _ _ wr.drew
          go_wp2_with fail
          go_roundw
          case rel => exact ⟨j + 1, zs.set j _, by omega, by go_num, by rw [List.length_set, HL.out], HS.out.drew.put j _⟩
          case measure => simp [intOf]; omega
        · have HSZ2 : Hid ((Tryz.prog.info? 157).map (·.size) = some (cellsU zs).size) := Lib.hid (by rw [cellsU_size, HL.out]; kernel_rfl)
          have HRW : Hid (RowU wr (wb + 2) (cellsU zs)) := Lib.hid HS.out.t.rowU
          have HS1 : Hid ((cellsU (List.replicate 8 0)).size = (cellsU zs).size) := Lib.hid (by rw [cellsU_size, cellsU_size, HL.out]; simp)
          go_wp2_with (first
            | ((with_reducible refine g_loa 157 ?_); go_must (refine wpList_load_nm rfl _ _ rfl (wb + 2) rfl (cellsU zs) HRW.out _ Tryz.underlying157 rfl HSZ2.out ?_))
            | ((with_reducible refine g_sto 157 ?_); go_must (refine wpList_store_row rfl _ _ _ rfl (w.heap.size + 1) (cellsU zs) rfl rfl 157 (cellsU (List.replicate 8 0)) HS.out.b.r.var HSZ2.out HS1.out (cellsU_one _) ?_)))
          refine bodyPost_ret (v := .agg (cellsU zs)) (results_cell_row rfl _ _ (w.heap.size + 1) _ (cellsU zs) (0, 0) _ rfl (setRow_heap _ _ _ _ _ _ HS.out.b.r.var) Tryz.underlying157 rfl HSZ2.out) rfl ?_
          exact ⟨zs, HL.out, rfl, below_setRow' HS.out.b.lo (Nat.le_succ _) _⟩
end Go.Proofs.YtbdkalpljhpnmaaGreat

/- kalendsref14.zone. -/
namespace Go.Proofs.YtbdkalpljhpnmaaGreat
open Go Go.RowKit

def trE (t : Tr) : List UInt8 := le t.at_ 8 ++ le t.off 2
def yrE (y : Yr) : List UInt8 := le y.month 1 ++ (le y.week 1 ++ (le y.wday 1 ++ (le y.minute 2 ++ le y.off 2)))
def zn14 (z : Zn) : List UInt8 := cal14 z.cal ++ (le z.start 2 ++ (le z.trans.length 2 ++ (z.trans.flatMap trE ++ (le z.hor 8 ++ (le z.yearly.length 1 ++ z.yearly.flatMap yrE)))))
structure Y14 (y : Yr) : Prop where
  month : fits y.month
  week : fits y.week
  wday : fits y.wday
  minute : fits y.minute
  off : fits y.off
structure Z14 (z : Zn) : Prop where
  cal : C14 z.cal
  start : fits z.start
  tl : z.trans.length ≤ 1000
  tr : ∀ x ∈ z.trans, fits x.at_ ∧ fits x.off
  hor : fits z.hor
  yl : z.yearly.length ≤ 1000
  yr : ∀ y ∈ z.yearly, Y14 y
theorem trE_len (t : Tr) : (trE t).length = 10 := by simp [trE, le_length]
theorem yrE_len (y : Yr) : (yrE y).length = 7 := by simp [yrE, le_length]
theorem cal14_len (c : Cal) (h : C14 c) : (cal14 c).length ≤ 7000 := by
  have g := flat_bound (le · 1) c.months 1 c.months.length (fun _ => le_length _ _)
  have g2 := flat_bound lrB c.rules 5 c.rules.length lrB_len
  rw [List.take_length] at g g2
  have h1 := h.mo
  have h2 := h.ru
  simp only [cal14, List.length_append, le_length]
  omega
theorem CB.grow {lo n c : Nat} {v0 : Value} {A : Option Addr} {w W W' : World} {cs : Array Value} {bs : List UInt8} (h : CB lo v0 w cs bs A n c W) (hb : Below W.heap.size W W') : CB lo v0 w cs bs A n c W' :=
  ⟨h.row.keep hb, BsO.below h.own hb, h.len, h.keep.below hb, h.far⟩
theorem CB.ownlt {lo n c : Nat} {v0 : Value} {A : Option Addr} {w W : World} {cs : Array Value} {bs : List UInt8} (h : CB lo v0 w cs bs A n c W) (b : Nat) (hb : W.heap.size ≤ b) : some b ≠ (Value.slice A n c).ownBlock := fun e => by have := (World.ownsRow.lt h.own _ e.symm).2; omega
/-- A row that is not the list's. -/
def FarR (b : Nat) (cs : Array Value) (v : Value) (W : World) : Prop := Row W b cs ∧ some b ≠ v.ownBlock
theorem FarR.next {b : Nat} {cs : Array Value} {v v' : Value} {W W' : World} (h : FarR b cs v W) (hk : RwK v W v' W') : FarR b cs v' W' := by
  have hlt := h.1.1
  refine ⟨⟨Nat.lt_of_lt_of_le hlt hk.size, fun i => (World.cell?_of_block (a := ⟨b, i, none⟩) (hk.block _ hlt h.2)).trans (h.1.2 i)⟩, ?_⟩
  rcases hk.own with e | ⟨g, e, hb⟩
  · rw [e]; exact h.2
  · rw [e]; intro h'; injection h' with h'; omega
set_option maxRecDepth 10000 in
set_option maxHeartbeats 2000000 in
theorem zone14_r (lo n c0 : Nat) (A0 : Option Addr) (bs : List UInt8) (z : Zn) (s : Zs) (w : World) (hl : bs.length = n) (hn : n ≤ 50000) (hc : Z14 z) (hm : ZnAt w lo s z) (hlo : lo ≤ w.heap.size) (hO : BsO lo w A0 n c0 bs) :
    Calls Tryz.prog 48 #[.slice A0 n c0, .agg (znCells z s)] w (BsQ lo (.slice A0 n c0) w (bs ++ zn14 z)) := by
  have HCAL : Hid (Calls Tryz.prog 64 #[.slice A0 n c0, .agg (calCells z.cal s.A s.a s.B s.b)] (w.alloc (.cells (znCells z s) 41)) (BsQ lo (.slice A0 n c0) (w.alloc (.cells (znCells z s) 41)) (bs ++ cal14 z.cal))) := Lib.hid (calendar_r lo n c0 A0 bs z.cal s.A s.B s.a s.b _ hl (by omega) hc.cal ⟨(hm.months.keep ((below_var w _).mono hlo)), (hm.rules.keep ((below_var w _).mono hlo))⟩ (by simp; omega) (BsO.below hO (below_var w _)))
  have hcb := cal14_len z.cal hc.cal
  obtain ⟨cb, hcbe⟩ : ∃ l, cal14 z.cal = l := ⟨_, rfl⟩
  rw [hcbe] at HCAL hcb
  obtain ⟨⟨ep, mo, lp, ru⟩, st, tr, ho, yr⟩ := z
  obtain ⟨A, a, R, r, C, cc, D, dd⟩ := s
  obtain ⟨_, x1, x2, x3, x4, x5, x6⟩ := hc
  obtain ⟨_, _, y0, y1⟩ := hm
  simp only at x1 x2 x3 x4 x5 x6 y0 y1
  unfold zn14
  rw [hcbe]
  unfold znCells calCells at HCAL
  unfold znCells
  simp only at HCAL ⊢
  obtain ⟨nm, hnm⟩ : ∃ n, mo.length = n := ⟨_, rfl⟩
  obtain ⟨nr, hnr⟩ : ∃ n, ru.length = n := ⟨_, rfl⟩
  obtain ⟨nt, hnt⟩ : ∃ n, tr.length = n := ⟨_, rfl⟩
  obtain ⟨ny, hny⟩ : ∃ n, yr.length = n := ⟨_, rfl⟩
  have FM := Lib.hid (fun k => flat_bound trE tr 10 k trE_len)
  have FR := Lib.hid (fun k => flat_bound yrE yr 7 k yrE_len)
  have HX3 := Lib.hid x3
  have HX6 := Lib.hid x6
  have HY0 := Lib.hid y0
  have HY1 := Lib.hid y1
  have HO0 := Lib.hid hO
  have HNT := Lib.hid hnt
  have HNY := Lib.hid hny
  rw [hnm, hnr] at HCAL ⊢
  rw [hnt] at x2 FM HCAL ⊢
  rw [hny] at x5 FR HCAL ⊢
  have HB := Lib.hid (CB.start #[I ep, .slice A nm a, I lp, .slice R nr r, I st, .slice C nt cc, I ho, .slice D ny dd] 41 hO hl)
  clear x3 x6 y0 y1 hO hnm hnr hnt hny hcbe
  go_enter Tryz.func48, Tryz.ntmps48
  go_wp2_with fail
  refine HCAL.out.mono ?_
  rintro e w0 ⟨A1, n1, c1, l1, rfl, o1, k1⟩
  have H0 := Lib.hid (HB.out.next o1 l1 k1)
  clear l1 o1 k1 HCAL
  have q0 : (w0).cell? ⟨w.heap.size, 0, none⟩ = some (I ep) := H0.out.row.2 0
  have q1 : (w0).cell? ⟨w.heap.size, 1, none⟩ = some (.slice A nm a) := H0.out.row.2 1
  have q2 : (w0).cell? ⟨w.heap.size, 2, none⟩ = some (I lp) := H0.out.row.2 2
  have q3 : (w0).cell? ⟨w.heap.size, 3, none⟩ = some (.slice R nr r) := H0.out.row.2 3
  have q4 : (w0).cell? ⟨w.heap.size, 4, none⟩ = some (I st) := H0.out.row.2 4
  have q5 : (w0).cell? ⟨w.heap.size, 5, none⟩ = some (.slice C nt cc) := H0.out.row.2 5
  have q6 : (w0).cell? ⟨w.heap.size, 6, none⟩ = some (I ho) := H0.out.row.2 6
  have q7 : (w0).cell? ⟨w.heap.size, 7, none⟩ = some (.slice D ny dd) := H0.out.row.2 7
  go_wp2_with fail
  refine (number_r lo _ _ 2 _ _ st _ H0.out.len (by have h := H0.out.len; (try simp only [List.length_append] at h); omega) (by omega) x1 (Nat.le_trans hlo H0.out.keep.size) H0.out.own).mono ?_
  rintro e w2 ⟨A2, n2, c2, l1, rfl, o1, k1⟩
  have H1 := Lib.hid (H0.out.next o1 l1 k1)
  clear l1 o1 k1
  clear q0 q1 q2 q3 q4 q5 q6 q7
  have q0 : (w2).cell? ⟨w.heap.size, 0, none⟩ = some (I ep) := H1.out.row.2 0
  have q1 : (w2).cell? ⟨w.heap.size, 1, none⟩ = some (.slice A nm a) := H1.out.row.2 1
  have q2 : (w2).cell? ⟨w.heap.size, 2, none⟩ = some (I lp) := H1.out.row.2 2
  have q3 : (w2).cell? ⟨w.heap.size, 3, none⟩ = some (.slice R nr r) := H1.out.row.2 3
  have q4 : (w2).cell? ⟨w.heap.size, 4, none⟩ = some (I st) := H1.out.row.2 4
  have q5 : (w2).cell? ⟨w.heap.size, 5, none⟩ = some (.slice C nt cc) := H1.out.row.2 5
  have q6 : (w2).cell? ⟨w.heap.size, 6, none⟩ = some (I ho) := H1.out.row.2 6
  have q7 : (w2).cell? ⟨w.heap.size, 7, none⟩ = some (.slice D ny dd) := H1.out.row.2 7
  go_wp2_with fail
  refine (number_r lo _ _ 2 _ _ nt _ H1.out.len (by have h := H1.out.len; (try simp only [List.length_append, le_length] at h); omega) (by omega) ⟨by omega, by omega⟩ (Nat.le_trans hlo H1.out.keep.size) H1.out.own).mono ?_
  rintro e w3 ⟨A3, n3, c3, l1, rfl, o1, k1⟩
  have H2 := Lib.hid (H1.out.next o1 l1 k1)
  clear l1 o1 k1
  clear q0 q1 q2 q3 q4 q5 q6 q7
  have q0 : (w3).cell? ⟨w.heap.size, 0, none⟩ = some (I ep) := H2.out.row.2 0
  have q1 : (w3).cell? ⟨w.heap.size, 1, none⟩ = some (.slice A nm a) := H2.out.row.2 1
  have q2 : (w3).cell? ⟨w.heap.size, 2, none⟩ = some (I lp) := H2.out.row.2 2
  have q3 : (w3).cell? ⟨w.heap.size, 3, none⟩ = some (.slice R nr r) := H2.out.row.2 3
  have q4 : (w3).cell? ⟨w.heap.size, 4, none⟩ = some (I st) := H2.out.row.2 4
  have q5 : (w3).cell? ⟨w.heap.size, 5, none⟩ = some (.slice C nt cc) := H2.out.row.2 5
  have q6 : (w3).cell? ⟨w.heap.size, 6, none⟩ = some (I ho) := H2.out.row.2 6
  have q7 : (w3).cell? ⟨w.heap.size, 7, none⟩ = some (.slice D ny dd) := H2.out.row.2 7
  go_wp2_with fail
  go_loopw [0, 5] (fun b i wr => CRel lo (.slice A0 n c0) w #[I ep, .slice A nm a, I lp, .slice R nr r, I st, .slice C nt cc, I ho, .slice D ny dd] (fun k => bs ++ cb ++ le st 2 ++ le nt 2 ++ (tr.take k).flatMap trE) nt b i wr) (fun _ i _ => nt - (intOf i).toNat)
  case atStart => exact ⟨0, n3, c3, A3, Nat.zero_le _, rfl, by go_num, by simpa using H2.out⟩
  case round =>
    obtain ⟨k, n4, c4, A4, hk, rfl, rfl, hb3⟩ := hrel
    have HB3 := Lib.hid hb3
    clear hb3 q0 q1 q2 q3 q4 q5 q6 q7
    have q0 : (wr).cell? ⟨w.heap.size, 0, none⟩ = some (I ep) := HB3.out.row.2 0
    have q1 : (wr).cell? ⟨w.heap.size, 1, none⟩ = some (.slice A nm a) := HB3.out.row.2 1
    have q2 : (wr).cell? ⟨w.heap.size, 2, none⟩ = some (I lp) := HB3.out.row.2 2
    have q3 : (wr).cell? ⟨w.heap.size, 3, none⟩ = some (.slice R nr r) := HB3.out.row.2 3
    have q4 : (wr).cell? ⟨w.heap.size, 4, none⟩ = some (I st) := HB3.out.row.2 4
    have q5 : (wr).cell? ⟨w.heap.size, 5, none⟩ = some (.slice C nt cc) := HB3.out.row.2 5
    have q6 : (wr).cell? ⟨w.heap.size, 6, none⟩ = some (I ho) := HB3.out.row.2 6
    have q7 : (wr).cell? ⟨w.heap.size, 7, none⟩ = some (.slice D ny dd) := HB3.out.row.2 7
    by_cases hlt : (k : Int) < (nt : Int)
    · obtain ⟨b, off, rfl, hbo, hcl⟩ := HY0.out.there (by rw [flat_len (s := 2) Tr.cells tr (fun _ _ => rfl), HNT.out]; omega)
      have hx : tr[k]? = some (tr[k]'(by rw [HNT.out]; omega)) := List.getElem?_eq_getElem _
      obtain ⟨x, hxx⟩ : ∃ x, tr[k]'(by rw [HNT.out]; omega) = x := ⟨_, rfl⟩
      rw [hxx] at hx
      have HRC : Hid (∀ i u, x.cells[i]? = some u → w.cell? ⟨b, off + k * 2 + i, none⟩ = some u) := Lib.hid (fun i u hu => by rw [Nat.add_assoc]; exact hcl _ _ (by rw [flat_get (s := 2) Tr.cells tr (fun _ _ => rfl) k i x hx (by have := (List.getElem?_eq_some_iff.1 hu).1; simpa [Tr.cells] using this)]; exact hu))
      have HX := Lib.hid hx
      have hfx := HX3.out x (List.mem_of_getElem? hx)
      clear hcl hx hxx
      have z0 : (wr).cell? ⟨b, off + k * 2, none⟩ = some (I x.at_) := ((HB3.out.low HO0.out hlo).cell (p := ⟨b, off + k * 2, none⟩) hbo).trans (HRC.out 0 _ rfl)
      have z1 : (wr).cell? ⟨b, off + k * 2 + 1, none⟩ = some (I x.off) := ((HB3.out.low HO0.out hlo).cell (p := ⟨b, off + k * 2 + 1, none⟩) hbo).trans (HRC.out 1 _ rfl)
      go_wp2_with fail
      refine (number_r lo _ _ 8 _ _ x.at_ _ HB3.out.len (by have h := HB3.out.len; have g := FM.out k; (try simp only [List.length_append, le_length] at h); omega) (by omega) hfx.1 (Nat.le_trans hlo HB3.out.keep.size) HB3.out.own).mono ?_
      rintro e w5 ⟨A5, n5, c5, l1, rfl, o1, k1⟩
      have H4 := Lib.hid (HB3.out.next o1 l1 k1)
      clear l1 o1 k1
      clear q0 q1 q2 q3 q4 q5 q6 q7
      clear z0 z1
      have q0 : (w5).cell? ⟨w.heap.size, 0, none⟩ = some (I ep) := H4.out.row.2 0
      have q1 : (w5).cell? ⟨w.heap.size, 1, none⟩ = some (.slice A nm a) := H4.out.row.2 1
      have q2 : (w5).cell? ⟨w.heap.size, 2, none⟩ = some (I lp) := H4.out.row.2 2
      have q3 : (w5).cell? ⟨w.heap.size, 3, none⟩ = some (.slice R nr r) := H4.out.row.2 3
      have q4 : (w5).cell? ⟨w.heap.size, 4, none⟩ = some (I st) := H4.out.row.2 4
      have q5 : (w5).cell? ⟨w.heap.size, 5, none⟩ = some (.slice (some ⟨b, off, none⟩) nt cc) := H4.out.row.2 5
      have q6 : (w5).cell? ⟨w.heap.size, 6, none⟩ = some (I ho) := H4.out.row.2 6
      have q7 : (w5).cell? ⟨w.heap.size, 7, none⟩ = some (.slice D ny dd) := H4.out.row.2 7
      have z0 : (w5).cell? ⟨b, off + k * 2, none⟩ = some (I x.at_) := ((H4.out.low HO0.out hlo).cell (p := ⟨b, off + k * 2, none⟩) hbo).trans (HRC.out 0 _ rfl)
      have z1 : (w5).cell? ⟨b, off + k * 2 + 1, none⟩ = some (I x.off) := ((H4.out.low HO0.out hlo).cell (p := ⟨b, off + k * 2 + 1, none⟩) hbo).trans (HRC.out 1 _ rfl)
      go_wp2_with fail
      refine (number_r lo _ _ 2 _ _ x.off _ H4.out.len (by have h := H4.out.len; have g := FM.out k; (try simp only [List.length_append, le_length] at h); omega) (by omega) hfx.2 (Nat.le_trans hlo H4.out.keep.size) H4.out.own).mono ?_
      rintro e w6 ⟨A6, n6, c6, l1, rfl, o1, k1⟩
      have H5 := Lib.hid (H4.out.next o1 l1 k1)
      clear l1 o1 k1
      go_wp2_with fail
      go_roundw
      case rel => exact ⟨k + 1, n6, c6, A6, by omega, rfl, by go_num, by show CB _ _ _ _ (_ ++ (tr.take (k + 1)).flatMap trE) _ _ _ _; rw [flat_snoc _ _ _ _ HX.out, ← List.append_assoc]; simpa [trE, List.append_assoc] using H5.out⟩
      case measure => simp [intOf]; omega
    · have hk2 : k = nt := by omega
      subst hk2
      clear hlt
      go_wp2_with fail
      refine (number_r lo _ _ 8 _ _ ho _ HB3.out.len (by have h := HB3.out.len; have g := FM.out k; (try simp only [List.length_append, le_length] at h); omega) (by omega) x4 (Nat.le_trans hlo HB3.out.keep.size) HB3.out.own).mono ?_
      rintro e w5 ⟨A5, n5, c5, l1, rfl, o1, k1⟩
      have H5 := Lib.hid (HB3.out.next o1 l1 k1)
      clear l1 o1 k1
      clear q0 q1 q2 q3 q4 q5 q6 q7
      have q0 : (w5).cell? ⟨w.heap.size, 0, none⟩ = some (I ep) := H5.out.row.2 0
      have q1 : (w5).cell? ⟨w.heap.size, 1, none⟩ = some (.slice A nm a) := H5.out.row.2 1
      have q2 : (w5).cell? ⟨w.heap.size, 2, none⟩ = some (I lp) := H5.out.row.2 2
      have q3 : (w5).cell? ⟨w.heap.size, 3, none⟩ = some (.slice R nr r) := H5.out.row.2 3
      have q4 : (w5).cell? ⟨w.heap.size, 4, none⟩ = some (I st) := H5.out.row.2 4
      have q5 : (w5).cell? ⟨w.heap.size, 5, none⟩ = some (.slice C k cc) := H5.out.row.2 5
      have q6 : (w5).cell? ⟨w.heap.size, 6, none⟩ = some (I ho) := H5.out.row.2 6
      have q7 : (w5).cell? ⟨w.heap.size, 7, none⟩ = some (.slice D ny dd) := H5.out.row.2 7
      go_wp2_with fail
      refine (number_r lo _ _ 1 _ _ ny _ H5.out.len (by have h := H5.out.len; have g := FM.out k; (try simp only [List.length_append, le_length] at h); omega) (by omega) ⟨by omega, by omega⟩ (Nat.le_trans hlo H5.out.keep.size) H5.out.own).mono ?_
      rintro e w6 ⟨A6, n6, c6, l1, rfl, o1, k1⟩
      have H6 := Lib.hid (H5.out.next o1 l1 k1)
      clear l1 o1 k1
      clear q0 q1 q2 q3 q4 q5 q6 q7
      have q0 : (w6).cell? ⟨w.heap.size, 0, none⟩ = some (I ep) := H6.out.row.2 0
      have q1 : (w6).cell? ⟨w.heap.size, 1, none⟩ = some (.slice A nm a) := H6.out.row.2 1
      have q2 : (w6).cell? ⟨w.heap.size, 2, none⟩ = some (I lp) := H6.out.row.2 2
      have q3 : (w6).cell? ⟨w.heap.size, 3, none⟩ = some (.slice R nr r) := H6.out.row.2 3
      have q4 : (w6).cell? ⟨w.heap.size, 4, none⟩ = some (I st) := H6.out.row.2 4
      have q5 : (w6).cell? ⟨w.heap.size, 5, none⟩ = some (.slice C k cc) := H6.out.row.2 5
      have q6 : (w6).cell? ⟨w.heap.size, 6, none⟩ = some (I ho) := H6.out.row.2 6
      have q7 : (w6).cell? ⟨w.heap.size, 7, none⟩ = some (.slice D ny dd) := H6.out.row.2 7
      go_wp2_with fail
      go_loopw [0, 6] (fun b i wr => CRel lo (.slice A0 n c0) w #[I ep, .slice A nm a, I lp, .slice R nr r, I st, .slice C k cc, I ho, .slice D ny dd] (fun j => (bs ++ cb ++ le st 2 ++ le k 2 ++ (tr.take k).flatMap trE) ++ le ho 8 ++ le ny 1 ++ (yr.take j).flatMap yrE) ny b i wr) (fun _ i _ => ny - (intOf i).toNat)
      case atStart => exact ⟨0, n6, c6, A6, Nat.zero_le _, rfl, by go_num, by simpa using H6.out⟩
      case round =>
        obtain ⟨j, n7, c7, A7, hj, rfl, rfl, hb7⟩ := hrel
        have HB7 := Lib.hid hb7
        clear hb7 q0 q1 q2 q3 q4 q5 q6 q7
        have q0 : (wr).cell? ⟨w.heap.size, 0, none⟩ = some (I ep) := HB7.out.row.2 0
        have q1 : (wr).cell? ⟨w.heap.size, 1, none⟩ = some (.slice A nm a) := HB7.out.row.2 1
        have q2 : (wr).cell? ⟨w.heap.size, 2, none⟩ = some (I lp) := HB7.out.row.2 2
        have q3 : (wr).cell? ⟨w.heap.size, 3, none⟩ = some (.slice R nr r) := HB7.out.row.2 3
        have q4 : (wr).cell? ⟨w.heap.size, 4, none⟩ = some (I st) := HB7.out.row.2 4
        have q5 : (wr).cell? ⟨w.heap.size, 5, none⟩ = some (.slice C k cc) := HB7.out.row.2 5
        have q6 : (wr).cell? ⟨w.heap.size, 6, none⟩ = some (I ho) := HB7.out.row.2 6
        have q7 : (wr).cell? ⟨w.heap.size, 7, none⟩ = some (.slice D ny dd) := HB7.out.row.2 7
        by_cases hlt : (j : Int) < (ny : Int)
        · obtain ⟨b, off, rfl, hbo, hcl⟩ := HY1.out.there (by rw [flat_len (s := 5) Yr.cells yr (fun _ _ => rfl), HNY.out]; omega)
          have hx : yr[j]? = some (yr[j]'(by rw [HNY.out]; omega)) := List.getElem?_eq_getElem _
          obtain ⟨x, hxx⟩ : ∃ x, yr[j]'(by rw [HNY.out]; omega) = x := ⟨_, rfl⟩
          rw [hxx] at hx
          have HRC : Hid (∀ i u, x.cells[i]? = some u → w.cell? ⟨b, off + j * 5 + i, none⟩ = some u) := Lib.hid (fun i u hu => by rw [Nat.add_assoc]; exact hcl _ _ (by rw [flat_get (s := 5) Yr.cells yr (fun _ _ => rfl) j i x hx (by have := (List.getElem?_eq_some_iff.1 hu).1; simpa [Yr.cells] using this)]; exact hu))
          have HX := Lib.hid hx
          have hfx := HX6.out x (List.mem_of_getElem? hx)
          clear hcl hx hxx
          have z0 : (wr).cell? ⟨b, off + j * 5, none⟩ = some (I x.month) := ((HB7.out.low HO0.out hlo).cell (p := ⟨b, off + j * 5, none⟩) hbo).trans (HRC.out 0 _ rfl)
          have z1 : (wr).cell? ⟨b, off + j * 5 + 1, none⟩ = some (I x.week) := ((HB7.out.low HO0.out hlo).cell (p := ⟨b, off + j * 5 + 1, none⟩) hbo).trans (HRC.out 1 _ rfl)
          have z2 : (wr).cell? ⟨b, off + j * 5 + 2, none⟩ = some (I x.wday) := ((HB7.out.low HO0.out hlo).cell (p := ⟨b, off + j * 5 + 2, none⟩) hbo).trans (HRC.out 2 _ rfl)
          have z3 : (wr).cell? ⟨b, off + j * 5 + 3, none⟩ = some (I x.minute) := ((HB7.out.low HO0.out hlo).cell (p := ⟨b, off + j * 5 + 3, none⟩) hbo).trans (HRC.out 3 _ rfl)
          have z4 : (wr).cell? ⟨b, off + j * 5 + 4, none⟩ = some (I x.off) := ((HB7.out.low HO0.out hlo).cell (p := ⟨b, off + j * 5 + 4, none⟩) hbo).trans (HRC.out 4 _ rfl)
          go_wp2_with fail
          obtain ⟨W0, hW0⟩ : ∃ W0, W0 = wr.alloc (.cells #[I x.month, I x.week, I x.wday, I x.minute, I x.off] 80) := ⟨_, rfl⟩
          have hbw : Below wr.heap.size wr W0 := by rw [hW0]; exact below_var wr _
          have H8 := Lib.hid (HB7.out.grow hbw)
          have F8 : Hid (FarR wr.heap.size #[I x.month, I x.week, I x.wday, I x.minute, I x.off] (.slice A7 n7 c7) W0) := Lib.hid ⟨by rw [hW0]; exact Row.new wr _ _, HB7.out.ownlt _ (Nat.le_refl _)⟩
          rw [← hW0]
          refine (number_r lo _ _ 1 _ _ x.month _ H8.out.len (by have h := H8.out.len; have g := FM.out k; have g2 := FR.out j; (try simp only [List.length_append, le_length] at h); omega) (by omega) hfx.month (Nat.le_trans hlo H8.out.keep.size) H8.out.own).mono ?_
          rintro e w9 ⟨A9, n9, c9, l1, rfl, o1, k1⟩
          have H9 := Lib.hid (H8.out.next o1 l1 k1)
          have F9 := Lib.hid (F8.out.next k1)
          clear l1 o1 k1
          have y0 : (w9).cell? ⟨wr.heap.size, 0, none⟩ = some (I x.month) := F9.out.1.2 0
          have y1 : (w9).cell? ⟨wr.heap.size, 1, none⟩ = some (I x.week) := F9.out.1.2 1
          have y2 : (w9).cell? ⟨wr.heap.size, 2, none⟩ = some (I x.wday) := F9.out.1.2 2
          have y3 : (w9).cell? ⟨wr.heap.size, 3, none⟩ = some (I x.minute) := F9.out.1.2 3
          have y4 : (w9).cell? ⟨wr.heap.size, 4, none⟩ = some (I x.off) := F9.out.1.2 4
          go_wp2_with fail
          refine (number_r lo _ _ 1 _ _ x.week _ H9.out.len (by have h := H9.out.len; have g := FM.out k; have g2 := FR.out j; (try simp only [List.length_append, le_length] at h); omega) (by omega) hfx.week (Nat.le_trans hlo H9.out.keep.size) H9.out.own).mono ?_
          rintro e w10 ⟨A10, n10, c10, l1, rfl, o1, k1⟩
          have H10 := Lib.hid (H9.out.next o1 l1 k1)
          have F10 := Lib.hid (F9.out.next k1)
          clear l1 o1 k1
          clear y0 y1 y2 y3 y4
          have y0 : (w10).cell? ⟨wr.heap.size, 0, none⟩ = some (I x.month) := F10.out.1.2 0
          have y1 : (w10).cell? ⟨wr.heap.size, 1, none⟩ = some (I x.week) := F10.out.1.2 1
          have y2 : (w10).cell? ⟨wr.heap.size, 2, none⟩ = some (I x.wday) := F10.out.1.2 2
          have y3 : (w10).cell? ⟨wr.heap.size, 3, none⟩ = some (I x.minute) := F10.out.1.2 3
          have y4 : (w10).cell? ⟨wr.heap.size, 4, none⟩ = some (I x.off) := F10.out.1.2 4
          go_wp2_with fail
          refine (number_r lo _ _ 1 _ _ x.wday _ H10.out.len (by have h := H10.out.len; have g := FM.out k; have g2 := FR.out j; (try simp only [List.length_append, le_length] at h); omega) (by omega) hfx.wday (Nat.le_trans hlo H10.out.keep.size) H10.out.own).mono ?_
          rintro e w11 ⟨A11, n11, c11, l1, rfl, o1, k1⟩
          have H11 := Lib.hid (H10.out.next o1 l1 k1)
          have F11 := Lib.hid (F10.out.next k1)
          clear l1 o1 k1
          clear y0 y1 y2 y3 y4
          have y0 : (w11).cell? ⟨wr.heap.size, 0, none⟩ = some (I x.month) := F11.out.1.2 0
          have y1 : (w11).cell? ⟨wr.heap.size, 1, none⟩ = some (I x.week) := F11.out.1.2 1
          have y2 : (w11).cell? ⟨wr.heap.size, 2, none⟩ = some (I x.wday) := F11.out.1.2 2
          have y3 : (w11).cell? ⟨wr.heap.size, 3, none⟩ = some (I x.minute) := F11.out.1.2 3
          have y4 : (w11).cell? ⟨wr.heap.size, 4, none⟩ = some (I x.off) := F11.out.1.2 4
          go_wp2_with fail
          refine (number_r lo _ _ 2 _ _ x.minute _ H11.out.len (by have h := H11.out.len; have g := FM.out k; have g2 := FR.out j; (try simp only [List.length_append, le_length] at h); omega) (by omega) hfx.minute (Nat.le_trans hlo H11.out.keep.size) H11.out.own).mono ?_
          rintro e w12 ⟨A12, n12, c12, l1, rfl, o1, k1⟩
          have H12 := Lib.hid (H11.out.next o1 l1 k1)
          have F12 := Lib.hid (F11.out.next k1)
          clear l1 o1 k1
          clear y0 y1 y2 y3 y4
          have y0 : (w12).cell? ⟨wr.heap.size, 0, none⟩ = some (I x.month) := F12.out.1.2 0
          have y1 : (w12).cell? ⟨wr.heap.size, 1, none⟩ = some (I x.week) := F12.out.1.2 1
          have y2 : (w12).cell? ⟨wr.heap.size, 2, none⟩ = some (I x.wday) := F12.out.1.2 2
          have y3 : (w12).cell? ⟨wr.heap.size, 3, none⟩ = some (I x.minute) := F12.out.1.2 3
          have y4 : (w12).cell? ⟨wr.heap.size, 4, none⟩ = some (I x.off) := F12.out.1.2 4
          go_wp2_with fail
          refine (number_r lo _ _ 2 _ _ x.off _ H12.out.len (by have h := H12.out.len; have g := FM.out k; have g2 := FR.out j; (try simp only [List.length_append, le_length] at h); omega) (by omega) hfx.off (Nat.le_trans hlo H12.out.keep.size) H12.out.own).mono ?_
          rintro e w13 ⟨A13, n13, c13, l1, rfl, o1, k1⟩
          have H13 := Lib.hid (H12.out.next o1 l1 k1)
          have F13 := Lib.hid (F12.out.next k1)
          clear l1 o1 k1
          go_wp2_with fail
          go_roundw
          case rel => exact ⟨j + 1, n13, c13, A13, by omega, rfl, by go_num, by show CB _ _ _ _ (_ ++ (yr.take (j + 1)).flatMap yrE) _ _ _ _; rw [flat_snoc _ _ _ _ HX.out, ← List.append_assoc]; simpa [yrE, List.append_assoc] using H13.out⟩
          case measure => simp [intOf]; omega
        · have hj2 : j = ny := by omega
          have HJ := Lib.hid hj2
          clear hj2
          go_wp2_with fail
          go_ret
          have hb := HB7.out
          rw [HJ.out, List.take_of_length_le (Nat.le_of_eq HNY.out), List.take_of_length_le (Nat.le_of_eq HNT.out)] at hb
          refine ⟨A7, n7, c7, ?_, rfl, ?_, hb.keep⟩
          · rw [← hb.len]; simp [List.append_assoc]
          · have := hb.own; simpa [HNT.out, HNY.out, List.append_assoc] using this
end Go.Proofs.YtbdkalpljhpnmaaGreat

/- made tables; kalendsref14.validHead, Valid. -/
namespace Go.Proofs.YtbdkalpljhpnmaaGreat
open Go Go.RowKit

/-- The names of a made table's zones. -/
def zname (k : Nat) : ByteArray := ⟨#[122, (97 + k).toUInt8]⟩
theorem zname_size (k : Nat) : (zname k).size = 2 := rfl
def prevName : Nat → ByteArray
  | 0 => ⟨#[]⟩
  | k + 1 => zname k
theorem zname_up : ∀ k, k < 3 → (Op.bytesLess (zname k).toList (prevName k).toList = false ∧ ((zname k).toList == (prevName k).toList) = false) := by decide +kernel
/-- A made zone that is in order. -/
structure ZnV0 (z : Zn) : Prop where
  made : ZnM z
  ok : rvF z = 0
theorem rvF_nil (z : Zn) (h : z.yearly = []) : rvF z = 0 := by
  have e1 : ysF z = [] := by unfold ysF; rw [h]
  unfold rvF lateF
  rw [e1]
  simp [gapsF, afterF]
theorem madeZn_ok (x : RwZ) : ZnV0 (madeZn x) := by
  refine ⟨madeZn_M x, ?_⟩
  unfold madeZn
  split
  · rename_i h
    exact h.2
  · exact rvF_nil _ rfl
theorem ZnM.z14 {z : Zn} (h : ZnM z) : Z14 z := by
  obtain ⟨hc, hs, hh, hl, ht, _, hy⟩ := h
  refine ⟨⟨⟨by have := hc.ep; omega, by have := hc.ep; omega⟩, by rw [hc.mo]; omega, fun x hx => ⟨by have := hc.all x hx; omega, by have := hc.all x hx; omega⟩, ⟨hc.le.1, by have := hc.le; omega⟩, by have := hc.ru; omega, fun r hr => ?_⟩, ⟨by omega, by omega⟩, by omega, fun x hx => ?_, ⟨by omega, by omega⟩, ?_, fun y hm => ?_⟩
  · obtain ⟨h1, h2, h3⟩ := hc.rl r hr
    exact ⟨⟨by omega, by omega⟩, ⟨by omega, by omega⟩⟩
  · obtain ⟨⟨h1, h2⟩, h3, h4⟩ := ht x hx
    exact ⟨⟨by omega, by omega⟩, ⟨by omega, by omega⟩⟩
  · rcases hy with h | ⟨r0, r1, h, _, _⟩ <;> rw [h] <;> simp
  · have hS : YrS y := by
      rcases hy with h | ⟨r0, r1, h, h0, h1⟩
      · rw [h] at hm; cases hm
      · rw [h] at hm
        rcases List.mem_cons.1 hm with rfl | hm
        · exact h0
        · rcases List.mem_cons.1 hm with rfl | hm
          · exact h1
          · cases hm
    exact ⟨by have := hS.mo; constructor <;> omega, by have := hS.wk; constructor <;> omega, by have := hS.wd; constructor <;> omega, by have := hS.mi; constructor <;> omega, by have := hS.of; constructor <;> omega⟩
theorem zn14_len (z : Zn) (h : ZnM z) : (zn14 z).length ≤ 100 := by
  have g1 := flat_bound (le · 1) z.cal.months 1 z.cal.months.length (fun _ => le_length _ _)
  have g2 := flat_bound lrB z.cal.rules 5 z.cal.rules.length lrB_len
  have g3 := flat_bound trE z.trans 10 z.trans.length trE_len
  have g4 := flat_bound yrE z.yearly 7 z.yearly.length yrE_len
  rw [List.take_length] at g1 g2 g3 g4
  have h1 := h.cal.mo
  have h2 := h.cal.ru
  have h3 := h.trl
  have h4 : z.yearly.length ≤ 2 := by rcases h.yr with e | ⟨r0, r1, e, _, _⟩ <;> rw [e] <;> simp
  simp only [zn14, cal14, List.length_append, le_length]
  omega
/-- A made table. -/
structure TbM (t : Tb) : Prop where
  issuer : 0 ≤ t.issuer ∧ t.issuer ≤ 15
  version : 1 ≤ t.version ∧ t.version ≤ 64
  withdraws : 0 ≤ t.withdraws ∧ t.withdraws < t.version
  first : t.version = 1 → t.prev = zero32
  num : t.zones.length ≤ 3
  zones : ∀ e ∈ t.zones, ZnV0 e.z
  names : ∀ k e, t.zones[k]? = some e → e.name = zname k
theorem run_equalIn_bytes14 (w : World) (r : List UInt8) (h : r.length = 32) : (Op.equalIn 10000 29 (.agg (r.map Extern.Stop.cell).toArray) (.agg (r.map Extern.Stop.cell).toArray)).run Tryz.prog w = .ok true w := by
  rw [run_equalIn_bytes w 9998 29 5 32 Tryz.underlying29 Tryz.underlying5 (fun w => size_u8 w) r r h h, beq_self_eq_true]
attribute [local go_sem] tb_get0 tb_get1 tb_get2 tb_get3
set_option maxRecDepth 10000 in
set_option maxHeartbeats 1000000 in
theorem validHead_r (t : Tb) (A : Option Addr) (n c : Nat) (w : World) (h : TbM t) (hp : t.prev.length = 32) :
    Calls Tryz.prog 63 #[.agg (tbVal t (.slice A n c))] w (Gives (.bool true) w) := by
  have HR0 := Lib.hid (Row.new w (tbVal t (.slice A n c)) 47)
  have HB0 := Lib.hid (below_var w (.cells (tbVal t (.slice A n c)) 47))
  have k0 := HR0.out.2
  have q1 := h.issuer.1
  have q2 := h.issuer.2
  have q3 := h.version.1
  have q4 := h.version.2
  have q5 := h.withdraws.1
  have q6 := h.withdraws.2
  have HF := Lib.hid h
  clear h
  by_cases hv : t.version = 1
  · have hpz : t.prev = zero32 := HF.out.first hv
    have heq : ∀ W, (binOp .eql 29 (.agg (refCells t.prev).toArray) (.agg (refCells zero32).toArray)).run Tryz.prog W = .ok (.bool true) W := fun W => by
      rw [hpz]
      unfold refCells
      rw [run_eql_struct, Go.Proofs.YtbdkalpljhpnmaaGreat.run_equalIn_bytes14 W zero32 rfl]
      simp [Result.andThen]
    have h32 : (Tryz.prog.info? 29).map (·.size) = some (refCells t.prev).length := by rw [show (refCells t.prev).length = 32 by simp [refCells, hp]]; kernel_rfl
    have HP := Lib.hid (tb_prev t (.slice A n c) HR0.out)
    have H32 := Lib.hid h32
    clear hpz h32 hp
    rw [zero32_cells] at heq
    go_enter Tryz.func63, Tryz.ntmps63
    go_wp2_with (with_reducible refine g_load 29 ?_; refine wpList_load_Mid rfl _ _ rfl w.heap.size 4 rfl (refCells t.prev) HP.out _ Tryz.underlying29 rfl H32.out ?_)
    go_ret
    exact ⟨rfl, HB0.out⟩
  · go_enter Tryz.func63, Tryz.ntmps63
    go_wp2_with fail
    go_ret
    exact ⟨rfl, HB0.out⟩
/-- A table's variable. -/
structure TVr (w : World) (cs : Array Value) (A : Option Addr) (zs : List ZeV) (W : World) : Prop where
  row : Row W w.heap.size cs
  mem : ZesC W w.heap.size A zs
  up : Below w.heap.size w W
theorem TVr.below {w W W' : World} {cs : Array Value} {A : Option Addr} {zs : List ZeV} (h : TVr w cs A zs W) (hb : Below W.heap.size W W') : TVr w cs A zs W' :=
  ⟨h.row.keep hb, h.mem.keep (hb.mono h.up.size), below_trans h.up hb⟩
set_option maxRecDepth 10000 in
set_option maxHeartbeats 2000000 in
theorem valid14_r (x : TbV) (w : World) (hx : TbAt w w.heap.size x) (h : TbM x.t) :
    Calls Tryz.prog 45 #[.agg (tbVal x.t (.slice x.A x.zs.length x.c))] w (Gives (.int .i64 0) w) := by
  obtain ⟨t, A, c, zs⟩ := x
  obtain ⟨hz, hp, hm, hA⟩ := hx
  simp only at hz hp hm hA h ⊢
  obtain ⟨n, hn⟩ : ∃ n, zs.length = n := ⟨_, rfl⟩
  rw [hn]
  have HB0 := Lib.hid (below_var w (.cells (tbVal t (.slice A n c)) 47))
  have HV0 : Hid (TVr w (tbVal t (.slice A n c)) A zs (w.alloc (.cells (tbVal t (.slice A n c)) 47))) := Lib.hid ⟨Row.new w _ _, hA.keep HB0.out, HB0.out⟩
  have HHD : Hid (∀ W, Calls Tryz.prog 63 #[.agg (tbVal t (.slice A n c))] W (Gives (.bool true) W)) := Lib.hid fun W => validHead_r t A n c W h hp
  have HSZ := Lib.hid (tb_info t (.slice A n c) hp hm)
  have hn3 : n ≤ 3 := by have := h.num; rw [hz, List.length_map, hn] at this; exact this
  have HF := Lib.hid h
  have HZ := Lib.hid hz
  have HNN := Lib.hid hn
  clear h hz hp hm hA hn HB0
  go_enter Tryz.func45, Tryz.ntmps45
  go_wp2_with ((with_reducible refine g_loa 47 ?_); go_must (refine wpList_load_Row rfl _ _ rfl w.heap.size rfl (tbVal t (.slice A n c)) HV0.out.row _ Tryz.underlying47 rfl HSZ.out ?_))
  refine (HHD.out _).mono ?_
  rintro e w1 ⟨rfl, hb1⟩
  have HV1 := Lib.hid (HV0.out.below hb1)
  have k1 := HV1.out.row.2
  have hlt1 := HV1.out.row.1
  clear hb1 HV0
  go_wp2_with fail
  go_loopw [3] (fun i wr => ∃ k : Nat, k ≤ n ∧ i = I k ∧ TVr w (tbVal t (.slice A n c)) A zs wr) (fun i _ => n - (intOf i).toNat)
  case atStart => exact ⟨0, Nat.zero_le _, rfl, HV1.out⟩
  case round =>
    obtain ⟨k, hk, rfl, htv⟩ := hrel
    have HV := Lib.hid htv
    clear htv k1 hlt1 HV1
    have k1 := HV.out.row.2
    have hlt1 := HV.out.row.1
    by_cases hlt : (k : Int) < (n : Int)
    · have hkz : k < zs.length := by rw [HNN.out]; omega
      obtain ⟨x, hx⟩ : ∃ x, zs[k]? = some x := ⟨_, List.getElem?_eq_getElem hkz⟩
      obtain ⟨b, off, rfl, hbo, hcl⟩ := HV.out.mem.row.there (by rw [zecells_len]; omega)
      have HCL : Hid (∀ k x, zs[k]? = some x → wr.rangeAt b (off + k * 9) x.cells.toList) := Lib.hid fun k x hx => CellsAt.elem (s := 9) (f := fun x : ZeV => x.cells.toList) (fun _ _ => rfl) hcl k x hx
      have c0 : wr.cell? ⟨b, off + k * 9, none⟩ = some (.string x.e.name) := HCL.out k x hx 0 _ rfl
      have c1 : wr.cell? ⟨b, off + k * 9 + 1, none⟩ = some (I x.e.z.cal.epoch) := HCL.out k x hx 1 _ rfl
      have c2 : wr.cell? ⟨b, off + k * 9 + 2, none⟩ = some (.slice x.s.A x.e.z.cal.months.length x.s.a) := HCL.out k x hx 2 _ rfl
      have c3 : wr.cell? ⟨b, off + k * 9 + 3, none⟩ = some (I x.e.z.cal.leap) := HCL.out k x hx 3 _ rfl
      have c4 : wr.cell? ⟨b, off + k * 9 + 4, none⟩ = some (.slice x.s.B x.e.z.cal.rules.length x.s.b) := HCL.out k x hx 4 _ rfl
      have c5 : wr.cell? ⟨b, off + k * 9 + 5, none⟩ = some (I x.e.z.start) := HCL.out k x hx 5 _ rfl
      have c6 : wr.cell? ⟨b, off + k * 9 + 6, none⟩ = some (.slice x.s.C x.e.z.trans.length x.s.c) := HCL.out k x hx 6 _ rfl
      have c7 : wr.cell? ⟨b, off + k * 9 + 7, none⟩ = some (I x.e.z.hor) := HCL.out k x hx 7 _ rfl
      have c8 : wr.cell? ⟨b, off + k * 9 + 8, none⟩ = some (.slice x.s.D x.e.z.yearly.length x.s.d) := HCL.out k x hx 8 _ rfl
      have hxm : x.e ∈ t.zones := by rw [HZ.out]; exact List.mem_map_of_mem (List.mem_of_getElem? hx)
      have hnm : x.e.name = zname k := HF.out.names k x.e (by rw [HZ.out, List.getElem?_map, hx]; rfl)
      have HXS := Lib.hid hnm
      have HZV : Hid (∀ W, Below wr.heap.size wr W → Calls Tryz.prog 52 #[.agg (znCells x.e.z x.s)] W (Gives (.int .i64 0) W)) := Lib.hid fun W hb => by
        have hz := HF.out.zones _ hxm
        have := rvalid_any x.e.z x.s W hz.made (((HV.out.mem.each x (List.mem_of_getElem? hx)).more HV.out.up.size).grow hb)
        rw [hz.ok] at this
        exact this
      have hup := zname_up k (by omega)
      have q7 : (zname k).size = 2 := rfl
      rw [hnm] at c0
      obtain ⟨nm, hnm2⟩ : ∃ s, zname k = s := ⟨_, rfl⟩
      rw [hnm2] at hup q7 c0
      unfold znCells at HZV
      have HUP := Lib.hid hup
      have HNM2 := Lib.hid hnm2
      rcases Nat.eq_zero_or_pos k with h0 | h0
      · subst h0
        clear hx hcl hxm hkz hnm hnm2 hup
        simp only [Nat.zero_mul, Nat.add_zero] at c0 c1 c2 c3 c4 c5 c6 c7 c8
        go_wp2_with fail
        refine (HZV.out _ (Below.refl _ _)).mono ?_
        rintro e w2 ⟨rfl, hb2⟩
        have HV2 := Lib.hid (HV.out.below hb2)
        clear hb2
        go_wp2_with fail
        go_roundw
        case rel => exact ⟨1, by omega, rfl, HV2.out⟩
        case measure => simp [intOf]; omega
      · obtain ⟨j, rfl⟩ : ∃ j, k = j + 1 := ⟨k - 1, by omega⟩
        obtain ⟨y, hy⟩ : ∃ y, zs[j]? = some y := ⟨_, List.getElem?_eq_getElem (by omega)⟩
        have hnmy : y.e.name = zname j := HF.out.names j y.e (by rw [HZ.out, List.getElem?_map, hy]; rfl)
        have d0 : wr.cell? ⟨b, off + j * 9, none⟩ = some (.string (zname j)) := by rw [← hnmy]; exact HCL.out j y hy 0 _ rfl
        obtain ⟨pn, hpn⟩ : ∃ s, zname j = s := ⟨_, rfl⟩
        obtain ⟨s1, s2⟩ := hup
        simp only [prevName] at s1 s2
        rw [hpn] at d0 s1 s2
        clear hx hcl hxm hkz hnm hnm2 hy hnmy hpn
        go_wp2_with fail
        refine (HZV.out _ (Below.refl _ _)).mono ?_
        rintro e w2 ⟨rfl, hb2⟩
        have HV2 := Lib.hid (HV.out.below hb2)
        clear hb2
        go_wp2_with fail
        go_roundw
        case rel => exact ⟨j + 2, by omega, by go_num, HV2.out⟩
        case measure => simp [intOf]; omega
    · go_wp2_with fail
      go_ret
      exact ⟨rfl, HV.out.up⟩
end Go.Proofs.YtbdkalpljhpnmaaGreat

/- kalendsref14.Bytes. -/
namespace Go.Proofs.YtbdkalpljhpnmaaGreat
open Go Go.RowKit

theorem flat_le {α β : Type} (f : α → List β) (l : List α) (s k : Nat) (h : ∀ x ∈ l, (f x).length ≤ s) : ((l.take k).flatMap f).length ≤ l.length * s := by
  induction l generalizing k with
  | nil => simp
  | cons x l ih =>
    cases k with
    | zero => simp
    | succ k =>
      rw [List.take_succ_cons, List.flatMap_cons, List.length_append, List.length_cons, Nat.succ_mul]
      have h1 := h x (List.mem_cons_self ..)
      have h2 := ih k (fun y hy => h y (List.mem_cons_of_mem _ hy))
      omega
def ze14 (e : Ze) : List UInt8 := le e.name.size 1 ++ (e.name.data.toList ++ zn14 e.z)
def tb14 (t : Tb) : List UInt8 := [byteOf t.issuer, byteOf t.version, byteOf t.withdraws] ++ (t.prev ++ (le t.zones.length 1 ++ t.zones.flatMap ze14))
theorem RwK.app0 {w w3 : World} {v v' : Value} (hg : w.grownBy w3 v.ownBlock) (hat : v'.ownBlock = v.ownBlock ∨ v'.ownBlock = some w.heap.size) : RwK v w v' w3 :=
  ⟨hg.os, hg.tape, hg.output, hg.size, fun k hk hv => hg.block k hk hv, hat.imp id fun e => ⟨_, e, Nat.le_refl _⟩⟩
theorem RwK.nilB {w w' : World} {v : Value} (h : RwK (.slice none 0 0) w v w') : Below w.heap.size w w' := h.lowB (fun g hg => by cases hg) (Nat.le_refl _)
theorem ze14_le (e : Ze) (h : ZnM e.z) (hn : e.name.size ≤ 2) : (ze14 e).length ≤ 103 := by
  have h1 := zn14_len e.z h
  have h2 : e.name.data.toList.length = e.name.size := by rw [Array.length_toList]; rfl
  simp only [ze14, List.length_append, le_length]
  omega
/-- A new list of bytes beside a row. -/
theorem CB.lit {w W : World} {cs : Array Value} (hr : Row W w.heap.size cs) (hb : Below w.heap.size w W) (bs : List UInt8) (n : Nat) (hl : bs.length = n) (hn : n ≤ 1000) (vs : Array Value) (hv : vs.toList = bs.map Extern.Stop.cell) : CB w.heap.size (.slice none 0 0) w cs bs (some ⟨W.heap.size, 0, none⟩) n n (W.alloc (.cells vs 5)) := by
  have hlt := hr.1
  have ho : (W.alloc (.cells vs 5)).ownsRow W.heap.size 5 1 (.slice (some ⟨W.heap.size, 0, none⟩) n n) n vs.toList := World.ownsRow_lit W vs n (Nat.le_refl _) (by unfold maxLen; omega) (by rw [← Array.length_toList, hv, List.length_map, hl, Nat.mul_one])
  have hb2 : Below w.heap.size w (W.alloc (.cells vs 5)) := below_trans hb (below_var W _)
  refine ⟨hr.keep (below_var W _), BsO.lower (lo := W.heap.size) (by rw [hv] at ho; exact ho) hb.size, hl, ⟨hb2.os, hb2.tape, hb2.output, hb2.size, fun k hk _ => hb2.block k hk, .inr ⟨W.heap.size, rfl, hb.size⟩⟩, fun e => ?_⟩
  have h : w.heap.size = W.heap.size := Option.some.inj e
  omega
def By14 (w : World) (t : Tb) (e : Ending) (w' : World) : Prop := ∃ A n c, (tb14 t).length = n ∧ e = .returned (.tuple #[.slice A n c, .int .i64 0]) ∧ BsO w.heap.size w' A n c (tb14 t) ∧ Below w.heap.size w w'
attribute [local go_sem] tb_get0 tb_get1 tb_get2 tb_get3
set_option maxRecDepth 10000 in
set_option maxHeartbeats 2000000 in
theorem bytes14_r (x : TbV) (w : World) (hx : TbAt w w.heap.size x) (h : TbM x.t) :
    Calls Tryz.prog 31 #[.agg (tbVal x.t (.slice x.A x.zs.length x.c))] w (By14 w x.t) := by
  obtain ⟨i0, hi, hz0, hz1, hz2⟩ := info_parts info_u8
  have HI := Lib.hid hi
  have HZ0 := Lib.hid hz0
  have HZ1 := Lib.hid hz1
  have HZ2 := Lib.hid hz2
  clear hi hz0 hz1 hz2
  have HVL : Hid (∀ W, Below w.heap.size w W → Calls Tryz.prog 45 #[.agg (tbVal x.t (.slice x.A x.zs.length x.c))] W (Gives (.int .i64 0) W)) := Lib.hid fun W hb => valid14_r x W (hx.grow hb) h
  obtain ⟨t, A, c, zs⟩ := x
  obtain ⟨hz, hp, hm, hA⟩ := hx
  simp only at hz hp hm hA h HVL ⊢
  obtain ⟨n, hn⟩ : ∃ n, zs.length = n := ⟨_, rfl⟩
  rw [hn] at HVL ⊢
  have HB0 := Lib.hid (below_var w (.cells (tbVal t (.slice A n c)) 47))
  have HR0 := Lib.hid (Row.new w (tbVal t (.slice A n c)) 47)
  have HSZ := Lib.hid (tb_info t (.slice A n c) hp hm)
  have hn3 : n ≤ 3 := by have := h.num; rw [hz, List.length_map, hn] at this; exact this
  have HF := Lib.hid h
  have HZ := Lib.hid hz
  have HNN := Lib.hid hn
  have HPL := Lib.hid hp
  have HA := Lib.hid hA
  have h32 : (Tryz.prog.info? 29).map (·.size) = some (refCells t.prev).length := by rw [show (refCells t.prev).length = 32 by simp [refCells, hp]]; kernel_rfl
  have H32 := Lib.hid h32
  clear h hz hp hm hA hn h32
  go_enter Tryz.func31, Tryz.ntmps31
  go_wp2_with ((with_reducible refine g_loa 47 ?_); go_must (refine wpList_load_Row rfl _ _ rfl w.heap.size rfl (tbVal t (.slice A n c)) HR0.out _ Tryz.underlying47 rfl HSZ.out ?_))
  refine (HVL.out _ HB0.out).mono ?_
  rintro e w1 ⟨rfl, hb1⟩
  have HR1 := Lib.hid (HR0.out.keep hb1)
  have HB1 := Lib.hid (below_trans HB0.out hb1)
  have HC1 : Hid (CB w.heap.size (.slice none 0 0) w (tbVal t (.slice A n c)) [byteOf t.issuer, byteOf t.version, byteOf t.withdraws] (some ⟨w1.heap.size, 0, none⟩) 3 3 (w1.alloc (.cells #[Value.int .u8 (t.issuer % 256), Value.int .u8 (t.version % 256), Value.int .u8 (t.withdraws % 256)] 5))) := Lib.hid (CB.lit HR1.out HB1.out _ 3 rfl (by omega) _ (by simp only [List.map_cons, List.map_nil, byteOf_cell]))
  have HP1 := Lib.hid (tb_prev t (.slice A n c) HC1.out.row)
  have k1 := HR1.out.2
  have hlt1 := HR1.out.1
  clear hb1 HR0 HB0 HVL
  go_wp2_with (with_reducible refine g_load 29 ?_; refine wpList_load_Mid rfl _ _ rfl w.heap.size 4 rfl (refCells t.prev) HP1.out _ Tryz.underlying29 rfl H32.out ?_)
  generalize w1.alloc (.cells #[Value.int .u8 (t.issuer % 256), Value.int .u8 (t.version % 256), Value.int .u8 (t.withdraws % 256)] 5) = W1 at HC1 HP1 ⊢
  refine (bytes03_r t.prev W1 HPL.out).mono ?_
  rintro e w2 ⟨A2, n2, c2, l2, rfl, o2, k2⟩
  have hn2 : n2 = 32 := by rw [← l2, HPL.out]
  subst hn2
  have HC2 := Lib.hid (HC1.out.grow k2.nilB)
  obtain ⟨g, cap, hgv, hgl⟩ := own_form o2 (by omega)
  injection hgv with hA2 _ hC2
  subst hA2 hC2
  have HNW : Hid (∀ j u, (t.prev.map Extern.Stop.cell)[j]? = some u → w2.cell? ((⟨g, 0, none⟩ : Addr).add j) = some u) := Lib.hid (fun j u hu => World.ownsRow.cells o2 (g := g) rfl j u hu)
  have HNL : Hid ((t.prev.map Extern.Stop.cell).length = 32 * 1) := Lib.hid (by rw [List.length_map, HPL.out])
  have HONE : Hid (∀ u ∈ t.prev.map Extern.Stop.cell, u.oneCell' = true) := Lib.hid (fun u hu => by obtain ⟨x, _, rfl⟩ := List.mem_map.1 hu; rfl)
  have hsz2 : w.heap.size ≤ w2.heap.size := HC2.out.keep.size
  obtain ⟨hd, hhd⟩ : ∃ l, [byteOf t.issuer, byteOf t.version, byteOf t.withdraws] = l := ⟨_, rfl⟩
  have HHD := Lib.hid hhd
  rw [hhd] at HC2
  have HO2 := Lib.hid HC2.out.own
  clear o2 l2 k2 hgl hhd k1 hlt1
  go_wp2_with (at_builtin; go_must (refine wpList_append_own_at _ rfl _ _ 23 rfl w.heap.size 5 i0 (.int .u8 0) 1 1 Tryz.underlying23 HI.out HZ0.out HZ1.out HZ2.out rfl (by decide) _ 3 (hd.map Extern.Stop.cell) rfl HO2.out ⟨g, 0, none⟩ 32 c2 (t.prev.map Extern.Stop.cell) rfl HNL.out HNW.out HONE.out (by unfold maxLen; omega) (by omega) (by omega) ?_))
  intro v' w3 hown hg _ hat
  obtain ⟨A3, c3, rfl⟩ := own_formB hown
  have HC3 : Hid (CB w.heap.size (.slice none 0 0) w (tbVal t (.slice A n c)) (hd ++ t.prev) A3 35 c3 w3) := Lib.hid (HC2.out.next (by unfold BsO; rw [List.map_append]; exact hown) (by rw [List.length_append, HC2.out.len, HPL.out]) (RwK.app0 hg hat))
  clear hown hg hat
  have k1 := HC3.out.row.2
  have hlt1 := HC3.out.row.1
  go_wp2_with fail
  refine (number_r w.heap.size _ _ 1 _ _ n _ HC3.out.len (by omega) (by omega) ⟨by omega, by omega⟩ HC3.out.keep.size HC3.out.own).mono ?_
  rintro e w4 ⟨A4, n4, c4, l4, rfl, o4, k4⟩
  have HC4 := Lib.hid (HC3.out.next o4 l4 k4)
  have HZL : Hid (∀ k, ((t.zones.take k).flatMap ze14).length ≤ 400) := Lib.hid (fun k => by
    have := flat_le ze14 t.zones 103 k (fun e he => ze14_le e (HF.out.zones e he).made (by obtain ⟨j, hj⟩ := List.getElem?_of_mem he; rw [HF.out.names j e hj, zname_size]; omega))
    have h2 := HF.out.num
    omega)
  clear l4 o4 k4 k1 hlt1
  have k1 := HC4.out.row.2
  have hlt1 := HC4.out.row.1
  go_wp2_with fail
  go_loopw [5, 6] (fun b i wr => CRel w.heap.size (.slice none 0 0) w (tbVal t (.slice A n c)) (fun k => hd ++ t.prev ++ le n 1 ++ (t.zones.take k).flatMap ze14) n b i wr) (fun _ i _ => n - (intOf i).toNat)
  case atStart => exact ⟨0, n4, c4, A4, Nat.zero_le _, rfl, by go_num, by simpa using HC4.out⟩
  case round =>
    clear k1 hlt1
    obtain ⟨k, n5, c5, A5, hk, rfl, rfl, hb⟩ := hrel
    have HB : Hid (CB w.heap.size (.slice none 0 0) w (tbVal t (.slice A n c)) (hd ++ t.prev ++ le n 1 ++ (t.zones.take k).flatMap ze14) A5 n5 c5 wr) := Lib.hid hb
    have hn5 : n5 ≤ 436 := by
      have h1 := HB.out.len
      have h2 := HZL.out k
      rw [List.length_append, List.length_append, le_length, HC3.out.len] at h1
      omega
    clear hb
    obtain ⟨pre, hpre⟩ : ∃ l, hd ++ t.prev ++ le n 1 ++ (t.zones.take k).flatMap ze14 = l := ⟨_, rfl⟩
    have HPRE := Lib.hid hpre
    rw [hpre] at HB
    clear hpre
    have k1 := HB.out.row.2
    have hlt1 := HB.out.row.1
    have hsz := HB.out.keep.size
    by_cases hlt : (k : Int) < (n : Int)
    · have hkz : k < zs.length := by rw [HNN.out]; omega
      obtain ⟨x, hx⟩ : ∃ x, zs[k]? = some x := ⟨_, List.getElem?_eq_getElem hkz⟩
      obtain ⟨b, off, rfl, hbo, hcl⟩ := HA.out.row.there (by rw [zecells_len]; omega)
      have hxm : x.e ∈ t.zones := by rw [HZ.out]; exact List.mem_map_of_mem (List.mem_of_getElem? hx)
      have hzx : t.zones[k]? = some x.e := by rw [HZ.out, List.getElem?_map, hx]; rfl
      have hns : x.e.name.size = 2 := by rw [HF.out.names k x.e hzx, zname_size]
      obtain ⟨nm, hnm⟩ : ∃ s, x.e.name = s := ⟨_, rfl⟩
      rw [hnm] at hns
      have HCL : Hid (∀ i u, x.cells.toList[i]? = some u → w.cell? ⟨b, off + k * 9 + i, none⟩ = some u) := Lib.hid (CellsAt.elem (s := 9) (f := fun x : ZeV => x.cells.toList) (fun _ _ => rfl) hcl k x hx)
      have HNS := Lib.hid hns
      have hz1 : Z14 x.e.z := (HF.out.zones _ hxm).made.z14
      have HZ14 := Lib.hid hz1
      have HZN := Lib.hid (HA.out.each x (List.mem_of_getElem? hx))
      have HZX := Lib.hid hzx
      have HNM := Lib.hid hnm
      have z0 : wr.cell? ⟨b, off + k * 9, none⟩ = some (.string nm) := (HB.out.keep.nilB.cell (p := ⟨b, off + k * 9, none⟩) hbo).trans (by rw [← hnm]; exact HCL.out 0 _ rfl)
      have z1 : wr.cell? ⟨b, off + k * 9 + 1, none⟩ = some (I x.e.z.cal.epoch) := (HB.out.keep.nilB.cell (p := ⟨b, off + k * 9 + 1, none⟩) hbo).trans (HCL.out 1 _ rfl)
      have z2 : wr.cell? ⟨b, off + k * 9 + 2, none⟩ = some (.slice x.s.A x.e.z.cal.months.length x.s.a) := (HB.out.keep.nilB.cell (p := ⟨b, off + k * 9 + 2, none⟩) hbo).trans (HCL.out 2 _ rfl)
      have z3 : wr.cell? ⟨b, off + k * 9 + 3, none⟩ = some (I x.e.z.cal.leap) := (HB.out.keep.nilB.cell (p := ⟨b, off + k * 9 + 3, none⟩) hbo).trans (HCL.out 3 _ rfl)
      have z4 : wr.cell? ⟨b, off + k * 9 + 4, none⟩ = some (.slice x.s.B x.e.z.cal.rules.length x.s.b) := (HB.out.keep.nilB.cell (p := ⟨b, off + k * 9 + 4, none⟩) hbo).trans (HCL.out 4 _ rfl)
      have z5 : wr.cell? ⟨b, off + k * 9 + 5, none⟩ = some (I x.e.z.start) := (HB.out.keep.nilB.cell (p := ⟨b, off + k * 9 + 5, none⟩) hbo).trans (HCL.out 5 _ rfl)
      have z6 : wr.cell? ⟨b, off + k * 9 + 6, none⟩ = some (.slice x.s.C x.e.z.trans.length x.s.c) := (HB.out.keep.nilB.cell (p := ⟨b, off + k * 9 + 6, none⟩) hbo).trans (HCL.out 6 _ rfl)
      have z7 : wr.cell? ⟨b, off + k * 9 + 7, none⟩ = some (I x.e.z.hor) := (HB.out.keep.nilB.cell (p := ⟨b, off + k * 9 + 7, none⟩) hbo).trans (HCL.out 7 _ rfl)
      have z8 : wr.cell? ⟨b, off + k * 9 + 8, none⟩ = some (.slice x.s.D x.e.z.yearly.length x.s.d) := (HB.out.keep.nilB.cell (p := ⟨b, off + k * 9 + 8, none⟩) hbo).trans (HCL.out 8 _ rfl)
      have f1 : fits ((nm.size : Nat) : Int) := ⟨by omega, by omega⟩
      clear hx hcl hxm hkz hzx hns hz1
      go_wp2_with fail
      refine (number_r w.heap.size _ _ 1 _ _ (nm.size : Nat) _ HB.out.len (by omega) (by omega) f1 HB.out.keep.size HB.out.own).mono ?_
      rintro e w6 ⟨A6, n6, d6, l6, rfl, o6, k6⟩
      have HC6 := Lib.hid (HB.out.next o6 l6 k6)
      have hn6 : n6 ≤ 440 := by
        have h1 := HB.out.len
        rw [List.length_append, le_length] at l6
        omega
      have hsz6 := HC6.out.keep.size
      obtain ⟨pre2, hpre2⟩ : ∃ l, pre ++ le (nm.size : Nat) 1 = l := ⟨_, rfl⟩
      have HP2 := Lib.hid hpre2
      rw [hpre2] at HC6
      have HO6 := Lib.hid HC6.out.own
      clear l6 o6 k6 k1 hlt1 hpre2 z0 z1 z2 z3 z4 z5 z6 z7 z8
      have k1 := HC6.out.row.2
      have hlt1 := HC6.out.row.1
      have z0 : w6.cell? ⟨b, off + k * 9, none⟩ = some (.string nm) := (HC6.out.keep.nilB.cell (p := ⟨b, off + k * 9, none⟩) hbo).trans (by rw [← hnm]; exact HCL.out 0 _ rfl)
      have z1 : w6.cell? ⟨b, off + k * 9 + 1, none⟩ = some (I x.e.z.cal.epoch) := (HC6.out.keep.nilB.cell (p := ⟨b, off + k * 9 + 1, none⟩) hbo).trans (HCL.out 1 _ rfl)
      have z2 : w6.cell? ⟨b, off + k * 9 + 2, none⟩ = some (.slice x.s.A x.e.z.cal.months.length x.s.a) := (HC6.out.keep.nilB.cell (p := ⟨b, off + k * 9 + 2, none⟩) hbo).trans (HCL.out 2 _ rfl)
      have z3 : w6.cell? ⟨b, off + k * 9 + 3, none⟩ = some (I x.e.z.cal.leap) := (HC6.out.keep.nilB.cell (p := ⟨b, off + k * 9 + 3, none⟩) hbo).trans (HCL.out 3 _ rfl)
      have z4 : w6.cell? ⟨b, off + k * 9 + 4, none⟩ = some (.slice x.s.B x.e.z.cal.rules.length x.s.b) := (HC6.out.keep.nilB.cell (p := ⟨b, off + k * 9 + 4, none⟩) hbo).trans (HCL.out 4 _ rfl)
      have z5 : w6.cell? ⟨b, off + k * 9 + 5, none⟩ = some (I x.e.z.start) := (HC6.out.keep.nilB.cell (p := ⟨b, off + k * 9 + 5, none⟩) hbo).trans (HCL.out 5 _ rfl)
      have z6 : w6.cell? ⟨b, off + k * 9 + 6, none⟩ = some (.slice x.s.C x.e.z.trans.length x.s.c) := (HC6.out.keep.nilB.cell (p := ⟨b, off + k * 9 + 6, none⟩) hbo).trans (HCL.out 6 _ rfl)
      have z7 : w6.cell? ⟨b, off + k * 9 + 7, none⟩ = some (I x.e.z.hor) := (HC6.out.keep.nilB.cell (p := ⟨b, off + k * 9 + 7, none⟩) hbo).trans (HCL.out 7 _ rfl)
      have z8 : w6.cell? ⟨b, off + k * 9 + 8, none⟩ = some (.slice x.s.D x.e.z.yearly.length x.s.d) := (HC6.out.keep.nilB.cell (p := ⟨b, off + k * 9 + 8, none⟩) hbo).trans (HCL.out 8 _ rfl)
      go_wp2_with (at_builtin; go_must (refine wpList_app_str rfl _ _ rfl w.heap.size _ n6 (pre2.map Extern.Stop.cell) rfl HO6.out nm rfl (by have := HNS.out; omega) (by omega) ?_))
      intro v' w7 hown hg hat
      obtain ⟨A7, d7, rfl⟩ := own_formB hown
      have HC7 : Hid (CB w.heap.size (.slice none 0 0) w (tbVal t (.slice (some ⟨b, off, none⟩) n c)) (pre2 ++ nm.data.toList) A7 (n6 + nm.size) d7 w7) := Lib.hid (HC6.out.next (by unfold BsO; rw [List.map_append]; exact hown) (by rw [List.length_append, HC6.out.len, Array.length_toList]; rfl) (RwK.app0 hg hat))
      clear hown hg hat k1 hlt1 z0 z1 z2 z3 z4 z5 z6 z7 z8
      have k1 := HC7.out.row.2
      have hlt1 := HC7.out.row.1
      have z0 : w7.cell? ⟨b, off + k * 9, none⟩ = some (.string nm) := (HC7.out.keep.nilB.cell (p := ⟨b, off + k * 9, none⟩) hbo).trans (by rw [← hnm]; exact HCL.out 0 _ rfl)
      have z1 : w7.cell? ⟨b, off + k * 9 + 1, none⟩ = some (I x.e.z.cal.epoch) := (HC7.out.keep.nilB.cell (p := ⟨b, off + k * 9 + 1, none⟩) hbo).trans (HCL.out 1 _ rfl)
      have z2 : w7.cell? ⟨b, off + k * 9 + 2, none⟩ = some (.slice x.s.A x.e.z.cal.months.length x.s.a) := (HC7.out.keep.nilB.cell (p := ⟨b, off + k * 9 + 2, none⟩) hbo).trans (HCL.out 2 _ rfl)
      have z3 : w7.cell? ⟨b, off + k * 9 + 3, none⟩ = some (I x.e.z.cal.leap) := (HC7.out.keep.nilB.cell (p := ⟨b, off + k * 9 + 3, none⟩) hbo).trans (HCL.out 3 _ rfl)
      have z4 : w7.cell? ⟨b, off + k * 9 + 4, none⟩ = some (.slice x.s.B x.e.z.cal.rules.length x.s.b) := (HC7.out.keep.nilB.cell (p := ⟨b, off + k * 9 + 4, none⟩) hbo).trans (HCL.out 4 _ rfl)
      have z5 : w7.cell? ⟨b, off + k * 9 + 5, none⟩ = some (I x.e.z.start) := (HC7.out.keep.nilB.cell (p := ⟨b, off + k * 9 + 5, none⟩) hbo).trans (HCL.out 5 _ rfl)
      have z6 : w7.cell? ⟨b, off + k * 9 + 6, none⟩ = some (.slice x.s.C x.e.z.trans.length x.s.c) := (HC7.out.keep.nilB.cell (p := ⟨b, off + k * 9 + 6, none⟩) hbo).trans (HCL.out 6 _ rfl)
      have z7 : w7.cell? ⟨b, off + k * 9 + 7, none⟩ = some (I x.e.z.hor) := (HC7.out.keep.nilB.cell (p := ⟨b, off + k * 9 + 7, none⟩) hbo).trans (HCL.out 7 _ rfl)
      have z8 : w7.cell? ⟨b, off + k * 9 + 8, none⟩ = some (.slice x.s.D x.e.z.yearly.length x.s.d) := (HC7.out.keep.nilB.cell (p := ⟨b, off + k * 9 + 8, none⟩) hbo).trans (HCL.out 8 _ rfl)
      go_wp2_with fail
      refine (zone14_r w.heap.size (n6 + nm.size) d7 A7 _ x.e.z x.s w7 HC7.out.len (by have := HNS.out; omega) HZ14.out (HZN.out.keep HC7.out.keep.nilB) HC7.out.keep.size HC7.out.own).mono ?_
      rintro e w8 ⟨A8, n8, d8, l8, rfl, o8, k8⟩
      have HC8 := Lib.hid (HC7.out.next o8 l8 k8)
      clear l8 o8 k8 k1 hlt1 z0 z1 z2 z3 z4 z5 z6 z7 z8
      go_wp2_with fail
      go_roundw
      case rel => exact ⟨k + 1, n8, d8, A8, by omega, rfl, by go_num, by
        have hc := HC8.out
        rw [← HP2.out, ← HPRE.out] at hc
        show CB _ _ _ _ (_ ++ (t.zones.take (k + 1)).flatMap ze14) _ _ _ _
        rw [flat_snoc _ _ _ _ HZX.out, show ze14 x.e = le (nm.size : Nat) 1 ++ (nm.data.toList ++ zn14 x.e.z) by unfold ze14; rw [HNM.out]]
        simpa [List.append_assoc] using hc⟩
      case measure => simp [intOf]; omega
    · have HK : Hid (k = n) := Lib.hid (by omega)
      go_wp2_with fail
      go_ret2
      have hb := HB.out
      have e1 : pre = tb14 t := by
        rw [← HPRE.out, HK.out, List.take_of_length_le (by rw [HZ.out, List.length_map, HNN.out]; exact Nat.le_refl _), ← HHD.out]
        simp [tb14, HZ.out, HNN.out, List.append_assoc]
      rw [e1] at hb
      exact ⟨A5, n5, c5, hb.len, rfl, hb.own, hb.keep.nilB⟩
end Go.Proofs.YtbdkalpljhpnmaaGreat
