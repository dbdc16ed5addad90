/- zone.Valid of a zone without transitions and yearly rules. -/
import Derived.Test.YtbdkalpljhpnmaaGreatTbD
import Derived.BigQuiet
import Derived.Deep.AppendLies
import Derived.Deep.CutBlock
import Derived.Deep.DeepCutAuto
import Derived.Deep.DrawnRows
import Derived.Deep.MidRow
import Derived.Deep.QuietTactic
import Derived.Deep.RegionHeld3
import Derived.Deep.RegionLaw
import Derived.Deep.WholeRow
import Derived.Great.BuildSlice
import Derived.Laws.BytesString
import Derived.Laws.CopyOwn
import Derived.Laws.EntriesVeiled
import Derived.Laws.MakeOwn
import Derived.Laws.ResultCell
import Derived.Laws.Rows
import Derived.Laws.Tables
import Derived.Lib.Hide
import Derived.LoopIn
import Derived.LoopNIn
import Derived.Maps.AppendAt
import Derived.Outline
import Derived.OwnWalkIn
import Derived.RangeFuncBound
import Derived.RangeFuncBox
import Derived.RangeFuncCalls
import Derived.RangeFuncLeaves
import Derived.RangeFuncNested
import Derived.Shelf.Abstract
import Derived.Shelf.Bytes.SlSmallAll
import Derived.Shelf.RegionOpen
import Derived.StillTailTactics
import Derived.Stop.BytesEq
import Derived.TacticsInMore
import Derived.WalkKit
import Derived.WalkLawsBesides
import Derived.WalkSpells
namespace Go.Proofs.YtbdkalpljhpnmaaGreat
open Go Go.RowKit

set_option maxRecDepth 10000 in
set_option maxHeartbeats 1000000 in
theorem tick_flat (z : Zn) (s : Zs) (w : World) (h : ZnFlat z) : Calls Tryz.prog 61 #[.agg (znCells z s)] w fun e w' => (∃ b : Nat, e = .returned (.tuple #[pt b, .bool true])) ∧ Below w.heap.size w w' := by
  have hy : z.yearly.length = 0 := by rw [h.yearly]; rfl
  have e0 : znCells z s = #[I z.cal.epoch, .slice s.A z.cal.months.length s.a, I z.cal.leap, .slice s.B z.cal.rules.length s.b, I z.start, .slice s.C z.trans.length s.c, I z.hor, .slice s.D 0 s.d] := by rw [← hy]; rfl
  rw [e0]
  clear h hy e0
  go_enter Tryz.func61, Tryz.ntmps61
  go_wp2_with fail
  go_ret2
  exact ⟨⟨_, rfl⟩, below_trans (below_var _ _) (below_var _ _)⟩
theorem zwithin_yes (n l : Int) (w : World) (hl : 0 ≤ l ∧ l ≤ 4503599627370496) (h1 : -l ≤ n) (h2 : n ≤ l) : Calls Tryz.prog 60 #[I n, I l] w fun e w' => e = .returned (.bool true) ∧ w' = w := by
  have h := zwithin_any n l w hl
  have e : (decide (-l ≤ n) && decide (n ≤ l)) = true := by rw [decide_eq_true h1, decide_eq_true h2]; rfl
  rw [e] at h
  exact h
theorem results_two {P : Program} {fn : Func} {p q : Tmp} {t1 t2 : TypeId} (h : fn.results = #[.cell p t1, .cell q t2]) (tmps : Array Value) (w : World) (a b : Addr) (u v : Value)
    (hp : tmps.getD p undef = .pointer (some a)) (hu : (loadVar t1 a).run P w = .ok u w) (hq : tmps.getD q undef = .pointer (some b)) (hv : (loadVar t2 b).run P w = .ok v w) :
    (results fn tmps).run P w = .ok (.tuple #[u, v]) w := by
  have hp' : tmps[p]?.getD undef = .pointer (some a) := by simpa using hp
  have hq' : tmps[q]?.getD undef = .pointer (some b) := by simpa using hq
  simp [results, h, hp', hq', asAddr, hu, hv]
theorem load_clock (W : World) (a : Addr) (b : Nat) (h : W.cell? a = some (pt b)) : (loadVar 122 a).run Tryz.prog W = .ok (pt b) W := by
  simp [go_sem, h]
theorem load_boolv (W : World) (a : Addr) (b : Bool) (h : W.cell? a = some (.bool b)) : (loadVar 4 a).run Tryz.prog W = .ok (.bool b) W := by
  simp [go_sem, h]
/-- zone.open's own variables: the zone, the two results. -/
structure ZO (w : World) (cs : Array Value) (W : World) : Prop where
  row : Row W w.heap.size cs
  r1 : W.heap[w.heap.size + 1]? = some (.cells #[.pointer none] 122 (0, 0))
  r2 : W.heap[w.heap.size + 2]? = some (.cells #[.bool false] 4 (0, 0))
  up : Below w.heap.size w W
theorem ZO.below {w W W' : World} {cs : Array Value} (h : ZO w cs W) (hb : Below W.heap.size W W') : ZO w cs W' :=
  ⟨h.row.keep hb, (hb.block _ (Array.getElem?_eq_some_iff.1 h.r1).1).trans h.r1, (hb.block _ (Array.getElem?_eq_some_iff.1 h.r2).1).trans h.r2, below_trans h.up hb⟩
theorem zo_start (w : World) (cs : Array Value) : ZO w cs (((w.alloc (.cells cs 41)).alloc (.cells #[.pointer none] 122)).alloc (.cells #[.bool false] 4)) := by
  have b0 := below_var w (.cells cs 41)
  have r0 := Row.new w cs 41
  obtain ⟨W1, hW1⟩ : ∃ W, w.alloc (.cells cs 41) = W := ⟨_, rfl⟩
  have hs1 : W1.heap.size = w.heap.size + 1 := by rw [← hW1]; simp
  rw [hW1] at b0 r0 ⊢
  have b1 := below_var W1 (.cells #[.pointer none] 122)
  have h1 := heap_alloc_last W1 (.cells #[.pointer none] 122)
  obtain ⟨W2, hW2⟩ : ∃ W, W1.alloc (.cells #[.pointer none] 122) = W := ⟨_, rfl⟩
  have hs2 : W2.heap.size = w.heap.size + 2 := by rw [← hW2]; simp [hs1]
  rw [hW2] at b1 h1 ⊢
  rw [hs1] at h1
  have b2 := below_var W2 (.cells #[.bool false] 4)
  have h2 := heap_alloc_last W2 (.cells #[.bool false] 4)
  rw [hs2] at h2
  exact ⟨(r0.keep b1).keep b2, (b2.block _ (by omega)).trans h1, h2, below_trans (below_trans b0 b1) b2⟩
set_option maxRecDepth 10000 in
set_option maxHeartbeats 2000000 in
theorem zopen_flat (z : Zn) (s : Zs) (w : World) (h : ZnFlat z) (hA : IntsAt w w.heap.size s.A z.cal.months) : Calls Tryz.prog 44 #[.agg (znCells z s)] w fun e w' => (∃ b : Nat, e = .returned (.tuple #[pt b, .bool true])) ∧ Below w.heap.size w w' := by
  have hT : z.trans.length = 0 := by rw [h.trans]; rfl
  have hy : z.yearly.length = 0 := by rw [h.yearly]; rfl
  have hr : z.cal.rules.length = 0 := by rw [h.cal.ru]; rfl
  have e0 : znCells z s = #[I z.cal.epoch, .slice s.A z.cal.months.length s.a, I z.cal.leap, .slice s.B 0 s.b, I z.start, .slice s.C 0 s.c, I z.hor, .slice s.D 0 s.d] := by unfold znCells; rw [hy, hT, hr]
  have HV : Hid (∀ w', Below w.heap.size w w' → Calls Tryz.prog 59 #[.agg #[I z.cal.epoch, .slice s.A z.cal.months.length s.a, I z.cal.leap, .slice s.B 0 s.b]] w' (Gives (.bool true) w')) := Lib.hid fun w' hb => by
    have h1 := civilValid_flat z.cal s.A s.a s.B s.b w' ((hA.keep hb).more hb.size) h.cal
    have e1 : calCells z.cal s.A s.a s.B s.b = #[I z.cal.epoch, .slice s.A z.cal.months.length s.a, I z.cal.leap, .slice s.B 0 s.b] := by unfold calCells; rw [hr]
    rwa [e1] at h1
  have HK : Hid (∀ w', Calls Tryz.prog 61 #[.agg #[I z.cal.epoch, .slice s.A z.cal.months.length s.a, I z.cal.leap, .slice s.B 0 s.b, I z.start, .slice s.C 0 s.c, I z.hor, .slice s.D 0 s.d]] w' fun e w2 => (∃ b : Nat, e = .returned (.tuple #[pt b, .bool true])) ∧ Below w'.heap.size w' w2) := Lib.hid fun w' => by
    have := tick_flat z s w' h
    rwa [e0] at this
  have HW1 : Hid (∀ w, Calls Tryz.prog 60 #[I z.start, I 1080] w fun e w' => e = .returned (.bool true) ∧ w' = w) := Lib.hid fun w => zwithin_yes z.start 1080 w (by omega) h.start.1 h.start.2
  have HW2 : Hid (∀ w, Calls Tryz.prog 60 #[I z.hor, I 2251799813685248] w fun e w' => e = .returned (.bool true) ∧ w' = w) := Lib.hid fun w => zwithin_yes z.hor 2251799813685248 w (by omega) h.hor.1 h.hor.2
  have HZ0 := Lib.hid (zo_start w #[I z.cal.epoch, .slice s.A z.cal.months.length s.a, I z.cal.leap, .slice s.B 0 s.b, I z.start, .slice s.C 0 s.c, I z.hor, .slice s.D 0 s.d])
  rw [e0]
  clear h hy hT hr e0 hA
  go_enter Tryz.func44, Tryz.ntmps44
  go_wp2_with fail
  refine (HV.out _ HZ0.out.up).mono ?_
  rintro e w1 ⟨rfl, hb1⟩
  have HZ1 := Lib.hid (HZ0.out.below hb1)
  have k1 := HZ1.out.row.2
  clear hb1 HZ0 HV
  go_wp2_with fail
  refine (HW1.out _).mono ?_
  rintro e w2 ⟨rfl, rfl⟩
  go_wp2_with fail
  refine (HW2.out _).mono ?_
  rintro e w3 ⟨rfl, rfl⟩
  go_wp2_with fail
  go_loopw [37] (fun i wr => i = I 0 ∧ wr = w3) (fun _ _ => 0)
  case atStart => exact ⟨rfl, rfl⟩
  case round =>
    obtain ⟨rfl, rfl⟩ := hrel
    go_wp2_with fail
    go_loopw [90] (fun i wr2 => i = I 0 ∧ wr2 = wr) (fun _ _ => 0)
    case atStart => exact ⟨rfl, rfl⟩
    case round =>
      obtain ⟨rfl, rfl⟩ := hrel
      go_wp2_with fail
      refine (HK.out _).mono ?_
      rintro e w5 ⟨⟨b, rfl⟩, hb5⟩
      have HZ5 := Lib.hid (HZ1.out.below hb5)
      have k5 := HZ5.out.row.2
      have hlt5 : w.heap.size + 1 + 1 < w5.heap.size := (Array.getElem?_eq_some_iff.1 HZ5.out.r2).1
      have hlt3 : w.heap.size < w5.heap.size := by omega
      have hlt4 : w.heap.size + 1 < w5.heap.size := by omega
      have c1 : w5.cell? ⟨w.heap.size + 1, 0, none⟩ = some (.pointer none) := cell_of_row w5 _ 0 _ _ _ HZ5.out.r1
      have c2 : w5.cell? ⟨w.heap.size + 1 + 1, 0, none⟩ = some (.bool false) := cell_of_row w5 _ 0 _ _ _ HZ5.out.r2
      have f1 : w5.frozen? ⟨w.heap.size + 1, 0, none⟩ = false := frozen_of_row w5 _ 0 _ _ HZ5.out.r1
      have f2 : w5.frozen? ⟨w.heap.size + 1 + 1, 0, none⟩ = false := frozen_of_row w5 _ 0 _ _ HZ5.out.r2
      clear hb5 HZ1 k1 HK
      go_wp2_with fail
      refine bodyPost_ret (v := .tuple #[pt b, .bool true]) (results_two rfl _ _ ⟨w.heap.size + 1, 0, none⟩ ⟨w.heap.size + 1 + 1, 0, none⟩ (pt b) (.bool true) rfl (load_clock _ _ _ ?_) rfl (load_boolv _ _ _ ?_)) rfl ⟨⟨b, rfl⟩, ?_⟩
      · go_simp
      · go_simp
      · exact below_trans ((HZ5.out.up.setCell (p := ⟨w.heap.size + 1, 0, none⟩) (Nat.le_succ _) _).setCell (p := ⟨w.heap.size + 1 + 1, 0, none⟩) (by show w.heap.size ≤ w.heap.size + 1 + 1; omega) _) (below_trans (below_var _ _) (below_var _ _))
set_option maxRecDepth 10000 in
set_option maxHeartbeats 1000000 in
theorem zoneValid_flat (z : Zn) (s : Zs) (w : World) (h : ZnFlat z) (hA : IntsAt w w.heap.size s.A z.cal.months) : Calls Tryz.prog 30 #[.agg (znCells z s)] w (Gives (I 0) w) := by
  have hT : z.trans.length = 0 := by rw [h.trans]; rfl
  have HO : Hid (∀ w', Below w.heap.size w w' → Calls Tryz.prog 44 #[.agg (znCells z s)] w' fun e w2 => (∃ b : Nat, e = .returned (.tuple #[pt b, .bool true])) ∧ Below w'.heap.size w' w2) := Lib.hid fun w' hb => zopen_flat z s w' h ((hA.keep hb).more hb.size)
  have HR0 := Lib.hid (Row.new w (znCells z s) 41)
  have HB0 := Lib.hid (below_var w (.cells (znCells z s) 41))
  have e0 : znCells z s = #[I z.cal.epoch, .slice s.A z.cal.months.length s.a, I z.cal.leap, .slice s.B z.cal.rules.length s.b, I z.start, .slice s.C 0 s.c, I z.hor, .slice s.D z.yearly.length s.d] := by unfold znCells; rw [hT]
  rw [e0] at HO HR0 HB0 ⊢
  clear h hT e0 hA
  go_enter Tryz.func30, Tryz.ntmps30
  go_wp2_with fail
  refine (HO.out _ HB0.out).mono ?_
  rintro e w1 ⟨⟨b, rfl⟩, hb1⟩
  have HB1 := Lib.hid (below_trans HB0.out hb1)
  clear hb1
  go_wp2_with fail
  go_ret
  exact ⟨rfl, HB1.out⟩
end Go.Proofs.YtbdkalpljhpnmaaGreat
