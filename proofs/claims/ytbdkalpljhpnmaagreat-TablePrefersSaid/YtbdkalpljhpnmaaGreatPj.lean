/- kalendsref14.SameCalendar, SameZone: one zone in two memories. -/
import Derived.Test.YtbdkalpljhpnmaaGreatPi
import Derived.BigQuiet
import Derived.Deep.AppendLies
import Derived.Deep.CutBlock
import Derived.Deep.DeepCutAuto
import Derived.Deep.DrawnRows
import Derived.Deep.MidRow
import Derived.Deep.QuietTactic
import Derived.Deep.RegionHeld3
import Derived.Deep.RegionLaw
import Derived.Deep.WholeRow
import Derived.Great.BuildSlice
import Derived.Laws.BytesString
import Derived.Laws.CopyOwn
import Derived.Laws.EntriesVeiled
import Derived.Laws.MakeOwn
import Derived.Laws.ResultCell
import Derived.Laws.Rows
import Derived.Laws.Tables
import Derived.Lib.Hide
import Derived.LoopIn
import Derived.LoopNIn
import Derived.Maps.AppendAt
import Derived.Outline
import Derived.OwnWalkIn
import Derived.RangeFuncBound
import Derived.RangeFuncBox
import Derived.RangeFuncCalls
import Derived.RangeFuncLeaves
import Derived.RangeFuncNested
import Derived.Shelf.Abstract
import Derived.Shelf.Bytes.SlSmallAll
import Derived.Shelf.RegionOpen
import Derived.StillTailTactics
import Derived.Stop.BytesEq
import Derived.TacticsInMore
import Derived.WalkKit
import Derived.WalkLawsBesides
import Derived.WalkSpells
namespace Go.Proofs.YtbdkalpljhpnmaaGreat
open Go Go.RowKit

theorem neq_lr (a b : Int) (c : Bool) (W : World) : (binOp .neq 105 (.agg #[I a, I b, .bool c]) (.agg #[I a, I b, .bool c])).run Tryz.prog W = .ok (.bool false) W := by simp [go_sem]
theorem neq_tr (a b : Int) (W : World) : (binOp .neq 78 (.agg #[I a, I b]) (.agg #[I a, I b])).run Tryz.prog W = .ok (.bool false) W := by simp [go_sem]
theorem neq_yr (a b c d e : Int) (W : World) : (binOp .neq 80 (.agg #[I a, I b, I c, I d, I e]) (.agg #[I a, I b, I c, I d, I e])).run Tryz.prog W = .ok (.bool false) W := by simp [go_sem]
/-- Two variables with the two values, and what lies below. -/
structure TwoV (w : World) (t : TypeId) (us vs : Array Value) (W : World) : Prop where
  a : Row W w.heap.size us
  b : Row W (w.heap.size + 1) vs
  up : Below w.heap.size w W
theorem TwoV.start (w : World) (t : TypeId) (us vs : Array Value) : TwoV w t us vs ((w.alloc (.cells us t)).alloc (.cells vs t)) :=
  ⟨Row.of_blk (heap_alloc2_old w _ _), Row.of_blk (heap_alloc2_new w _ _), below_trans (below_var w _) (below_var _ _)⟩
theorem TwoV.drew {w W : World} {t : TypeId} {us vs : Array Value} (h : TwoV w t us vs W) (q : Nat) : TwoV w t us vs (W.drewN q) :=
  ⟨h.a.keep (below_drewN' _ _), h.b.keep (below_drewN' _ _), below_trans h.up (below_drewN' _ _)⟩
theorem TwoV.below {w W W' : World} {t : TypeId} {us vs : Array Value} (h : TwoV w t us vs W) (hb : Below W.heap.size W W') : TwoV w t us vs W' :=
  ⟨h.a.keep hb, h.b.keep hb, below_trans h.up hb⟩
def TwoRel (w : World) (t : TypeId) (us vs : Array Value) (n : Nat) (i : Value) (wr : World) : Prop := ∃ k : Nat, k ≤ n ∧ i = .int .i64 k ∧ TwoV w t us vs wr
/-- One element of two lists that lie in two places. -/
theorem two_at {w W : World} {A A' : Option Addr} {α : Type} {s : Nat} {f : α → List Value} {xs : List α} (hs : ∀ x ∈ xs, (f x).length = s) (h : CellsAt w w.heap.size A (xs.flatMap f)) (h' : CellsAt w w.heap.size A' (xs.flatMap f)) (hb : Below w.heap.size w W) (k : Nat) (hk : k < xs.length) (h0 : 0 < s) :
    ∃ x b off b' off', xs[k]? = some x ∧ A = some ⟨b, off, none⟩ ∧ A' = some ⟨b', off', none⟩ ∧ W.rangeAt b (off + k * s) (f x) ∧ W.rangeAt b' (off' + k * s) (f x) := by
  have hl : 0 < (xs.flatMap f).length := by rw [flat_len f xs hs]; exact Nat.mul_pos (by omega) h0
  obtain ⟨b, off, e1, hb1, hc1⟩ := h.there hl
  obtain ⟨b', off', e2, hb2, hc2⟩ := h'.there hl
  have hx : xs[k]? = some xs[k] := List.getElem?_eq_getElem hk
  exact ⟨xs[k], b, off, b', off', hx, e1, e2, rangeAt_keep (CellsAt.elem hs hc1 k _ hx) hb hb1, rangeAt_keep (CellsAt.elem hs hc2 k _ hx) hb hb2⟩
theorem ints_flat (zs : List Int) : zs.map I = zs.flatMap (fun z => [I z]) := by
  induction zs with
  | nil => rfl
  | cons z zs ih => rw [List.map_cons, ih, List.flatMap_cons]; rfl
set_option maxRecDepth 10000 in
set_option maxHeartbeats 4000000 in
theorem sameCal_self (c : Cal) (A1 A2 B1 B2 : Option Addr) (a1 a2 b1 b2 n m : Nat) (w : World) (hn : c.months.length = n) (hm : c.rules.length = m) (hn1 : n ≤ 10000) (hmm : m ≤ 10000) (hm1 : CellsAt w w.heap.size A1 (c.months.map I)) (hm2 : CellsAt w w.heap.size A2 (c.months.map I)) (hr1 : CellsAt w w.heap.size B1 (c.rules.flatMap Lr.cells)) (hr2 : CellsAt w w.heap.size B2 (c.rules.flatMap Lr.cells)) :
    Calls Tryz.prog 25 #[.agg (calCells c A1 a1 B1 b1), .agg (calCells c A2 a2 B2 b2)] w (Gives (.bool true) w) := by
  rw [ints_flat] at hm1 hm2
  have HC : Hid (CellsAt w w.heap.size A1 (c.months.flatMap fun z => [I z]) ∧ CellsAt w w.heap.size A2 (c.months.flatMap fun z => [I z]) ∧ CellsAt w w.heap.size B1 (c.rules.flatMap Lr.cells) ∧ CellsAt w w.heap.size B2 (c.rules.flatMap Lr.cells)) := Lib.hid ⟨hm1, hm2, hr1, hr2⟩
  have HV := Lib.hid (TwoV.start w 37 (calCells c A1 a1 B1 b1) (calCells c A2 a2 B2 b2))
  clear hm1 hm2 hr1 hr2
  have g0 := HV.out.a.2
  have g1 := HV.out.b.2
  have p0 : ((w.alloc (.cells (calCells c A1 a1 B1 b1) 37)).alloc (.cells (calCells c A2 a2 B2 b2) 37)).cell? ⟨w.heap.size, 0, none⟩ = some (I c.epoch) := g0 0
  have p1 : ((w.alloc (.cells (calCells c A1 a1 B1 b1) 37)).alloc (.cells (calCells c A2 a2 B2 b2) 37)).cell? ⟨w.heap.size, 1, none⟩ = some (.slice A1 n a1) := by rw [g0 1, ← hn]; rfl
  have p2 : ((w.alloc (.cells (calCells c A1 a1 B1 b1) 37)).alloc (.cells (calCells c A2 a2 B2 b2) 37)).cell? ⟨w.heap.size, 2, none⟩ = some (I c.leap) := g0 2
  have p3 : ((w.alloc (.cells (calCells c A1 a1 B1 b1) 37)).alloc (.cells (calCells c A2 a2 B2 b2) 37)).cell? ⟨w.heap.size, 3, none⟩ = some (.slice B1 m b1) := by rw [g0 3, ← hm]; rfl
  have q0 : ((w.alloc (.cells (calCells c A1 a1 B1 b1) 37)).alloc (.cells (calCells c A2 a2 B2 b2) 37)).cell? ⟨w.heap.size + 1, 0, none⟩ = some (I c.epoch) := g1 0
  have q1 : ((w.alloc (.cells (calCells c A1 a1 B1 b1) 37)).alloc (.cells (calCells c A2 a2 B2 b2) 37)).cell? ⟨w.heap.size + 1, 1, none⟩ = some (.slice A2 n a2) := by rw [g1 1, ← hn]; rfl
  have q2 : ((w.alloc (.cells (calCells c A1 a1 B1 b1) 37)).alloc (.cells (calCells c A2 a2 B2 b2) 37)).cell? ⟨w.heap.size + 1, 2, none⟩ = some (I c.leap) := g1 2
  have q3 : ((w.alloc (.cells (calCells c A1 a1 B1 b1) 37)).alloc (.cells (calCells c A2 a2 B2 b2) 37)).cell? ⟨w.heap.size + 1, 3, none⟩ = some (.slice B2 m b2) := by rw [g1 3, ← hm]; rfl
  clear g0 g1
  go_enter Tryz.func25, Tryz.ntmps25
  go_wp2_with fail
  clear p0 p1 p2 p3 q0 q1 q2 q3
  go_loopw [5] (fun i wr => TwoRel w 37 (calCells c A1 a1 B1 b1) (calCells c A2 a2 B2 b2) n i wr) (fun i _ => n - (intOf i).toNat)
  case atStart => exact ⟨0, Nat.zero_le _, rfl, HV.out⟩
  case round =>
    obtain ⟨k, hk, rfl, hv⟩ := hrel
    have HW := Lib.hid hv
    clear hv
    by_cases hlt : k < n
    · obtain ⟨x, ba, oa, bc, oc, hx, e1, e2, hr1, hr2⟩ := two_at (s := 1) (f := fun z => [I z]) (xs := c.months) (fun _ _ => rfl) HC.out.1 HC.out.2.1 HW.out.up k (by omega) (by omega)
      have v1 : wr.cell? ⟨w.heap.size, 1, none⟩ = some (.slice (some ⟨ba, oa, none⟩) n a1) := by rw [HW.out.a.2 1, ← e1]; exact (by rw [← hn]; rfl)
      have v2 : wr.cell? ⟨w.heap.size + 1, 1, none⟩ = some (.slice (some ⟨bc, oc, none⟩) n a2) := by rw [HW.out.b.2 1, ← e2]; exact (by rw [← hn]; rfl)
      have c0 : wr.cell? ⟨ba, oa + k, none⟩ = some (I x) := by have h := hr1 0 _ rfl; rwa [Nat.mul_one] at h
      have d0 : wr.cell? ⟨bc, oc + k, none⟩ = some (I x) := by have h := hr2 0 _ rfl; rwa [Nat.mul_one] at h
      have i0 : (0 : Int) ≤ (k : Int) := by omega
      have i1 : (k : Int) < (n : Int) := by omega
      clear hx e1 e2 hr1 hr2
      go_wp2_with fail
      go_quiet (fail)
      go_wp2_with fail
      go_roundw
      case rel => exact ⟨k + 1, by omega, by go_num, HW.out.drew _⟩
      case measure => simp [intOf]; omega
    · have hke : k = n := by omega
      have hnl : ¬ (k : Int) < (n : Int) := by omega
      have v1 := HW.out.a.2 1
      have u1 : wr.cell? ⟨w.heap.size, 1, none⟩ = some (.slice A1 n a1) := by rw [v1, ← hn]; rfl
      clear v1 hke hlt
      have v3 := HW.out.a.2 3
      have u3 : wr.cell? ⟨w.heap.size, 3, none⟩ = some (.slice B1 m b1) := by rw [v3, ← hm]; rfl
      clear v3
      go_wp2_with fail
      clear u3 hnl u1
      go_loopw [6] (fun i wr => TwoRel w 37 (calCells c A1 a1 B1 b1) (calCells c A2 a2 B2 b2) m i wr) (fun i _ => m - (intOf i).toNat)
      case atStart => exact ⟨0, Nat.zero_le _, rfl, HW.out⟩
      case round =>
        obtain ⟨k, hk, rfl, hv⟩ := hrel
        have HW := Lib.hid hv
        clear hv
        by_cases hlt : k < m
        · obtain ⟨x, ba, oa, bc, oc, hx, e1, e2, hr1, hr2⟩ := two_at (s := 3) (f := Lr.cells) (xs := c.rules) (fun _ _ => rfl) HC.out.2.2.1 HC.out.2.2.2 HW.out.up k (by omega) (by omega)
          have v1 : wr.cell? ⟨w.heap.size, 3, none⟩ = some (.slice (some ⟨ba, oa, none⟩) m b1) := by rw [HW.out.a.2 3, ← e1]; exact (by rw [← hm]; rfl)
          have v2 : wr.cell? ⟨w.heap.size + 1, 3, none⟩ = some (.slice (some ⟨bc, oc, none⟩) m b2) := by rw [HW.out.b.2 3, ← e2]; exact (by rw [← hm]; rfl)
          have c0 : wr.cell? ⟨ba, oa + k * 3, none⟩ = some (I x.every) := hr1 0 _ rfl
          have d0 : wr.cell? ⟨bc, oc + k * 3, none⟩ = some (I x.every) := hr2 0 _ rfl
          have c1 : wr.cell? ⟨ba, oa + k * 3 + 1, none⟩ = some (I x.rest) := hr1 1 _ rfl
          have d1 : wr.cell? ⟨bc, oc + k * 3 + 1, none⟩ = some (I x.rest) := hr2 1 _ rfl
          have c2 : wr.cell? ⟨ba, oa + k * 3 + 2, none⟩ = some (.bool x.yes) := hr1 2 _ rfl
          have d2 : wr.cell? ⟨bc, oc + k * 3 + 2, none⟩ = some (.bool x.yes) := hr2 2 _ rfl
          have i0 : (0 : Int) ≤ (k : Int) := by omega
          have i1 : (k : Int) < (m : Int) := by omega
          have hq := fun W => neq_lr x.every x.rest x.yes W
          clear hx e1 e2 hr1 hr2
          go_wp2_with fail
          go_quiet (fail)
          go_wp2_with fail
          go_roundw
          case rel => exact ⟨k + 1, by omega, by go_num, HW.out.drew _⟩
          case measure => simp [intOf]; omega
        · have hke : k = m := by omega
          have hnl : ¬ (k : Int) < (m : Int) := by omega
          have v1 := HW.out.a.2 3
          have u1 : wr.cell? ⟨w.heap.size, 3, none⟩ = some (.slice B1 m b1) := by rw [v1, ← hm]; rfl
          clear v1 hke hlt
          go_wp2_with fail
          go_ret
          exact ⟨rfl, HW.out.up⟩
set_option maxRecDepth 10000 in
set_option maxHeartbeats 4000000 in
theorem sameZone_self (z : Zn) (s1 s2 : Zs) (n m : Nat) (w : World) (hl : ZnLen z) (hn : z.trans.length = n) (hm : z.yearly.length = m) (h1 : ZnAt w w.heap.size s1 z) (h2 : ZnAt w w.heap.size s2 z) :
    Calls Tryz.prog 9 #[.agg (znCells z s1), .agg (znCells z s2)] w (Gives (.bool true) w) := by
  have hn1 : n ≤ 10000 := by have := hl.trans; omega
  have hmm : m ≤ 10000 := by have := hl.yearly; omega
  have HC : Hid (ZnAt w w.heap.size s1 z ∧ ZnAt w w.heap.size s2 z) := Lib.hid ⟨h1, h2⟩
  have HV := Lib.hid (TwoV.start w 41 (znCells z s1) (znCells z s2))
  have HCAL : Hid (Calls Tryz.prog 25 #[.agg #[I z.cal.epoch, .slice s1.A z.cal.months.length s1.a, I z.cal.leap, .slice s1.B z.cal.rules.length s1.b], .agg #[I z.cal.epoch, .slice s2.A z.cal.months.length s2.a, I z.cal.leap, .slice s2.B z.cal.rules.length s2.b]] ((w.alloc (.cells (znCells z s1) 41)).alloc (.cells (znCells z s2) 41)) (Gives (.bool true) ((w.alloc (.cells (znCells z s1) 41)).alloc (.cells (znCells z s2) 41)))) :=
    Lib.hid (sameCal_self z.cal s1.A s2.A s1.B s2.B s1.a s2.a s1.b s2.b _ _ ((w.alloc (.cells (znCells z s1) 41)).alloc (.cells (znCells z s2) 41)) rfl rfl hl.months hl.rules (h1.months.keep HV.out.up |>.more HV.out.up.size) (h2.months.keep HV.out.up |>.more HV.out.up.size) (h1.rules.keep HV.out.up |>.more HV.out.up.size) (h2.rules.keep HV.out.up |>.more HV.out.up.size))
  clear h1 h2 hl
  have g0 := HV.out.a.2
  have g1 := HV.out.b.2
  have p0 : ((w.alloc (.cells (znCells z s1) 41)).alloc (.cells (znCells z s2) 41)).cell? ⟨w.heap.size, 0, none⟩ = some (I z.cal.epoch) := g0 0
  have p1 : ((w.alloc (.cells (znCells z s1) 41)).alloc (.cells (znCells z s2) 41)).cell? ⟨w.heap.size, 1, none⟩ = some (.slice s1.A z.cal.months.length s1.a) := g0 1
  have p2 : ((w.alloc (.cells (znCells z s1) 41)).alloc (.cells (znCells z s2) 41)).cell? ⟨w.heap.size, 2, none⟩ = some (I z.cal.leap) := g0 2
  have p3 : ((w.alloc (.cells (znCells z s1) 41)).alloc (.cells (znCells z s2) 41)).cell? ⟨w.heap.size, 3, none⟩ = some (.slice s1.B z.cal.rules.length s1.b) := g0 3
  have p4 : ((w.alloc (.cells (znCells z s1) 41)).alloc (.cells (znCells z s2) 41)).cell? ⟨w.heap.size, 4, none⟩ = some (I z.start) := g0 4
  have p5 : ((w.alloc (.cells (znCells z s1) 41)).alloc (.cells (znCells z s2) 41)).cell? ⟨w.heap.size, 5, none⟩ = some (.slice s1.C n s1.c) := by rw [g0 5, ← hn]; rfl
  have p6 : ((w.alloc (.cells (znCells z s1) 41)).alloc (.cells (znCells z s2) 41)).cell? ⟨w.heap.size, 6, none⟩ = some (I z.hor) := g0 6
  have p7 : ((w.alloc (.cells (znCells z s1) 41)).alloc (.cells (znCells z s2) 41)).cell? ⟨w.heap.size, 7, none⟩ = some (.slice s1.D m s1.d) := by rw [g0 7, ← hm]; rfl
  have q0 : ((w.alloc (.cells (znCells z s1) 41)).alloc (.cells (znCells z s2) 41)).cell? ⟨w.heap.size + 1, 0, none⟩ = some (I z.cal.epoch) := g1 0
  have q1 : ((w.alloc (.cells (znCells z s1) 41)).alloc (.cells (znCells z s2) 41)).cell? ⟨w.heap.size + 1, 1, none⟩ = some (.slice s2.A z.cal.months.length s2.a) := g1 1
  have q2 : ((w.alloc (.cells (znCells z s1) 41)).alloc (.cells (znCells z s2) 41)).cell? ⟨w.heap.size + 1, 2, none⟩ = some (I z.cal.leap) := g1 2
  have q3 : ((w.alloc (.cells (znCells z s1) 41)).alloc (.cells (znCells z s2) 41)).cell? ⟨w.heap.size + 1, 3, none⟩ = some (.slice s2.B z.cal.rules.length s2.b) := g1 3
  have q4 : ((w.alloc (.cells (znCells z s1) 41)).alloc (.cells (znCells z s2) 41)).cell? ⟨w.heap.size + 1, 4, none⟩ = some (I z.start) := g1 4
  have q5 : ((w.alloc (.cells (znCells z s1) 41)).alloc (.cells (znCells z s2) 41)).cell? ⟨w.heap.size + 1, 5, none⟩ = some (.slice s2.C n s2.c) := by rw [g1 5, ← hn]; rfl
  have q6 : ((w.alloc (.cells (znCells z s1) 41)).alloc (.cells (znCells z s2) 41)).cell? ⟨w.heap.size + 1, 6, none⟩ = some (I z.hor) := g1 6
  have q7 : ((w.alloc (.cells (znCells z s1) 41)).alloc (.cells (znCells z s2) 41)).cell? ⟨w.heap.size + 1, 7, none⟩ = some (.slice s2.D m s2.d) := by rw [g1 7, ← hm]; rfl
  clear g0 g1
  go_enter Tryz.func9, Tryz.ntmps9
  go_wp2_with fail
  clear p0 p1 p2 p3 p4 p5 p6 p7 q0 q1 q2 q3 q4 q5 q6 q7
  refine HCAL.out.mono ?_
  rintro e w2 ⟨rfl, hb2⟩
  have HV2 := Lib.hid (HV.out.below hb2)
  have t1 : w2.cell? ⟨w.heap.size, 5, none⟩ = some (.slice s1.C n s1.c) := by rw [HV2.out.a.2 5, ← hn]; rfl
  clear hb2 HCAL HV
  go_wp2_with fail
  clear t1
  go_loopw [5] (fun i wr => TwoRel w 41 (znCells z s1) (znCells z s2) n i wr) (fun i _ => n - (intOf i).toNat)
  case atStart => exact ⟨0, Nat.zero_le _, rfl, HV2.out⟩
  case round =>
    obtain ⟨k, hk, rfl, hv⟩ := hrel
    have HW := Lib.hid hv
    clear hv
    by_cases hlt : k < n
    · obtain ⟨x, ba, oa, bc, oc, hx, e1, e2, hr1, hr2⟩ := two_at (s := 2) (f := Tr.cells) (xs := z.trans) (fun _ _ => rfl) HC.out.1.trans HC.out.2.trans HW.out.up k (by omega) (by omega)
      have v1 : wr.cell? ⟨w.heap.size, 5, none⟩ = some (.slice (some ⟨ba, oa, none⟩) n s1.c) := by rw [HW.out.a.2 5, ← e1]; exact (by rw [← hn]; rfl)
      have v2 : wr.cell? ⟨w.heap.size + 1, 5, none⟩ = some (.slice (some ⟨bc, oc, none⟩) n s2.c) := by rw [HW.out.b.2 5, ← e2]; exact (by rw [← hn]; rfl)
      have c0 : wr.cell? ⟨ba, oa + k * 2, none⟩ = some (I x.at_) := hr1 0 _ rfl
      have d0 : wr.cell? ⟨bc, oc + k * 2, none⟩ = some (I x.at_) := hr2 0 _ rfl
      have c1 : wr.cell? ⟨ba, oa + k * 2 + 1, none⟩ = some (I x.off) := hr1 1 _ rfl
      have d1 : wr.cell? ⟨bc, oc + k * 2 + 1, none⟩ = some (I x.off) := hr2 1 _ rfl
      have i0 : (0 : Int) ≤ (k : Int) := by omega
      have i1 : (k : Int) < (n : Int) := by omega
      have hq := fun W => neq_tr x.at_ x.off W
      clear hx e1 e2 hr1 hr2
      go_wp2_with fail
      go_quiet (fail)
      go_wp2_with fail
      go_roundw
      case rel => exact ⟨k + 1, by omega, by go_num, HW.out.drew _⟩
      case measure => simp [intOf]; omega
    · have hke : k = n := by omega
      have hnl : ¬ (k : Int) < (n : Int) := by omega
      have v1 := HW.out.a.2 5
      have u1 : wr.cell? ⟨w.heap.size, 5, none⟩ = some (.slice s1.C n s1.c) := by rw [v1, ← hn]; rfl
      clear v1 hke hlt
      have v3 := HW.out.a.2 7
      have u3 : wr.cell? ⟨w.heap.size, 7, none⟩ = some (.slice s1.D m s1.d) := by rw [v3, ← hm]; rfl
      clear v3
      go_wp2_with fail
      clear u3 hnl u1
      go_loopw [6] (fun i wr => TwoRel w 41 (znCells z s1) (znCells z s2) m i wr) (fun i _ => m - (intOf i).toNat)
      case atStart => exact ⟨0, Nat.zero_le _, rfl, HW.out⟩
      case round =>
        obtain ⟨k, hk, rfl, hv⟩ := hrel
        have HW := Lib.hid hv
        clear hv
        by_cases hlt : k < m
        · obtain ⟨x, ba, oa, bc, oc, hx, e1, e2, hr1, hr2⟩ := two_at (s := 5) (f := Yr.cells) (xs := z.yearly) (fun _ _ => rfl) HC.out.1.yearly HC.out.2.yearly HW.out.up k (by omega) (by omega)
          have v1 : wr.cell? ⟨w.heap.size, 7, none⟩ = some (.slice (some ⟨ba, oa, none⟩) m s1.d) := by rw [HW.out.a.2 7, ← e1]; exact (by rw [← hm]; rfl)
          have v2 : wr.cell? ⟨w.heap.size + 1, 7, none⟩ = some (.slice (some ⟨bc, oc, none⟩) m s2.d) := by rw [HW.out.b.2 7, ← e2]; exact (by rw [← hm]; rfl)
          have c0 : wr.cell? ⟨ba, oa + k * 5, none⟩ = some (I x.month) := hr1 0 _ rfl
          have d0 : wr.cell? ⟨bc, oc + k * 5, none⟩ = some (I x.month) := hr2 0 _ rfl
          have c1 : wr.cell? ⟨ba, oa + k * 5 + 1, none⟩ = some (I x.week) := hr1 1 _ rfl
          have d1 : wr.cell? ⟨bc, oc + k * 5 + 1, none⟩ = some (I x.week) := hr2 1 _ rfl
          have c2 : wr.cell? ⟨ba, oa + k * 5 + 2, none⟩ = some (I x.wday) := hr1 2 _ rfl
          have d2 : wr.cell? ⟨bc, oc + k * 5 + 2, none⟩ = some (I x.wday) := hr2 2 _ rfl
          have c3 : wr.cell? ⟨ba, oa + k * 5 + 3, none⟩ = some (I x.minute) := hr1 3 _ rfl
          have d3 : wr.cell? ⟨bc, oc + k * 5 + 3, none⟩ = some (I x.minute) := hr2 3 _ rfl
          have c4 : wr.cell? ⟨ba, oa + k * 5 + 4, none⟩ = some (I x.off) := hr1 4 _ rfl
          have d4 : wr.cell? ⟨bc, oc + k * 5 + 4, none⟩ = some (I x.off) := hr2 4 _ rfl
          have i0 : (0 : Int) ≤ (k : Int) := by omega
          have i1 : (k : Int) < (m : Int) := by omega
          have hq := fun W => neq_yr x.month x.week x.wday x.minute x.off W
          clear hx e1 e2 hr1 hr2
          go_wp2_with fail
          go_quiet (fail)
          go_wp2_with fail
          go_roundw
          case rel => exact ⟨k + 1, by omega, by go_num, HW.out.drew _⟩
          case measure => simp [intOf]; omega
        · have hke : k = m := by omega
          have hnl : ¬ (k : Int) < (m : Int) := by omega
          have v1 := HW.out.a.2 7
          have u1 : wr.cell? ⟨w.heap.size, 7, none⟩ = some (.slice s1.D m s1.d) := by rw [v1, ← hm]; rfl
          clear v1 hke hlt
          go_wp2_with fail
          go_ret
          exact ⟨rfl, HW.out.up⟩
end Go.Proofs.YtbdkalpljhpnmaaGreat
