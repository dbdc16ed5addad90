/- kalendsref02 on the calendars of made zones. -/
import Derived.Test.YtbdkalpljhpnmaaGreatPb
import Derived.Test.YtbdkalpljhpnmaaGreatQd
import Derived.BigQuiet
import Derived.Deep.AppendLies
import Derived.Deep.CutBlock
import Derived.Deep.DeepCutAuto
import Derived.Deep.DrawnRows
import Derived.Deep.MidRow
import Derived.Deep.QuietTactic
import Derived.Deep.RegionHeld3
import Derived.Deep.RegionLaw
import Derived.Deep.WholeRow
import Derived.Great.BuildSlice
import Derived.Handy
import Derived.Laws.BytesString
import Derived.Laws.CopyOwn
import Derived.Laws.EntriesVeiled
import Derived.Laws.MakeOwn
import Derived.Laws.ResultCell
import Derived.Laws.Rows
import Derived.Laws.Tables
import Derived.Lib.Hide
import Derived.LoopIn
import Derived.LoopNIn
import Derived.Maps.AppendAt
import Derived.Outline
import Derived.OwnWalkIn
import Derived.RangeFuncBound
import Derived.RangeFuncBox
import Derived.RangeFuncCalls
import Derived.RangeFuncLeaves
import Derived.RangeFuncNested
import Derived.Shelf.Abstract
import Derived.Shelf.Bytes.SlSmallAll
import Derived.Shelf.RegionOpen
import Derived.StillTailTactics
import Derived.Stop.BytesEq
import Derived.TacticsInMore
import Derived.WalkKit
import Derived.WalkLawsBesides
import Derived.WalkSpells
namespace Go.Proofs.YtbdkalpljhpnmaaGreat
open Go Go.RowKit

/-- The calendars of made zones. -/
structure CalS (c : Cal) : Prop where
  ep : 0 ≤ c.epoch ∧ c.epoch ≤ 100
  mo : c.months.length = 2
  all : ∀ x ∈ c.months, 6 ≤ x ∧ x ≤ 8
  le : -1 ≤ c.leap ∧ c.leap < 2
  ru : c.rules.length ≤ 1
  nl : c.leap = -1 → c.rules.length = 0
  rl : ∀ r ∈ c.rules, r.every = 2 ∧ 0 ≤ r.rest ∧ r.rest < 2
/-- A calendar's lists in memory older than block B. -/
structure CalM (w : World) (B : Nat) (A : Option Addr) (R : Option Addr) (c : Cal) : Prop where
  months : CellsAt w B A (c.months.map I)
  rules : CellsAt w B R (c.rules.flatMap Lr.cells)
theorem CalM.grow {w w' : World} {A R : Option Addr} {c : Cal} (h : CalM w w.heap.size A R c) (hb : Below w.heap.size w w') : CalM w' w'.heap.size A R c := ⟨h.months.grow hb, h.rules.grow hb⟩
theorem CalM.month {w W : World} {A R : Option Addr} {c : Cal} (h : CalM w w.heap.size A R c) (hc : CalS c) (hb : Below w.heap.size w W) (k : Nat) (hk : k < 2) : ∃ x b off, c.months[k]? = some x ∧ A = some ⟨b, off, none⟩ ∧ W.cell? ⟨b, off + k, none⟩ = some (I x) ∧ 6 ≤ x ∧ x ≤ 8 := by
  have hl : k < c.months.length := by rw [hc.mo]; exact hk
  obtain ⟨b, off, e, hb1, hcl⟩ := h.months.there (by rw [List.length_map, hc.mo]; omega)
  have hx := List.getElem?_eq_getElem hl
  refine ⟨_, b, off, hx, e, ?_, hc.all _ (List.getElem_mem hl)⟩
  rw [hb.cell (p := ⟨b, off + k, none⟩) hb1]
  exact hcl k _ (by rw [List.getElem?_map, hx]; rfl)
set_option maxRecDepth 10000 in
set_option maxHeartbeats 1000000 in
theorem gcd12 (w : World) : Calls Tryz.prog 90 #[I 1, I 2] w fun e w' => e = .returned (I 1) ∧ w' = w := by
  go_enter Tryz.func90, Tryz.ntmps90
  go_wp2_with fail
  go_loopw [0, 1] (fun a b wr => wr = w ∧ ((a = I 1 ∧ b = I 2) ∨ (a = I 2 ∧ b = I 1) ∨ (a = I 1 ∧ b = I 0))) (fun _ b _ => (intOf b).toNat)
  case atStart => exact ⟨rfl, .inl ⟨rfl, rfl⟩⟩
  case round =>
    obtain ⟨rfl, ⟨rfl, rfl⟩ | ⟨rfl, rfl⟩ | ⟨rfl, rfl⟩⟩ := hrel
    · go_wp2_with fail
      go_roundw
      case rel => exact ⟨by first | trivial | rfl, .inr (.inl ⟨by first | trivial | rfl, by first | trivial | rfl⟩)⟩
      case measure => simp [intOf]
    · go_wp2_with fail
      go_roundw
      case rel => exact ⟨by first | trivial | rfl, .inr (.inr ⟨by first | trivial | rfl, by first | trivial | rfl⟩)⟩
      case measure => simp [intOf]
    · go_wp2_with fail
      go_ret
      exact ⟨rfl, rfl⟩
/-- The calendar's variable. -/
structure CalV (w : World) (cs : Array Value) (W : World) : Prop where
  row : Row W w.heap.size cs
  up : Below w.heap.size w W
theorem CalV.grow {w W W' : World} {cs : Array Value} (h : CalV w cs W) (hb : Below W.heap.size W W') : CalV w cs W' := ⟨h.row.keep hb, below_trans h.up hb⟩
theorem CalV.start (w : World) (cs : Array Value) (t : TypeId) : CalV w cs (w.alloc (.cells cs t)) := ⟨Row.new w cs t, below_var w _⟩
theorem CalS.form {c : Cal} (hc : CalS c) : ∃ ep m0 m1 lp rs, c = ⟨ep, [m0, m1], lp, rs⟩ ∧ (0 ≤ ep ∧ ep ≤ 100) ∧ (6 ≤ m0 ∧ m0 ≤ 8) ∧ (6 ≤ m1 ∧ m1 ≤ 8) ∧ (-1 ≤ lp ∧ lp < 2) ∧ (rs = [] ∨ ∃ q y, rs = [⟨2, q, y⟩] ∧ 0 ≤ q ∧ q < 2 ∧ lp ≠ -1) := by
  obtain ⟨ep, mo, lp, rs⟩ := c
  obtain ⟨h1, h2, h3, h4, h5, h6, h7⟩ := hc
  simp only at h1 h2 h3 h4 h5 h6 h7
  match mo, h2 with
  | [m0, m1], _ =>
    refine ⟨ep, m0, m1, lp, rs, rfl, h1, h3 m0 (by simp), h3 m1 (by simp), h4, ?_⟩
    match rs, h5 with
    | [], _ => exact .inl rfl
    | [⟨e, q, y⟩], _ =>
      obtain ⟨z1, z2, z3⟩ := h7 ⟨e, q, y⟩ (by simp)
      simp only at z1 z2 z3
      subst z1
      exact .inr ⟨q, y, rfl, z2, z3, fun e => by have := h6 e; simp at this⟩
/-- What is read of a calendar. -/
theorem CalM.two {w W : World} {A R : Option Addr} {ep m0 m1 lp : Int} {rs : List Lr} (h : CalM w w.heap.size A R ⟨ep, [m0, m1], lp, rs⟩) (hb : Below w.heap.size w W) : ∃ b off, A = some ⟨b, off, none⟩ ∧ W.cell? ⟨b, off, none⟩ = some (I m0) ∧ W.cell? ⟨b, off + 1, none⟩ = some (I m1) := by
  obtain ⟨b, off, e, hb1, hcl⟩ := h.months.there (by simp)
  exact ⟨b, off, e, (hb.cell (p := ⟨b, off, none⟩) hb1).trans (hcl 0 _ rfl), (hb.cell (p := ⟨b, off + 1, none⟩) hb1).trans (hcl 1 _ rfl)⟩
theorem CalM.one {w W : World} {A R : Option Addr} {ep m0 m1 lp q : Int} {y : Bool} (h : CalM w w.heap.size A R ⟨ep, [m0, m1], lp, [⟨2, q, y⟩]⟩) (hb : Below w.heap.size w W) : ∃ b off, R = some ⟨b, off, none⟩ ∧ W.cell? ⟨b, off, none⟩ = some (I 2) ∧ W.cell? ⟨b, off + 1, none⟩ = some (I q) ∧ W.cell? ⟨b, off + 2, none⟩ = some (.bool y) := by
  obtain ⟨b, off, e, hb1, hcl⟩ := h.rules.there (by simp [Lr.cells])
  exact ⟨b, off, e, (hb.cell (p := ⟨b, off, none⟩) hb1).trans (hcl 0 _ rfl), (hb.cell (p := ⟨b, off + 1, none⟩) hb1).trans (hcl 1 _ rfl), (hb.cell (p := ⟨b, off + 2, none⟩) hb1).trans (hcl 2 _ rfl)⟩
set_option maxRecDepth 10000 in
set_option maxHeartbeats 4000000 in
theorem refValid_yes (c : Cal) (A R : Option Addr) (a r : Nat) (w : World) (hc : CalS c) (h : CalM w w.heap.size A R c) : Calls Tryz.prog 67 #[.agg (calCells c A a R r)] w (Gives (.bool true) w) := by
  obtain ⟨ep, m0, m1, lp, rs, rfl, ⟨b1, b1'⟩, ⟨b2, b2'⟩, ⟨b3, b3'⟩, ⟨b4, b4'⟩, hrs⟩ := hc.form
  have HH := Lib.hid h
  clear hc h
  unfold calCells
  simp only
  have q5 : ¬ ep < 0 := by omega
  have q6 : ¬ (1048576 : Int) < ep := by omega
  have q7 : ¬ lp < -1 := by omega
  have q8 : ¬ (2 : Int) ≤ lp := by omega
  have y1 : ¬ m0 < 1 := by omega
  have y2 : ¬ (40 : Int) < m0 := by omega
  have y3 : ¬ m1 < 1 := by omega
  have y4 : ¬ (40 : Int) < m1 := by omega
  clear b1 b1' b2 b2' b3 b3' b4 b4'
  rcases hrs with rfl | ⟨q, yy, rfl, q1, q2, q3⟩
  · have HV := Lib.hid (CalV.start w #[I ep, .slice A 2 a, I lp, .slice R 0 r] 37)
    have hl : (lp == -1) = true ∨ (lp == -1) = false := by cases (lp == -1) <;> simp
    rcases hl with hl | hl
    all_goals
      go_enter Tryz.func67, Tryz.ntmps67
      go_wp2_with fail
      generalize w.alloc (.cells #[I ep, .slice A 2 a, I lp, .slice R 0 r] 37) = W0 at HV ⊢
      obtain ⟨b, off, rfl, c0, c1⟩ := HH.out.two HV.out.up
      have v1 : W0.cell? ⟨w.heap.size, 1, none⟩ = some (.slice (some ⟨b, off, none⟩) 2 a) := HV.out.row.2 1
      have v3 : W0.cell? ⟨w.heap.size, 3, none⟩ = some (.slice R 0 r) := HV.out.row.2 3
      go_rounds 3
      go_rounds 1
      go_ret
      exact ⟨rfl, HV.out.up⟩
  · have HV := Lib.hid (CalV.start w #[I ep, .slice A 2 a, I lp, .slice R 1 r] 37)
    have hl : (lp == -1) = false := by simp [q3]
    have q4 : ¬ (2 : Int) ≤ q := by omega
    have q1' : ¬ q < 0 := by omega
    clear q1 q2 q3
    go_enter Tryz.func67, Tryz.ntmps67
    go_wp2_with fail
    generalize w.alloc (.cells #[I ep, .slice A 2 a, I lp, .slice R 1 r] 37) = W0 at HV ⊢
    obtain ⟨b, off, rfl, c0, c1⟩ := HH.out.two HV.out.up
    obtain ⟨bb, of2, rfl, d0, d1, d2⟩ := HH.out.one HV.out.up
    have v1 : W0.cell? ⟨w.heap.size, 1, none⟩ = some (.slice (some ⟨b, off, none⟩) 2 a) := HV.out.row.2 1
    have v3 : W0.cell? ⟨w.heap.size, 3, none⟩ = some (.slice (some ⟨bb, of2, none⟩) 1 r) := HV.out.row.2 3
    go_rounds 3
    clear v1 c0 c1
    have hlt0 : w.heap.size < W0.heap.size := HV.out.row.1
    refine wp_loop_rounds 2 ?_
    rw [rounds_succ]
    go_wp2_with fail
    go_region_law (go_simp; go_at_call 90; refine (gcd12 _).mono ?_; rintro e w6 ⟨rfl, rfl⟩)
    all_goals
      go_wp2_with fail
      rw [rounds_succ]
      go_wp2_with fail
      go_ret
      exact ⟨rfl, (HV.out.grow (below_var W0 _)).up.drew⟩
end Go.Proofs.YtbdkalpljhpnmaaGreat
