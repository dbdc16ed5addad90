/- The texts Others, ValidW, ReadD, ReadI, RdI, RdT, RdW, Writers3, in this order. -/
import Derived.Test.YtoljoigbepdeiaaGreatDoorG01
import Derived.BigQuiet
import Derived.Deep.AppendLies
import Derived.Deep.CutBlock
import Derived.Deep.DeepCutAuto
import Derived.Deep.DrawnRows
import Derived.Deep.MidRow
import Derived.Deep.QuietTactic
import Derived.Deep.RegionHeld3
import Derived.Deep.RegionLaw
import Derived.Deep.WholeRow
import Derived.Great.BuildSlice
import Derived.Laws.BytesString
import Derived.Laws.CopyOwn
import Derived.Laws.EntriesVeiled
import Derived.Laws.MakeOwn
import Derived.Laws.ResultCell
import Derived.Laws.Rows
import Derived.Laws.Tables
import Derived.Lib.Hide
import Derived.LoopIn
import Derived.LoopNIn
import Derived.Maps.AppendAt
import Derived.Outline
import Derived.OwnWalkIn
import Derived.RangeFuncBound
import Derived.RangeFuncBox
import Derived.RangeFuncCalls
import Derived.RangeFuncLeaves
import Derived.RangeFuncNested
import Derived.Shelf.Abstract
import Derived.Shelf.Bytes.SlSmallAll
import Derived.Shelf.RegionOpen
import Derived.StillTailTactics
import Derived.Stop.BytesEq
import Derived.TacticsInMore
import Derived.WalkKit
import Derived.WalkLawsBesides
import Derived.WalkSpells
import Derived.Test.YtoljoigbepdeiaaGreatDoorReadNum
import Derived.Test.YtoljoigbepdeiaaGreatDoorRsP
import Derived.Defers
import Derived.Laws.BitsAllLaws
import Derived.Laws.BytesArg
import Derived.Laws.Cover3
import Derived.Lib.AppendStr
import Derived.Lib.ByteType
import Derived.MapKept
import Derived.Recover
import Derived.Test.YtoljoigbepdeiaaGreatDoorWriters2
/- letter.validOthers. -/
namespace Go.Proofs.YtoljoigbepdeiaaGreatDoor
open Go Go.RowKit

def zero32 : List UInt8 := List.replicate 32 0
theorem zero32_cells : (refCells zero32).toArray = #[Value.int .u8 0, Value.int .u8 0, Value.int .u8 0, Value.int .u8 0, Value.int .u8 0, Value.int .u8 0, Value.int .u8 0, Value.int .u8 0, Value.int .u8 0, Value.int .u8 0, Value.int .u8 0, Value.int .u8 0, Value.int .u8 0, Value.int .u8 0, Value.int .u8 0, Value.int .u8 0, Value.int .u8 0, Value.int .u8 0, Value.int .u8 0, Value.int .u8 0, Value.int .u8 0, Value.int .u8 0, Value.int .u8 0, Value.int .u8 0, Value.int .u8 0, Value.int .u8 0, Value.int .u8 0, Value.int .u8 0, Value.int .u8 0, Value.int .u8 0, Value.int .u8 0, Value.int .u8 0] := rfl
theorem size_u8 (w : World) : (sizeOf 5).run Tryz.prog w = .ok 1 w := by kernel_rfl
theorem eql_digest (r : List UInt8) (h : r.length = 32) (w : World) :
    (binOp .eql 23 (.agg (refCells r).toArray) (.agg #[Value.int .u8 0, Value.int .u8 0, Value.int .u8 0, Value.int .u8 0, Value.int .u8 0, Value.int .u8 0, Value.int .u8 0, Value.int .u8 0, Value.int .u8 0, Value.int .u8 0, Value.int .u8 0, Value.int .u8 0, Value.int .u8 0, Value.int .u8 0, Value.int .u8 0, Value.int .u8 0, Value.int .u8 0, Value.int .u8 0, Value.int .u8 0, Value.int .u8 0, Value.int .u8 0, Value.int .u8 0, Value.int .u8 0, Value.int .u8 0, Value.int .u8 0, Value.int .u8 0, Value.int .u8 0, Value.int .u8 0, Value.int .u8 0, Value.int .u8 0, Value.int .u8 0, Value.int .u8 0])).run Tryz.prog w = .ok (.bool (r == zero32)) w := by
  have := run_eql_bytes (P := Tryz.prog) w 23 5 32 Tryz.underlying23 Tryz.underlying5 (fun w => size_u8 w) r zero32 h rfl
  rw [← zero32_cells]
  exact this

attribute [local go_sem] lt_get0 lt_get12 lt_get13 lt_get14 lt_get15 lt_get16 lt_get17 lt_get18 lt_get19 lt_get20 lt_get21 lt_get22 lt_get23 lt_get27 lt_get28 lt_get29
attribute [local go_sem ↓] Go.wp_at_zero Go.wp_at_succ

theorem ref_one (r : List UInt8) : ∀ v ∈ refCells r, v.oneCell' = true := by
  intro v hv; simp only [refCells, List.mem_map] at hv; obtain ⟨x, _, rfl⟩ := hv; rfl

/-- The letter's block, as the region's loads ask for it. -/
abbrev OthS (w : World) (cs : Array Value) (r : List UInt8) (w' : World) : Prop :=
  (∀ i, w'.cell? ⟨w.heap.size, i, none⟩ = cs[i]?) ∧ w'.rangeAt w.heap.size 30 (refCells r) ∧ w.heap.size < w'.heap.size ∧ Below w.heap.size w w'
theorem OthS.draw {w W : World} {cs : Array Value} {r : List UInt8} (h : OthS w cs r W) : OthS w cs r W.drew :=
  ⟨h.1, h.2.1, h.2.2.1, h.2.2.2.drew⟩
theorem OthS.below {w W wn : World} {cs : Array Value} {r : List UInt8} (h : OthS w cs r W) (hb : Below W.heap.size W wn) : OthS w cs r wn :=
  ⟨fun i => (hb.cell (p := ⟨_, i, none⟩) h.2.2.1).trans (h.1 i), fun j v hv => (hb.cell (p := ⟨_, 30 + j, none⟩) h.2.2.1).trans (h.2.1 j v hv), Nat.lt_of_lt_of_le h.2.2.1 hb.size, below_trans h.2.2.2 hb⟩

theorem there_new (W : World) (mz nz wz cz rz : Bool) : (W.alloc (.cells #[Value.bool false, Value.bool false, Value.bool false, Value.bool false, Value.bool false, Value.bool false, Value.bool false, Value.bool false, Value.bool false, Value.bool false, Value.bool false, Value.bool false, Value.bool false, Value.bool false, Value.bool false, Value.bool false, Value.bool false] 154)).there W.heap.size 0 [Value.bool false, Value.bool false, Value.bool false, Value.bool false, Value.bool false, Value.bool false, Value.bool false, Value.bool false, Value.bool false, Value.bool mz, Value.bool nz, Value.bool false, Value.bool false, Value.bool false, Value.bool wz, Value.bool cz, Value.bool rz].length := fun j hj => by
  have hj' : j < 17 := hj
  rw [World.cell?_alloc_at _ _ _ _ rfl, World.frozen?_alloc_at _ _ _ _ rfl]
  exact ⟨by simp; omega, rfl⟩
theorem there_below {W wn : World} {g : Nat} (hg : W.heap.size = g) (mz nz wz cz rz : Bool) (hb : Below (W.alloc (.cells #[Value.bool false, Value.bool false, Value.bool false, Value.bool false, Value.bool false, Value.bool false, Value.bool false, Value.bool false, Value.bool false, Value.bool false, Value.bool false, Value.bool false, Value.bool false, Value.bool false, Value.bool false, Value.bool false, Value.bool false] 154)).drew.heap.size (W.alloc (.cells #[Value.bool false, Value.bool false, Value.bool false, Value.bool false, Value.bool false, Value.bool false, Value.bool false, Value.bool false, Value.bool false, Value.bool false, Value.bool false, Value.bool false, Value.bool false, Value.bool false, Value.bool false, Value.bool false, Value.bool false] 154)).drew wn) : wn.there g 0 [Value.bool false, Value.bool false, Value.bool false, Value.bool false, Value.bool false, Value.bool false, Value.bool false, Value.bool false, Value.bool false, Value.bool mz, Value.bool nz, Value.bool false, Value.bool false, Value.bool false, Value.bool wz, Value.bool cz, Value.bool rz].length := fun j hj => by
  subst hg
  have hlt : W.heap.size < (W.alloc (.cells #[Value.bool false, Value.bool false, Value.bool false, Value.bool false, Value.bool false, Value.bool false, Value.bool false, Value.bool false, Value.bool false, Value.bool false, Value.bool false, Value.bool false, Value.bool false, Value.bool false, Value.bool false, Value.bool false, Value.bool false] 154)).drew.heap.size := by show _ < (W.heap.push _).size; simp
  rw [hb.cell (p := ⟨W.heap.size, 0 + j, none⟩) hlt, hb.frozen (p := ⟨W.heap.size, 0 + j, none⟩) hlt]
  exact there_new W mz nz wz cz rz j hj
theorem OthS.alloc {w W : World} {cs : Array Value} {r : List UInt8} (h : OthS w cs r W) (o : Obj) : OthS w cs r (W.alloc o) :=
  h.below (below_var W o)
theorem below_setCells {B : Nat} {w W : World} (h : Below B w W) (b : Nat) (hb : B ≤ b) : ∀ (vs : List Value) (o : Nat), Below B w (W.setCells b o vs) := by
  intro vs
  induction vs generalizing W with
  | nil => intro o; exact h
  | cons v vs ih => intro o; exact ih (h.setCell (p := ⟨b, o, none⟩) hb v) (o + 1)
theorem cell_setCells {W : World} (b : Nat) (p : Addr) (hp : p.block ≠ b) : ∀ (vs : List Value) (o : Nat), (W.setCells b o vs).cell? p = W.cell? p := by
  intro vs
  induction vs generalizing W with
  | nil => intro o; rfl
  | cons v vs ih => intro o; exact (ih (o + 1)).trans (World.cell?_setCell_other _ _ _ _ (fun e => hp (by rw [← e])))
theorem size_setCells {W : World} (b : Nat) : ∀ (vs : List Value) (o : Nat), (W.setCells b o vs).heap.size = W.heap.size := by
  intro vs
  induction vs generalizing W with
  | nil => intro o; rfl
  | cons v vs ih => intro o; exact (ih (o + 1)).trans (by simp [World.setCell])
theorem OthS.setCells {w W : World} {cs : Array Value} {r : List UInt8} (h : OthS w cs r W) (b : Nat) (hb : w.heap.size < b) (vs : List Value) : OthS w cs r (W.setCells b 0 vs) := by
  have hne : w.heap.size ≠ b := by omega
  exact ⟨fun i => (cell_setCells b ⟨_, i, none⟩ hne vs 0).trans (h.1 i), fun j v hv => (cell_setCells b ⟨_, 30 + j, none⟩ hne vs 0).trans (h.2.1 j v hv), by rw [size_setCells]; exact h.2.2.1, below_setCells h.2.2.2 b (by omega) vs 0⟩
theorem OthS.new (w : World) (l : Lt) (vr vm vc : Value) (t : TypeId) : OthS w (ltCells l vr vm vc) l.ref (w.alloc (.cells (ltCells l vr vm vc) t)) :=
  ⟨(Row.new w _ t).2, fun j v hv => by exact ((Row.new w (ltCells l vr vm vc) t).2 (30 + j)).trans ((lt_getRef l vr vm vc j).trans hv), by simp, below_var _ _⟩

/-- Behind the table of what is zero. -/
def OthCut (w : World) (cs : Array Value) (zs : List Value) (p : Value) (wx : World) : Prop :=
  ∃ g, p = .pointer (some ⟨g, 0, none⟩) ∧ w.heap.size < g ∧ g < wx.heap.size ∧ Row wx w.heap.size cs ∧ wx.rangeAt g 0 zs ∧ Below w.heap.size w wx

theorem othCut_of {w W : World} {cs : Array Value} {r : List UInt8} {zs : List Value} {b : Nat} (h : OthS w cs r (W.setCells b 0 zs)) (hb : w.heap.size < b) (hlt : b < W.heap.size) (hth : W.there b 0 zs.length) : OthCut w cs zs (.pointer (some ⟨b, 0, none⟩)) (W.setCells b 0 zs) :=
  ⟨b, rfl, hb, by rw [size_setCells]; exact hlt, ⟨h.2.2.1, h.1⟩, World.rangeAt_setCells_same _ _ _ _ hth, h.2.2.2⟩
/-- The five fields that are no numbers: used, or zero. -/
def fieldAt (k : Nat) : Int := ([9, 10, 14, 15, 16][k]?).getD 0
def zeroAt (mz nz wz cz rz : Bool) (k : Nat) : Bool := ([mz, nz, wz, cz, rz][k]?).getD true
def zerosOK (kind : Int) (mz nz wz cz rz : Bool) : Bool := (List.range 5).all fun k => usesB kind (fieldAt k) || zeroAt mz nz wz cz rz k
theorem zerosOK_no {kind : Int} {mz nz wz cz rz : Bool} {k : Nat} (hk : k < 5) (h : (usesB kind (fieldAt k) || zeroAt mz nz wz cz rz k) = false) : zerosOK kind mz nz wz cz rz = false := by
  unfold zerosOK
  rw [Bool.eq_false_iff]; intro h'; rw [List.all_eq_true] at h'
  have := h' k (List.mem_range.2 hk); rw [h] at this; cases this
theorem zerosOK_yes {kind : Int} {mz nz wz cz rz : Bool} (h : ∀ k, k < 5 → (usesB kind (fieldAt k) || zeroAt mz nz wz cz rz k) = true) : zerosOK kind mz nz wz cz rz = true := by
  unfold zerosOK
  rw [List.all_eq_true]; intro k hk; exact h k (List.mem_range.1 hk)
def spanB (a b : Int) : Bool := decide (-2251799813685248 ≤ a ∧ a ≤ b ∧ b ≤ 2251799813685248)
def vOthers (l : Lt) (mz nz wz cz rz : Bool) : Bool :=
  zerosOK l.kind mz nz wz cz rz && (decide (l.kind ≠ 4) || vMove l.move) && (decide (l.kind ≠ 6) || vChange l nz) && spanB l.wfrom l.wto && vCells l.kind l.cells
theorem range_keep {w w' : World} {g : Nat} {zs : List Value} (h : w.rangeAt g 0 zs) (hg : g < w.heap.size) (hb : Below w.heap.size w w') : w'.rangeAt g 0 zs := fun j v hv => (hb.cell (p := ⟨g, 0 + j, none⟩) hg).trans (h j v hv)
def OthRel (w : World) (cs : Array Value) (zs : List Value) (kind : Int) (mz nz wz cz rz : Bool) (g sl : Nat) (i : Value) (wr : World) : Prop :=
  ∃ k : Nat, k ≤ 5 ∧ i = .int .i64 k ∧ Row wr w.heap.size cs ∧ (g < wr.heap.size ∧ wr.rangeAt g 0 zs) ∧ Row wr sl #[I 9, I 10, I 14, I 15, I 16] ∧ Below w.heap.size w wr ∧ ∀ j, j < k → (usesB kind (fieldAt j) || zeroAt mz nz wz cz rz j) = true
/-- Behind the loop. -/
def OthDone (w : World) (cs : Array Value) (ok : Bool) (p : Value) (wx : World) : Prop := p = .pointer (some ⟨w.heap.size, 0, none⟩) ∧ ok = true ∧ Row wx w.heap.size cs ∧ Below w.heap.size w wx
def midOK (l : Lt) (nz : Bool) : Bool := (decide (l.kind ≠ 4) || vMove l.move) && (decide (l.kind ≠ 6) || vChange l nz)
/-- Behind the switch: the window's own variable at block q. -/
def OthMid (w : World) (cs : Array Value) (a b : Int) (ok : Bool) (q : Nat) (p r : Value) (wx : World) : Prop :=
  p = .pointer (some ⟨w.heap.size, 0, none⟩) ∧ r = .pointer (some ⟨q, 0, none⟩) ∧ ok = true ∧ Row wx w.heap.size cs ∧ Row wx q #[I a, I b] ∧ Below w.heap.size w wx
theorem vOthers_mid {l : Lt} {mz nz wz cz rz : Bool} (h : zerosOK l.kind mz nz wz cz rz = true) : vOthers l mz nz wz cz rz = (midOK l nz && spanB l.wfrom l.wto && vCells l.kind l.cells) := by unfold vOthers midOK; rw [h]; rfl
theorem vOthers_zero {l : Lt} {mz nz wz cz rz : Bool} (h : zerosOK l.kind mz nz wz cz rz = false) : vOthers l mz nz wz cz rz = false := by unfold vOthers; rw [h]; rfl
theorem vOthers_rest {l : Lt} {mz nz wz cz rz : Bool} (h : zerosOK l.kind mz nz wz cz rz = true) : vOthers l mz nz wz cz rz = ((decide (l.kind ≠ 4) || vMove l.move) && (decide (l.kind ≠ 6) || vChange l nz) && spanB l.wfrom l.wto && vCells l.kind l.cells) := by unfold vOthers; rw [h]; rfl

set_option maxRecDepth 10000 in
set_option maxHeartbeats 16000000 in
theorem validOthers_cut (l : Lt) (A B C : Option Addr) (n m c d c3 : Nat) (w : World) (hn : n ≤ 140737488355328) (hm : m ≤ 140737488355328) (hz : l.series.zone.size ≤ 140737488355328) (hr : l.ref.length = 32) (hcl : l.cells.length ≤ 140737488355328) (hci : IntsAt w w.heap.size C l.cells)
    (mz nz wz cz rz : Bool) (emz : (decide (l.move.day = 0) && (l.move.drop == false) && decide (l.move.toDay = 0) && decide (l.move.minute = 0) && decide (l.move.length = 0)) = mz) (enz : noSer n m l.series = nz)
    (ewz : (decide (l.wfrom = 0) && decide (l.wto = 0)) = wz) (ecz : ((l.cells.length : Int) == 0) = cz) (erz : (l.ref == zero32) = rz) :
    Calls Tryz.prog 49 #[.agg (ltCells l (.slice A n c) (.slice B m d) (.slice C l.cells.length c3))] w (Gives (.bool (vOthers l mz nz wz cz rz)) w) := by
  have heq := fun W => eql_digest l.ref hr W
  have heqm := fun W => eql_move l.move.day l.move.toDay l.move.minute l.move.length 0 0 0 0 l.move.drop false W
  have heqw := fun W => eql_span l.wfrom l.wto 0 0 W
  rw [emz] at heqm
  rw [ewz] at heqw
  rw [erz] at heq
  have HN := Lib.hid enz
  clear emz ewz erz enz
  have hu := Tryz.underlying23
  have hi : (Tryz.prog.info? 23).map (·.size) = some (refCells l.ref).length := by rw [show (refCells l.ref).length = 32 by simp [refCells, hr]]; kernel_rfl
  have h32 : (refCells l.ref).length = 32 := by simp [refCells, hr]
  have hi2 : (Tryz.prog.info? 154).map (·.size) = some [Value.bool false, Value.bool false, Value.bool false, Value.bool false, Value.bool false, Value.bool false, Value.bool false, Value.bool false, Value.bool false, Value.bool mz, Value.bool nz, Value.bool false, Value.bool false, Value.bool false, Value.bool wz, Value.bool cz, Value.bool rz].length := by kernel_rfl
  have hone2 : ∀ v ∈ [Value.bool false, Value.bool false, Value.bool false, Value.bool false, Value.bool false, Value.bool false, Value.bool false, Value.bool false, Value.bool false, Value.bool mz, Value.bool nz, Value.bool false, Value.bool false, Value.bool false, Value.bool wz, Value.bool cz, Value.bool rz], v.oneCell' = true := by simp [Value.oneCell']
  have HI2 := Lib.hid hi2
  have HONE2 := Lib.hid hone2
  clear hi2 hone2
  have hk0 := Lib.hid (OthS.new w l (.slice A n c) (.slice B m d) (.slice C l.cells.length c3) 57)
  go_enter Tryz.func49, Tryz.ntmps49
  go_upto_region 1 with fail
  go_cut [3] (fun p wx => OthCut w (ltCells l (.slice A n c) (.slice B m d) (.slice C l.cells.length c3)) [Value.bool false, Value.bool false, Value.bool false, Value.bool false, Value.bool false, Value.bool false, Value.bool false, Value.bool false, Value.bool false, Value.bool mz, Value.bool nz, Value.bool false, Value.bool false, Value.bool false, Value.bool wz, Value.bool cz, Value.bool rz] p wx)
  case first =>
    go_region_held3 (fun w' => (∀ i, w'.cell? ⟨w.heap.size, i, none⟩ = (ltCells l (.slice A n c) (.slice B m d) (.slice C l.cells.length c3))[i]?) ∧ w'.rangeAt w.heap.size 30 (refCells l.ref) ∧ w.heap.size < w'.heap.size ∧ Below w.heap.size w w')
      (first | with_reducible exact hk0.out.draw | with_reducible exact (hk0.out.alloc _).draw | with_reducible exact HSn.out | with_reducible exact HSn.out.alloc _ | with_reducible exact HSn.out.setCells _ hlt1 _ | with_reducible exact (HSn.out.alloc _).setCells _ hltn _)
      (first | (go_at_call 50; refine (noSeries_ex _ _ _ _ _ _ _ _ hn hm hz).mono ?_; rintro e wn ⟨rfl, hbn⟩; rw [HN.out]; (first | have HSn := Lib.hid (OthS.below (cs := ltCells l (.slice A n c) (.slice B m d) (.slice C l.cells.length c3)) hk0.out.draw hbn) | have HSn := Lib.hid (OthS.below (cs := ltCells l (.slice A n c) (.slice B m d) (.slice C l.cells.length c3)) (hk0.out.alloc _).draw hbn)); have hltn := HSn.out.2.2.1; have hlt1 : w.heap.size < w.heap.size + 1 := Nat.lt_succ_self _; (first | have hth6 := there_below (g := w.heap.size + 1) (by simp) mz nz wz cz rz hbn | have hthn := there_new wn mz nz wz cz rz); have hi2' := HI2.out; have hone2' := HONE2.out))
    · go_wp2_with fail
      go_meet
      exact othCut_of ((HSn.out.alloc _).setCells _ hltn _) hltn (by simp) hthn
    · go_wp2_with fail
      go_meet
      exact othCut_of (HSn.out.setCells _ hlt1 _) hlt1 (by have := hbn.size; simp at this; omega) hth6
  case rest =>
    obtain ⟨g, rfl, hg1, hg2, hrow, hrng, hbel⟩ := hcut
    have HR := Lib.hid hrow
    have HG := Lib.hid hrng
    have HB := Lib.hid hbel
    clear hrow hrng hbel
    have hr0 := HR.out.2
    have HS0 := Lib.hid (Row.new wc #[I 9, I 10, I 14, I 15, I 16] 91)
    have HR0 := Lib.hid (HR.out.keep (below_var wc (.cells #[I 9, I 10, I 14, I 15, I 16] 91)))
    have HZ0 := Lib.hid (range_keep HG.out hg2 (below_var wc (.cells #[I 9, I 10, I 14, I 15, I 16] 91)))
    have HB0 := Lib.hid (below_trans HB.out (below_var wc (.cells #[I 9, I 10, I 14, I 15, I 16] 91)))
    clear hk0 HI2 HONE2 hu hi h32 heq heqm heqw
    go_upto_block 0 with fail
    go_cut [1] (fun p wx => OthDone w (ltCells l (.slice A n c) (.slice B m d) (.slice C l.cells.length c3)) (zerosOK l.kind mz nz wz cz rz) p wx)
    case first =>
      go_wp2_with fail
      go_loopw [29] (fun i wr => OthRel w (ltCells l (.slice A n c) (.slice B m d) (.slice C l.cells.length c3)) [Value.bool false, Value.bool false, Value.bool false, Value.bool false, Value.bool false, Value.bool false, Value.bool false, Value.bool false, Value.bool false, Value.bool mz, Value.bool nz, Value.bool false, Value.bool false, Value.bool false, Value.bool wz, Value.bool cz, Value.bool rz] l.kind mz nz wz cz rz g wc.heap.size i wr) (fun i _ => 5 - (intOf i).toNat)
      case atStart => exact ⟨0, by omega, rfl, HR0.out, ⟨by simp; omega, HZ0.out⟩, HS0.out, HB0.out, fun j hj => absurd hj (by omega)⟩
      case round =>
        obtain ⟨k, hk, rfl, hrow1, hz1, hs1, hb1, hall⟩ := hrel
        have HR1 := Lib.hid hrow1
        have HZ := Lib.hid hz1
        have HS := Lib.hid hs1
        have HB1 := Lib.hid hb1
        have HA := Lib.hid hall
        have hr1 := hrow1.2
        clear hrow1 hz1 hs1 hb1 hall hr0 HS0 HR0 HZ0 HB0 HR HG HB
        have hk5 : k = 0 ∨ k = 1 ∨ k = 2 ∨ k = 3 ∨ k = 4 ∨ k = 5 := by omega
        rcases hk5 with rfl | rfl | rfl | rfl | rfl | rfl
        · have hsl : wr.cell? ⟨wc.heap.size, 0, none⟩ = some (I 9) := HS.out.2 0
          obtain ⟨u, hu1⟩ : ∃ u, usesB l.kind 9 = u := ⟨_, rfl⟩
          have HU := Lib.hid hu1
          clear hu1
          have hzf : wr.cell? ⟨g, 9, none⟩ = some (.bool mz) := HZ.out.2 9 _ rfl
          have HZF := Lib.hid hzf
          clear hzf
          cases u
          · cases mz
            · go_wp2_with (go_at_call 31; refine (uses_any _ _ _ (by omega) (by omega)).mono ?_; rintro e w2 ⟨rfl, hb2⟩; have HR2 := Lib.hid (HR1.out.keep hb2); have HZ2 := Lib.hid (range_keep HZ.out.2 HZ.out.1 hb2); have HZL := Lib.hid (Nat.lt_of_lt_of_le HZ.out.1 hb2.size); have HS2 := Lib.hid (HS.out.keep hb2); have HB2 := Lib.hid (below_trans HB1.out hb2); have hzf2 := (hb2.cell (p := ⟨g, 9, none⟩) HZ.out.1).trans HZF.out; rw [HU.out]; clear hb2)
              go_ret
              exact ⟨ret_bool (vOthers_zero (zerosOK_no (k := 0) (by omega) (by show (usesB l.kind 9 || _) = false; rw [HU.out]; rfl))).symm, HB2.out⟩
            · go_wp2_with (go_at_call 31; refine (uses_any _ _ _ (by omega) (by omega)).mono ?_; rintro e w2 ⟨rfl, hb2⟩; have HR2 := Lib.hid (HR1.out.keep hb2); have HZ2 := Lib.hid (range_keep HZ.out.2 HZ.out.1 hb2); have HZL := Lib.hid (Nat.lt_of_lt_of_le HZ.out.1 hb2.size); have HS2 := Lib.hid (HS.out.keep hb2); have HB2 := Lib.hid (below_trans HB1.out hb2); have hzf2 := (hb2.cell (p := ⟨g, 9, none⟩) HZ.out.1).trans HZF.out; rw [HU.out]; clear hb2)
              go_roundw
              case rel => exact ⟨1, by omega, by first | rfl | go_num, HR2.out, ⟨HZL.out, HZ2.out⟩, HS2.out, HB2.out, fun j hj => by
                rcases Nat.lt_succ_iff_lt_or_eq.1 hj with h | h
                · exact HA.out j h
                · subst h; show (usesB l.kind 9 || _) = true; rw [HU.out]; rfl⟩
              case measure => simp [intOf]
          · go_wp2_with (go_at_call 31; refine (uses_any _ _ _ (by omega) (by omega)).mono ?_; rintro e w2 ⟨rfl, hb2⟩; have HR2 := Lib.hid (HR1.out.keep hb2); have HZ2 := Lib.hid (range_keep HZ.out.2 HZ.out.1 hb2); have HZL := Lib.hid (Nat.lt_of_lt_of_le HZ.out.1 hb2.size); have HS2 := Lib.hid (HS.out.keep hb2); have HB2 := Lib.hid (below_trans HB1.out hb2); have hzf2 := (hb2.cell (p := ⟨g, 9, none⟩) HZ.out.1).trans HZF.out; rw [HU.out]; clear hb2)
            go_roundw
            case rel => exact ⟨1, by omega, by first | rfl | go_num, HR2.out, ⟨HZL.out, HZ2.out⟩, HS2.out, HB2.out, fun j hj => by
              rcases Nat.lt_succ_iff_lt_or_eq.1 hj with h | h
              · exact HA.out j h
              · subst h; show (usesB l.kind 9 || _) = true; rw [HU.out]; rfl⟩
            case measure => simp [intOf]
        · have hsl : wr.cell? ⟨wc.heap.size, 1, none⟩ = some (I 10) := HS.out.2 1
          obtain ⟨u, hu1⟩ : ∃ u, usesB l.kind 10 = u := ⟨_, rfl⟩
          have HU := Lib.hid hu1
          clear hu1
          have hzf : wr.cell? ⟨g, 10, none⟩ = some (.bool nz) := HZ.out.2 10 _ rfl
          have HZF := Lib.hid hzf
          clear hzf
          cases u
          · cases nz
            · go_wp2_with (go_at_call 31; refine (uses_any _ _ _ (by omega) (by omega)).mono ?_; rintro e w2 ⟨rfl, hb2⟩; have HR2 := Lib.hid (HR1.out.keep hb2); have HZ2 := Lib.hid (range_keep HZ.out.2 HZ.out.1 hb2); have HZL := Lib.hid (Nat.lt_of_lt_of_le HZ.out.1 hb2.size); have HS2 := Lib.hid (HS.out.keep hb2); have HB2 := Lib.hid (below_trans HB1.out hb2); have hzf2 := (hb2.cell (p := ⟨g, 10, none⟩) HZ.out.1).trans HZF.out; rw [HU.out]; clear hb2)
              go_ret
              exact ⟨ret_bool (vOthers_zero (zerosOK_no (k := 1) (by omega) (by show (usesB l.kind 10 || _) = false; rw [HU.out]; rfl))).symm, HB2.out⟩
            · go_wp2_with (go_at_call 31; refine (uses_any _ _ _ (by omega) (by omega)).mono ?_; rintro e w2 ⟨rfl, hb2⟩; have HR2 := Lib.hid (HR1.out.keep hb2); have HZ2 := Lib.hid (range_keep HZ.out.2 HZ.out.1 hb2); have HZL := Lib.hid (Nat.lt_of_lt_of_le HZ.out.1 hb2.size); have HS2 := Lib.hid (HS.out.keep hb2); have HB2 := Lib.hid (below_trans HB1.out hb2); have hzf2 := (hb2.cell (p := ⟨g, 10, none⟩) HZ.out.1).trans HZF.out; rw [HU.out]; clear hb2)
              go_roundw
              case rel => exact ⟨2, by omega, by first | rfl | go_num, HR2.out, ⟨HZL.out, HZ2.out⟩, HS2.out, HB2.out, fun j hj => by
                rcases Nat.lt_succ_iff_lt_or_eq.1 hj with h | h
                · exact HA.out j h
                · subst h; show (usesB l.kind 10 || _) = true; rw [HU.out]; rfl⟩
              case measure => simp [intOf]
          · go_wp2_with (go_at_call 31; refine (uses_any _ _ _ (by omega) (by omega)).mono ?_; rintro e w2 ⟨rfl, hb2⟩; have HR2 := Lib.hid (HR1.out.keep hb2); have HZ2 := Lib.hid (range_keep HZ.out.2 HZ.out.1 hb2); have HZL := Lib.hid (Nat.lt_of_lt_of_le HZ.out.1 hb2.size); have HS2 := Lib.hid (HS.out.keep hb2); have HB2 := Lib.hid (below_trans HB1.out hb2); have hzf2 := (hb2.cell (p := ⟨g, 10, none⟩) HZ.out.1).trans HZF.out; rw [HU.out]; clear hb2)
            go_roundw
            case rel => exact ⟨2, by omega, by first | rfl | go_num, HR2.out, ⟨HZL.out, HZ2.out⟩, HS2.out, HB2.out, fun j hj => by
              rcases Nat.lt_succ_iff_lt_or_eq.1 hj with h | h
              · exact HA.out j h
              · subst h; show (usesB l.kind 10 || _) = true; rw [HU.out]; rfl⟩
            case measure => simp [intOf]
        · have hsl : wr.cell? ⟨wc.heap.size, 2, none⟩ = some (I 14) := HS.out.2 2
          obtain ⟨u, hu1⟩ : ∃ u, usesB l.kind 14 = u := ⟨_, rfl⟩
          have HU := Lib.hid hu1
          clear hu1
          have hzf : wr.cell? ⟨g, 14, none⟩ = some (.bool wz) := HZ.out.2 14 _ rfl
          have HZF := Lib.hid hzf
          clear hzf
          cases u
          · cases wz
            · go_wp2_with (go_at_call 31; refine (uses_any _ _ _ (by omega) (by omega)).mono ?_; rintro e w2 ⟨rfl, hb2⟩; have HR2 := Lib.hid (HR1.out.keep hb2); have HZ2 := Lib.hid (range_keep HZ.out.2 HZ.out.1 hb2); have HZL := Lib.hid (Nat.lt_of_lt_of_le HZ.out.1 hb2.size); have HS2 := Lib.hid (HS.out.keep hb2); have HB2 := Lib.hid (below_trans HB1.out hb2); have hzf2 := (hb2.cell (p := ⟨g, 14, none⟩) HZ.out.1).trans HZF.out; rw [HU.out]; clear hb2)
              go_ret
              exact ⟨ret_bool (vOthers_zero (zerosOK_no (k := 2) (by omega) (by show (usesB l.kind 14 || _) = false; rw [HU.out]; rfl))).symm, HB2.out⟩
            · go_wp2_with (go_at_call 31; refine (uses_any _ _ _ (by omega) (by omega)).mono ?_; rintro e w2 ⟨rfl, hb2⟩; have HR2 := Lib.hid (HR1.out.keep hb2); have HZ2 := Lib.hid (range_keep HZ.out.2 HZ.out.1 hb2); have HZL := Lib.hid (Nat.lt_of_lt_of_le HZ.out.1 hb2.size); have HS2 := Lib.hid (HS.out.keep hb2); have HB2 := Lib.hid (below_trans HB1.out hb2); have hzf2 := (hb2.cell (p := ⟨g, 14, none⟩) HZ.out.1).trans HZF.out; rw [HU.out]; clear hb2)
              go_roundw
              case rel => exact ⟨3, by omega, by first | rfl | go_num, HR2.out, ⟨HZL.out, HZ2.out⟩, HS2.out, HB2.out, fun j hj => by
                rcases Nat.lt_succ_iff_lt_or_eq.1 hj with h | h
                · exact HA.out j h
                · subst h; show (usesB l.kind 14 || _) = true; rw [HU.out]; rfl⟩
              case measure => simp [intOf]
          · go_wp2_with (go_at_call 31; refine (uses_any _ _ _ (by omega) (by omega)).mono ?_; rintro e w2 ⟨rfl, hb2⟩; have HR2 := Lib.hid (HR1.out.keep hb2); have HZ2 := Lib.hid (range_keep HZ.out.2 HZ.out.1 hb2); have HZL := Lib.hid (Nat.lt_of_lt_of_le HZ.out.1 hb2.size); have HS2 := Lib.hid (HS.out.keep hb2); have HB2 := Lib.hid (below_trans HB1.out hb2); have hzf2 := (hb2.cell (p := ⟨g, 14, none⟩) HZ.out.1).trans HZF.out; rw [HU.out]; clear hb2)
            go_roundw
            case rel => exact ⟨3, by omega, by first | rfl | go_num, HR2.out, ⟨HZL.out, HZ2.out⟩, HS2.out, HB2.out, fun j hj => by
              rcases Nat.lt_succ_iff_lt_or_eq.1 hj with h | h
              · exact HA.out j h
              · subst h; show (usesB l.kind 14 || _) = true; rw [HU.out]; rfl⟩
            case measure => simp [intOf]
        · have hsl : wr.cell? ⟨wc.heap.size, 3, none⟩ = some (I 15) := HS.out.2 3
          obtain ⟨u, hu1⟩ : ∃ u, usesB l.kind 15 = u := ⟨_, rfl⟩
          have HU := Lib.hid hu1
          clear hu1
          have hzf : wr.cell? ⟨g, 15, none⟩ = some (.bool cz) := HZ.out.2 15 _ rfl
          have HZF := Lib.hid hzf
          clear hzf
          cases u
          · cases cz
            · go_wp2_with (go_at_call 31; refine (uses_any _ _ _ (by omega) (by omega)).mono ?_; rintro e w2 ⟨rfl, hb2⟩; have HR2 := Lib.hid (HR1.out.keep hb2); have HZ2 := Lib.hid (range_keep HZ.out.2 HZ.out.1 hb2); have HZL := Lib.hid (Nat.lt_of_lt_of_le HZ.out.1 hb2.size); have HS2 := Lib.hid (HS.out.keep hb2); have HB2 := Lib.hid (below_trans HB1.out hb2); have hzf2 := (hb2.cell (p := ⟨g, 15, none⟩) HZ.out.1).trans HZF.out; rw [HU.out]; clear hb2)
              go_ret
              exact ⟨ret_bool (vOthers_zero (zerosOK_no (k := 3) (by omega) (by show (usesB l.kind 15 || _) = false; rw [HU.out]; rfl))).symm, HB2.out⟩
            · go_wp2_with (go_at_call 31; refine (uses_any _ _ _ (by omega) (by omega)).mono ?_; rintro e w2 ⟨rfl, hb2⟩; have HR2 := Lib.hid (HR1.out.keep hb2); have HZ2 := Lib.hid (range_keep HZ.out.2 HZ.out.1 hb2); have HZL := Lib.hid (Nat.lt_of_lt_of_le HZ.out.1 hb2.size); have HS2 := Lib.hid (HS.out.keep hb2); have HB2 := Lib.hid (below_trans HB1.out hb2); have hzf2 := (hb2.cell (p := ⟨g, 15, none⟩) HZ.out.1).trans HZF.out; rw [HU.out]; clear hb2)
              go_roundw
              case rel => exact ⟨4, by omega, by first | rfl | go_num, HR2.out, ⟨HZL.out, HZ2.out⟩, HS2.out, HB2.out, fun j hj => by
                rcases Nat.lt_succ_iff_lt_or_eq.1 hj with h | h
                · exact HA.out j h
                · subst h; show (usesB l.kind 15 || _) = true; rw [HU.out]; rfl⟩
              case measure => simp [intOf]
          · go_wp2_with (go_at_call 31; refine (uses_any _ _ _ (by omega) (by omega)).mono ?_; rintro e w2 ⟨rfl, hb2⟩; have HR2 := Lib.hid (HR1.out.keep hb2); have HZ2 := Lib.hid (range_keep HZ.out.2 HZ.out.1 hb2); have HZL := Lib.hid (Nat.lt_of_lt_of_le HZ.out.1 hb2.size); have HS2 := Lib.hid (HS.out.keep hb2); have HB2 := Lib.hid (below_trans HB1.out hb2); have hzf2 := (hb2.cell (p := ⟨g, 15, none⟩) HZ.out.1).trans HZF.out; rw [HU.out]; clear hb2)
            go_roundw
            case rel => exact ⟨4, by omega, by first | rfl | go_num, HR2.out, ⟨HZL.out, HZ2.out⟩, HS2.out, HB2.out, fun j hj => by
              rcases Nat.lt_succ_iff_lt_or_eq.1 hj with h | h
              · exact HA.out j h
              · subst h; show (usesB l.kind 15 || _) = true; rw [HU.out]; rfl⟩
            case measure => simp [intOf]
        · have hsl : wr.cell? ⟨wc.heap.size, 4, none⟩ = some (I 16) := HS.out.2 4
          obtain ⟨u, hu1⟩ : ∃ u, usesB l.kind 16 = u := ⟨_, rfl⟩
          have HU := Lib.hid hu1
          clear hu1
          have hzf : wr.cell? ⟨g, 16, none⟩ = some (.bool rz) := HZ.out.2 16 _ rfl
          have HZF := Lib.hid hzf
          clear hzf
          cases u
          · cases rz
            · go_wp2_with (go_at_call 31; refine (uses_any _ _ _ (by omega) (by omega)).mono ?_; rintro e w2 ⟨rfl, hb2⟩; have HR2 := Lib.hid (HR1.out.keep hb2); have HZ2 := Lib.hid (range_keep HZ.out.2 HZ.out.1 hb2); have HZL := Lib.hid (Nat.lt_of_lt_of_le HZ.out.1 hb2.size); have HS2 := Lib.hid (HS.out.keep hb2); have HB2 := Lib.hid (below_trans HB1.out hb2); have hzf2 := (hb2.cell (p := ⟨g, 16, none⟩) HZ.out.1).trans HZF.out; rw [HU.out]; clear hb2)
              go_ret
              exact ⟨ret_bool (vOthers_zero (zerosOK_no (k := 4) (by omega) (by show (usesB l.kind 16 || _) = false; rw [HU.out]; rfl))).symm, HB2.out⟩
            · go_wp2_with (go_at_call 31; refine (uses_any _ _ _ (by omega) (by omega)).mono ?_; rintro e w2 ⟨rfl, hb2⟩; have HR2 := Lib.hid (HR1.out.keep hb2); have HZ2 := Lib.hid (range_keep HZ.out.2 HZ.out.1 hb2); have HZL := Lib.hid (Nat.lt_of_lt_of_le HZ.out.1 hb2.size); have HS2 := Lib.hid (HS.out.keep hb2); have HB2 := Lib.hid (below_trans HB1.out hb2); have hzf2 := (hb2.cell (p := ⟨g, 16, none⟩) HZ.out.1).trans HZF.out; rw [HU.out]; clear hb2)
              go_roundw
              case rel => exact ⟨5, by omega, by first | rfl | go_num, HR2.out, ⟨HZL.out, HZ2.out⟩, HS2.out, HB2.out, fun j hj => by
                rcases Nat.lt_succ_iff_lt_or_eq.1 hj with h | h
                · exact HA.out j h
                · subst h; show (usesB l.kind 16 || _) = true; rw [HU.out]; rfl⟩
              case measure => simp [intOf]
          · go_wp2_with (go_at_call 31; refine (uses_any _ _ _ (by omega) (by omega)).mono ?_; rintro e w2 ⟨rfl, hb2⟩; have HR2 := Lib.hid (HR1.out.keep hb2); have HZ2 := Lib.hid (range_keep HZ.out.2 HZ.out.1 hb2); have HZL := Lib.hid (Nat.lt_of_lt_of_le HZ.out.1 hb2.size); have HS2 := Lib.hid (HS.out.keep hb2); have HB2 := Lib.hid (below_trans HB1.out hb2); have hzf2 := (hb2.cell (p := ⟨g, 16, none⟩) HZ.out.1).trans HZF.out; rw [HU.out]; clear hb2)
            go_roundw
            case rel => exact ⟨5, by omega, by first | rfl | go_num, HR2.out, ⟨HZL.out, HZ2.out⟩, HS2.out, HB2.out, fun j hj => by
              rcases Nat.lt_succ_iff_lt_or_eq.1 hj with h | h
              · exact HA.out j h
              · subst h; show (usesB l.kind 16 || _) = true; rw [HU.out]; rfl⟩
            case measure => simp [intOf]
        · have HZ5 := Lib.hid (zerosOK_yes (kind := l.kind) (mz := mz) (nz := nz) (wz := wz) (cz := cz) (rz := rz) (fun j hj => HA.out j hj))
          go_wp2_with fail
          go_meet
          exact ⟨rfl, HZ5.out, HR1.out, HB1.out⟩
    case rest =>
      obtain ⟨rfl, hz5, hrow1, hbel1⟩ := hcut
      have HV := Lib.hid (vOthers_mid (l := l) hz5)
      have HR1 := Lib.hid hrow1
      have hr1 := hrow1.2
      have hlw : w.heap.size < wc.heap.size := hrow1.1
      have HRa := Lib.hid (hrow1.keep (below_var wc (.cells #[I l.wfrom, I l.wto] 55)))
      have HBa := Lib.hid (below_trans hbel1 (below_var wc (.cells #[I l.wfrom, I l.wto] 55)))
      have HQa := Lib.hid (Row.new wc #[I l.wfrom, I l.wto] 55)
      have HSZ : Hid ((Tryz.prog.info? 57).map (·.size) = some (ltCells l (.slice A n c) (.slice B m d) (.slice C l.cells.length c3)).size) := Lib.hid (by rw [lt_size _ _ _ _ hr]; kernel_rfl)
      have HCI := Lib.hid hci
      clear hz5 hrow1 hbel1 hci HR0 HZ0 HS0 HB0 HR HG HB hr0 hg1
      go_upto_block 2 with fail
      go_cut [1, 6] (fun p r wx => OthMid w (ltCells l (.slice A n c) (.slice B m d) (.slice C l.cells.length c3)) l.wfrom l.wto (midOK l nz) wc.heap.size p r wx)
      case first =>
        by_cases k4 : l.kind = 4
        · have b4 : (l.kind == 4) = true := by rw [beq_dec]; exact decide_eq_true k4
          have b6 : (l.kind == 6) = false := by rw [beq_dec]; exact decide_eq_false (by omega)
          obtain ⟨vm, hvm⟩ : ∃ x, vMove l.move = x := ⟨_, rfl⟩
          have HVM := Lib.hid hvm
          have HE : Hid (midOK l nz = vm) := Lib.hid (by unfold midOK; rw [hvm, show decide (l.kind ≠ 4) = false from decide_eq_false (by omega), show decide (l.kind ≠ 6) = true from decide_eq_true (by omega)]; simp)
          clear k4 hvm
          cases vm
          · go_wp2_with (go_at_call 68; refine (validMove_ex _ _).mono ?_; rintro e w3 ⟨rfl, hb3⟩; have HRb := Lib.hid (HRa.out.keep hb3); have HQb := Lib.hid (HQa.out.keep hb3); have HBb := Lib.hid (below_trans HBa.out hb3); have hrb := HRb.out.2; rw [HVM.out]; clear hb3)
            go_ret
            exact ⟨ret_bool (by rw [HV.out, HE.out]; rfl), HBb.out⟩
          · go_wp2_with (go_at_call 68; refine (validMove_ex _ _).mono ?_; rintro e w3 ⟨rfl, hb3⟩; have HRb := Lib.hid (HRa.out.keep hb3); have HQb := Lib.hid (HQa.out.keep hb3); have HBb := Lib.hid (below_trans HBa.out hb3); have hrb := HRb.out.2; rw [HVM.out]; clear hb3)
            go_meet
            exact ⟨rfl, rfl, HE.out, HRb.out, HQb.out, HBb.out⟩
        by_cases k6 : l.kind = 6
        · have b4 : (l.kind == 4) = false := by rw [beq_dec]; exact decide_eq_false (by omega)
          have b6 : (l.kind == 6) = true := by rw [beq_dec]; exact decide_eq_true k6
          obtain ⟨vm, hvm⟩ : ∃ x, vChange l nz = x := ⟨_, rfl⟩
          have HVM := Lib.hid hvm
          have HE : Hid (midOK l nz = vm) := Lib.hid (by unfold midOK; rw [hvm, show decide (l.kind ≠ 4) = true from decide_eq_true (by omega), show decide (l.kind ≠ 6) = false from decide_eq_false (by omega)]; simp)
          clear k4 k6 hvm
          cases vm
          · go_wp2_with (first | (refine wpList_load_Row rfl _ _ rfl w.heap.size rfl (ltCells l (.slice A n c) (.slice B m d) (.slice C l.cells.length c3)) HRa.out _ Tryz.underlying57 rfl HSZ.out ?_) | (go_at_call 69; refine (validChange_any _ _ _ _ _ _ _ _ _ hn hm hz).mono ?_; rintro e w3 ⟨rfl, hb3⟩; have HRb := Lib.hid (HRa.out.keep hb3); have HQb := Lib.hid (HQa.out.keep hb3); have HBb := Lib.hid (below_trans HBa.out hb3); have hrb := HRb.out.2; rw [HN.out, HVM.out]; clear hb3))
            go_ret
            exact ⟨ret_bool (by rw [HV.out, HE.out]; rfl), HBb.out⟩
          · go_wp2_with (first | (refine wpList_load_Row rfl _ _ rfl w.heap.size rfl (ltCells l (.slice A n c) (.slice B m d) (.slice C l.cells.length c3)) HRa.out _ Tryz.underlying57 rfl HSZ.out ?_) | (go_at_call 69; refine (validChange_any _ _ _ _ _ _ _ _ _ hn hm hz).mono ?_; rintro e w3 ⟨rfl, hb3⟩; have HRb := Lib.hid (HRa.out.keep hb3); have HQb := Lib.hid (HQa.out.keep hb3); have HBb := Lib.hid (below_trans HBa.out hb3); have hrb := HRb.out.2; rw [HN.out, HVM.out]; clear hb3))
            go_meet
            exact ⟨rfl, rfl, HE.out, HRb.out, HQb.out, HBb.out⟩
        have b4 : (l.kind == 4) = false := by rw [beq_dec]; exact decide_eq_false (by omega)
        have b6 : (l.kind == 6) = false := by rw [beq_dec]; exact decide_eq_false (by omega)
        have HE : Hid (midOK l nz = true) := Lib.hid (by unfold midOK; rw [show decide (l.kind ≠ 4) = true from decide_eq_true (by omega), show decide (l.kind ≠ 6) = true from decide_eq_true (by omega)]; simp)
        clear k4 k6
        go_wp2
        go_meet
        exact ⟨rfl, rfl, HE.out, HRa.out, HQa.out, HBa.out⟩
      case rest =>
        obtain ⟨rfl, rfl, hmid, hrow2, hq2, hbel2⟩ := hcut
        rw [hmid, Bool.true_and] at HV
        have HR2 := Lib.hid hrow2
        have HB2 := Lib.hid hbel2
        have hq := hq2.2
        have HC2 := Lib.hid ((HCI.out.keep hbel2).more hbel2.size)
        clear hmid hrow2 hq2 hbel2 hr1 HR1 HRa HBa HQa
        by_cases hsp : -2251799813685248 ≤ l.wfrom ∧ l.wfrom ≤ l.wto ∧ l.wto ≤ 2251799813685248
        · have hspb : spanB l.wfrom l.wto = true := decide_eq_true hsp
          rw [hspb, Bool.true_and] at HV
          obtain ⟨hs1, hs2, hs3⟩ := hsp
          clear hspb
          go_wp2_with (first | (refine wpList_load_Row rfl _ _ rfl w.heap.size rfl (ltCells l (.slice A n c) (.slice B m d) (.slice C l.cells.length c3)) HR2.out _ Tryz.underlying57 rfl HSZ.out ?_) | (go_at_call 70; refine (validCells_any _ _ _ _ _ _ hcl HC2.out).mono ?_; rintro e w9 ⟨rfl, hb9⟩; have HB9 := Lib.hid (below_trans HB2.out hb9); clear hb9))
          go_ret
          exact ⟨ret_bool HV.out.symm, HB9.out⟩
        · have hspb : spanB l.wfrom l.wto = false := decide_eq_false hsp
          rw [hspb, Bool.false_and] at HV
          have hs4 : l.wfrom < -2251799813685248 ∨ (-2251799813685248 ≤ l.wfrom ∧ l.wto < l.wfrom) ∨ (-2251799813685248 ≤ l.wfrom ∧ l.wfrom ≤ l.wto ∧ 2251799813685248 < l.wto) := by omega
          clear hsp hspb
          rcases hs4 with hs1 | ⟨hs1, hs2⟩ | ⟨hs1, hs2, hs3⟩
          all_goals
            go_wp2
            go_ret
            exact ⟨ret_bool HV.out.symm, HB2.out⟩
end Go.Proofs.YtoljoigbepdeiaaGreatDoor

/- letter.Valid, walked, for letters that do not come to series.Valid. -/
namespace Go.Proofs.YtoljoigbepdeiaaGreatDoor
open Go Go.RowKit

abbrev nzOf (l : Lt) : Bool := noSer l.series.rule.length l.series.moves.length l.series
def oth (l : Lt) : Bool := vOthers l (mvZ l.move) (nzOf l) (decide (l.wfrom = 0) && decide (l.wto = 0)) ((l.cells.length : Int) == 0) (l.ref == zero32)
/-- The letter's slices: their addresses and capacities. -/
structure Sl where
  A : Option Addr
  B : Option Addr
  C : Option Addr
  c : Nat
  d : Nat
  e : Nat
def ltVal (l : Lt) (s : Sl) : Array Value := ltCells l (.slice s.A l.series.rule.length s.c) (.slice s.B l.series.moves.length s.d) (.slice s.C l.cells.length s.e)
/-- Sizes that a walk asks for. -/
structure LtOK (l : Lt) : Prop where
  rule : l.series.rule.length ≤ 140737488355328
  moves : l.series.moves.length ≤ 140737488355328
  zone : l.series.zone.size ≤ 140737488355328
  ref : l.ref.length = 32
  cells : l.cells.length ≤ 140737488355328
theorem validNumbers_lt (l : Lt) (s : Sl) (w : World) (h : LtOK l) : Calls Tryz.prog 48 #[.agg (ltVal l s)] w (Gives (.bool (vNums l (bareB l.kind l.series.rule.length l.series.moves.length l.series))) w) :=
  validNumbers_any l s.A s.B _ _ s.c s.d _ w h.rule h.moves h.zone
theorem validOthers_lt (l : Lt) (s : Sl) (w : World) (h : LtOK l) (hi : IntsAt w w.heap.size s.C l.cells) : Calls Tryz.prog 49 #[.agg (ltVal l s)] w (Gives (.bool (oth l)) w) :=
  validOthers_cut l s.A s.B s.C _ _ s.c s.d s.e w h.rule h.moves h.zone h.ref h.cells hi _ _ _ _ _ rfl rfl rfl rfl rfl

def headOK (l : Lt) : Bool := decide (1 ≤ l.kind ∧ l.kind ≤ 18) && srvIn l.src && srvIn l.dst && decide (l.src ≠ l.dst)
def bodyOK (l : Lt) : Bool := vNums l (bareB l.kind l.series.rule.length l.series.moves.length l.series) && oth l
def noSerB (l : Lt) : Bool := !(usesB l.kind 10) || (nzOf l && (decide (l.kind = 8) || decide (l.scope = 1)))
def vCode (l : Lt) (sc : Int) : Int := if headOK l = false then 1 else if bodyOK l = false then 1 else if 65536 < l.cells.length then 2 else if noSerB l = true then 0 else sc

theorem ltVal_get (l : Lt) (s : Sl) (i : Nat) : (ltVal l s)[i]? = (ltCells l (.slice s.A l.series.rule.length s.c) (.slice s.B l.series.moves.length s.d) (.slice s.C l.cells.length s.e))[i]? := rfl
theorem ret_int {a b : Int} (h : a = b) : Ending.returned (I a) = .returned (I b) := by rw [h]
attribute [local go_sem] ltVal_get lt_get0 lt_get1 lt_get2 lt_get10 lt_get17 lt_get18 lt_get19 lt_get20 lt_get21 lt_get22 lt_get23 lt_get29

set_option maxRecDepth 10000 in
set_option maxHeartbeats 2000000 in
theorem valid_head (l : Lt) (s : Sl) (w : World) (h : headOK l = false) : Calls Tryz.prog 19 #[.agg (ltVal l s)] w (Gives (I 1) w) := by
  have HB0 := Lib.hid (below_var w (.cells (ltVal l s) 57))
  obtain ⟨s1, h1⟩ : ∃ x, srvIn l.src = x := ⟨_, rfl⟩
  obtain ⟨s2, h2⟩ : ∃ x, srvIn l.dst = x := ⟨_, rfl⟩
  have he : (l.src == l.dst) = decide (l.src = l.dst) := beq_dec _ _
  unfold headOK at h
  rw [h1, h2] at h
  have H1 := Lib.hid h1
  have H2 := Lib.hid h2
  clear h1 h2
  have hc : l.kind < 1 ∨ 18 < l.kind ∨ (1 ≤ l.kind ∧ l.kind ≤ 18) := by omega
  rcases hc with hk | hk | ⟨hk1, hk2⟩
  · clear h
    go_enter Tryz.func19, Tryz.ntmps19
    go_wp2_with (go_at_call 47; refine (server_any _ _).mono ?_; rintro e w' ⟨rfl, rfl⟩)
    go_ret
    exact ⟨rfl, HB0.out⟩
  · clear h
    go_enter Tryz.func19, Tryz.ntmps19
    go_wp2_with (go_at_call 47; refine (server_any _ _).mono ?_; rintro e w' ⟨rfl, rfl⟩)
    go_ret
    exact ⟨rfl, HB0.out⟩
  · rw [show decide (1 ≤ l.kind ∧ l.kind ≤ 18) = true from decide_eq_true ⟨hk1, hk2⟩] at h
    cases hd : decide (l.src = l.dst) with
    | true =>
      rw [hd] at he
      clear h hd
      cases s1 <;> cases s2
      all_goals
        go_enter Tryz.func19, Tryz.ntmps19
        go_wp2_with (go_at_call 47; refine (server_any _ _).mono ?_; rintro e w' ⟨rfl, rfl⟩; first | rw [H1.out] | rw [H2.out])
        go_ret
        exact ⟨rfl, HB0.out⟩
    | false =>
      rw [hd] at he
      have hne : decide (l.src ≠ l.dst) = true := decide_eq_true (fun e => by rw [decide_eq_true e] at hd; cases hd)
      rw [hne] at h
      clear hd hne
      cases s1 <;> cases s2
      all_goals first
        | (cases h; done)
        | (clear h
           go_enter Tryz.func19, Tryz.ntmps19
           go_wp2_with (go_at_call 47; refine (server_any _ _).mono ?_; rintro e w' ⟨rfl, rfl⟩; first | rw [H1.out] | rw [H2.out])
           go_ret
           exact ⟨rfl, HB0.out⟩)
end Go.Proofs.YtoljoigbepdeiaaGreatDoor

/- letter.Read: the data. -/
namespace Go.Proofs.YtoljoigbepdeiaaGreatDoor
open Go Go.RowKit

def setNum (l : Lt) (k : Nat) (x : Int) : Lt :=
  match k with
  | 0 => { l with meeting := x }
  | 1 => { l with edition := x }
  | 2 => { l with issuer := x }
  | 3 => { l with version := x }
  | 4 => { l with person := x }
  | 5 => { l with other := x }
  | 6 => { l with resource := x }
  | 7 => { l with scope := x }
  | 8 => { l with day := x }
  | 11 => { l with deadline := x }
  | 12 => { l with state := x }
  | 13 => { l with grain := x }
  | _ => l
theorem setNum_cells (l : Lt) (vr vm vc : Value) (x : Int) (k o : Nat) (hk : k < 17) (h : numOff k = some o) : ltCells (setNum l k x) vr vm vc = (ltCells l vr vm vc).setIfInBounds o (I x) :=
  all17 (p := fun k => ∀ o, numOff k = some o → ltCells (setNum l k x) vr vm vc = (ltCells l vr vm vc).setIfInBounds o (I x)) (by refine ⟨?_, ?_, ?_, ?_, ?_, ?_, ?_, ?_, ?_, ?_, ?_, ?_, ?_, ?_, ?_, ?_, ?_⟩ <;> (intro o h; first | (cases h; done) | (cases h; rfl))) k hk o h
theorem Row.set {w : World} {b o : Nat} {cs : Array Value} {u v : Value} (h : Row w b cs) (ho : cs[o]? = some u) : Row (w.setCell ⟨b, o, none⟩ v) b (cs.setIfInBounds o v) := by
  refine ⟨by simpa [World.setCell] using h.1, fun i => ?_⟩
  by_cases e : i = o
  · subst e
    rw [World.cell?_setCell_same' _ _ _ (by rw [h.2, ho]; rfl), Array.getElem?_setIfInBounds]
    have : i < cs.size := (Array.getElem?_eq_some_iff.1 ho).1
    simp [this]
  · rw [World.cell?_setCell_other _ _ _ _ (by intro h'; injection h' with h1 h2; exact e h2.symm), h.2, Array.getElem?_setIfInBounds_ne (fun h' => e h'.symm)]
/-- The letter read so far, what is left, and whether the reader has failed. -/
structure RS where
  l : Lt
  rest : List UInt8
  bad : Bool
def RS.num (r : RS) (size : Nat) : Int := rdN r.rest r.bad size
def RS.after (r : RS) (size : Nat) (l : Lt) : RS := ⟨l, tkR r.rest r.bad size, tkB r.rest r.bad size⟩
def rdKind (r : RS) : RS := r.after 1 { r.l with kind := r.num 1 }
def rdSrc (r : RS) : RS := r.after 1 { r.l with src := r.num 1 }
def rdDst (r : RS) : RS := r.after 1 { r.l with dst := r.num 1 }
def rdNum (r : RS) (k : Nat) : RS := r.after 8 (setNum r.l k (r.num 8))
def zMv : Mv := ⟨0, false, 0, 0, 0⟩
def zSer : Ser := ⟨[], 0, 0, ByteArray.empty, 0, 0, []⟩
def zLt : Lt := ⟨0, 0, 0, 0, 0, 0, 0, 0, 0, 0, 0, 0, zMv, zSer, 0, 0, 0, 0, 0, [], List.replicate 32 0⟩
def zSl : Sl := ⟨none, none, none, 0, 0, 0⟩
def rdHead (bs : List UInt8) : RS := rdDst (rdSrc (rdKind ⟨zLt, bs, false⟩))
/-- The fields of a letter that has numbers alone. -/
def rdTo (r : RS) : Nat → RS
  | 0 => r
  | k + 1 => if usesB r.l.kind k = true then rdNum (rdTo r k) k else rdTo r k
theorem setNum_kind (l : Lt) (k : Nat) (x : Int) : (setNum l k x).kind = l.kind := by unfold setNum; split <;> rfl
theorem rdTo_kind (r : RS) (k : Nat) : (rdTo r k).l.kind = r.l.kind := by
  induction k with
  | zero => rfl
  | succ k ih =>
    unfold rdTo
    split
    · exact (setNum_kind _ _ _).trans ih
    · exact ih
end Go.Proofs.YtoljoigbepdeiaaGreatDoor

/- letter.Read: what holds between its steps. -/
namespace Go.Proofs.YtoljoigbepdeiaaGreatDoor
open Go Go.RowKit

theorem lt_of_blk {w : World} {b : Nat} {o : Obj} (h : w.heap[b]? = some o) : b < w.heap.size := (Array.getElem?_eq_some_iff.1 h).1
theorem Row.of_blk {w : World} {b : Nat} {cs : Array Value} {t : TypeId} {fr : Nat × Nat} (h : w.heap[b]? = some (.cells cs t fr)) : Row w b cs :=
  ⟨lt_of_blk h, fun i => cell_of_row w b i cs t fr h⟩
/-- The letter under way in the variable, the reader, and what has not been touched. -/
structure RIn (w w' : World) (r : RS) : Prop where
  blk : w'.heap[w.heap.size + 1]? = some (.cells (ltVal r.l zSl) 57 (0, 0))
  st : RSt w' (w.heap.size + 2) (w.heap.size + 1) w.heap.size r.rest r.bad
  res : w'.heap[w.heap.size]? = some (.cells (ltVal zLt zSl) 57 (0, 0))
  lo : Below w.heap.size w w'
  sz : w.heap.size + 4 < w'.heap.size
theorem RIn.row {w w' : World} {r : RS} (h : RIn w w' r) : Row w' (w.heap.size + 1) (ltVal r.l zSl) := Row.of_blk h.blk
theorem RIn.froz {w w' : World} {r : RS} (h : RIn w w' r) (i : Nat) : w'.frozen? ⟨w.heap.size + 1, i, none⟩ = false := frozen_of_row w' (w.heap.size + 1) i _ _ h.blk
theorem RIn.grow {w w1 w2 : World} {r : RS} (h : RIn w w1 r) (hb : Below w1.heap.size w1 w2) : RIn w w2 r :=
  have hs := h.sz
  ⟨(hb.block _ (by omega)).trans h.blk, h.st.below hb (by omega) (by omega), (hb.block _ (by omega)).trans h.res, below_trans h.lo hb, Nat.lt_of_lt_of_le h.sz hb.size⟩
theorem RIn.call {w w1 w2 : World} {r : RS} {size : Nat} {e : Ending} (h : RIn w w1 r) (hg : NumGot w1 (w.heap.size + 2) (w.heap.size + 1) w.heap.size r.rest r.bad size e w2) :
    e = .returned (I (r.num size)) ∧ RIn w w2 (r.after size r.l) := by
  have hs := h.sz
  obtain ⟨h1, h2, h3⟩ := hg
  refine ⟨h1, (h3.block _ (by omega) (by omega) (by omega)).trans h.blk, h2, (h3.block _ (by omega) (by omega) (by omega)).trans h.res, ?_, Nat.lt_of_lt_of_le h.sz h3.size⟩
  exact ⟨h3.os.trans h.lo.os, h3.tape.trans h.lo.tape, h3.output.trans h.lo.output, Nat.le_trans h.lo.size h3.size, fun k hk => (h3.block k (by omega) (by omega) (by omega)).trans (h.lo.block k hk)⟩
theorem RIn.number {w w1 : World} {r : RS} (h : RIn w w1 r) (size : Nat) (h8 : size ≤ 8) :
    Calls Tryz.prog 33 #[pt (w.heap.size + 3), I size] w1 fun e w2 => e = .returned (I (r.num size)) ∧ RIn w w2 (r.after size r.l) :=
  (rnumber_any w1 (w.heap.size + 2) (w.heap.size + 1) w.heap.size size r.rest r.bad (by omega) (by have := h.sz; omega) h.st h8).mono fun _ _ hg => h.call hg
theorem RIn.store {w w1 : World} {r : RS} (h : RIn w w1 r) {o : Nat} {v : Value} {l' : Lt} (hl : ltVal l' zSl = (ltVal r.l zSl).setIfInBounds o v) :
    RIn w (w1.setCell ⟨w.heap.size + 1, o, none⟩ v) ⟨l', r.rest, r.bad⟩ := by
  have hs := h.sz
  have hb : Below (w.heap.size + 1) w1 (w1.setCell ⟨w.heap.size + 1, o, none⟩ v) := (Below.refl _ w1).setCell (p := ⟨w.heap.size + 1, o, none⟩) (Nat.le_refl _) _
  refine ⟨?_, ?_, (hb.block _ (by omega)).trans h.res, h.lo.trans (hb.mono (by omega)), Nat.lt_of_lt_of_le h.sz hb.size⟩
  · rw [heap_setCell_same w1 _ o _ _ _ h.blk]
    show _ = some (Obj.cells (ltVal l' zSl) _ _)
    rw [hl]
  · obtain ⟨A, c, hr, h1, h2, h3, h4⟩ := h.st
    exact ⟨A, c, ⟨(heap_setCell_other w1 _ _ _ (by simp)).trans hr.rest, (heap_setCell_other w1 _ _ _ (by simp)).trans hr.rd, (heap_setCell_other w1 _ _ _ (by simp)).trans hr.var⟩, h1, h2, h3.keep (hb.mono (by omega)), h4⟩
theorem RIn.draw {w w1 : World} {r : RS} (h : RIn w w1 r) : RIn w w1.drew r :=
  ⟨h.blk, by obtain ⟨A, c, hr, h1, h2, h3, h4⟩ := h.st; exact ⟨A, c, hr.draw, h1, h2, h3, h4⟩, h.res, ⟨h.lo.os, h.lo.tape, h.lo.output, h.lo.size, h.lo.block⟩, h.sz⟩

section
variable {P : Program} {ops : Array Oper} {Q : Exit → Act → World → Prop} {a : Act} {w : World} {rest : List Oper} {o : Oper}
/-- 'var x T' of a struct whose zero's cells have a name. -/
theorem wpList_alloc_as (hg : o.guard = none) (t : TypeId) (ho : o.op = .alloc t) (cells : Array Value) (hz : (P.info? t).map (fun i => (i.zero, i.size)) = some (some (.agg cells), cells.size))
    (h : wpList P ops Q rest (a.put o.dst (.pointer (some ⟨w.heap.size, 0, none⟩))) (w.alloc (.cells cells t))) : wpList P ops Q (o :: rest) a w := by
  refine wpList_plain hg fun K hK => ?_
  unfold Oper.wp execOp
  simp only [ho, Sem.run_bind, run_alloc_var w t (.agg cells) _ hz, Result.andThen_ok]
  exact hK _ _ h
end
/-- The table of the reader's methods, as it lies. -/
def rFns (g : Nat) : Array Value := #[.nilFunc, .nilFunc, .nilFunc, .nilFunc, .nilFunc, .nilFunc, .nilFunc, .nilFunc, .nilFunc, .func (.func 34) #[pt g] #[], .func (.func 35) #[pt g] #[], .nilFunc, .nilFunc, .nilFunc, .func (.func 36) #[pt g] #[], .func (.func 37) #[pt g] #[], .func (.func 38) #[pt g] #[]]
theorem rFns_one (g : Nat) : (rFns g).all (·.oneCell') = true := by kernel_rfl
theorem rFns_info (g : Nat) : (Tryz.prog.info? 86).map (fun i => (i.zero, i.size)) = some (some (.agg (Array.replicate 17 .nilFunc)), (rFns g).size) := by kernel_rfl
theorem lt_zero : (Tryz.prog.info? 57).map (fun i => (i.zero, i.size)) = some (some (.agg (ltVal zLt zSl)), (ltVal zLt zSl).size) := by kernel_rfl
end Go.Proofs.YtoljoigbepdeiaaGreatDoor

/- letter.Read of known bytes: the letter under way, its slices' addresses with it. -/
namespace Go.Proofs.YtoljoigbepdeiaaGreatDoor
open Go Go.RowKit

/-- The letter under way in the variable, the reader that has not failed, what has not been touched, and the memory behind the reader, as it was in wm. -/
structure LIn (w wm w' : World) (l : Lt) (s : Sl) (rest : List UInt8) : Prop where
  blk : w'.heap[w.heap.size + 1]? = some (.cells (ltVal l s) 57 (0, 0))
  st : RStL w' (w.heap.size + 2) (w.heap.size + 1) w.heap.size rest false
  res : w'.heap[w.heap.size]? = some (.cells (ltVal zLt zSl) 57 (0, 0))
  lo : Below w.heap.size w w'
  sz : w.heap.size + 4 < w'.heap.size
  msz : wm.heap.size ≤ w'.heap.size
  mem : ∀ k, w.heap.size + 5 ≤ k → k < wm.heap.size → w'.heap[k]? = wm.heap[k]?
section
variable {x : Int} {n : Nat} {w wm w1 w2 : World} {l l' : Lt} {s s' : Sl} {rest R : List UInt8}
theorem LIn.row (h : LIn w wm w1 l s rest) : Row w1 (w.heap.size + 1) (ltVal l s) := Row.of_blk h.blk
theorem LIn.froz (h : LIn w wm w1 l s rest) (i : Nat) : w1.frozen? ⟨w.heap.size + 1, i, none⟩ = false := frozen_of_row w1 (w.heap.size + 1) i _ _ h.blk
theorem LIn.grow (h : LIn w wm w1 l s rest) (hb : Below w1.heap.size w1 w2) : LIn w wm w2 l s rest :=
  have hs := h.sz
  ⟨(hb.block _ (by omega)).trans h.blk, h.st.below hb (by omega) (by omega), (hb.block _ (by omega)).trans h.res, below_trans h.lo hb, Nat.lt_of_lt_of_le h.sz hb.size, Nat.le_trans h.msz hb.size, fun k h1 h2 => (hb.block k (Nat.lt_of_lt_of_le h2 h.msz)).trans (h.mem k h1 h2)⟩
theorem LIn.read (h : LIn w wm w1 l s rest) (hr : RStL w2 (w.heap.size + 2) (w.heap.size + 1) w.heap.size R false) (h3 : RKeep (w.heap.size + 2) w1 w2) : LIn w wm w2 l s R := by
  have hs := h.sz
  refine ⟨(h3.block _ (by omega) (by omega) (by omega)).trans h.blk, hr, (h3.block _ (by omega) (by omega) (by omega)).trans h.res, ?_, Nat.lt_of_lt_of_le h.sz h3.size, Nat.le_trans h.msz h3.size, fun k h1 h2 => (h3.block k (Nat.lt_of_lt_of_le h2 h.msz) (by omega) (by omega)).trans (h.mem k h1 h2)⟩
  exact ⟨h3.os.trans h.lo.os, h3.tape.trans h.lo.tape, h3.output.trans h.lo.output, Nat.le_trans h.lo.size h3.size, fun k hk => (h3.block k (by omega) (by omega) (by omega)).trans (h.lo.block k hk)⟩
/-- A number of n bytes that were written with le. -/
theorem LIn.number (h : LIn w wm w1 l s (le x n ++ R)) (h8 : n ≤ 8) (hv : rdN (le x n ++ R) false n = x) :
    Calls Tryz.prog 33 #[pt (w.heap.size + 3), I n] w1 fun e w2 => e = .returned (I x) ∧ LIn w wm w2 l s R :=
  (rnumber_anyL w1 (w.heap.size + 2) (w.heap.size + 1) w.heap.size n _ false (by omega) (by have := h.sz; omega) h.st h8).mono fun e w2 ⟨h1, h2, h3⟩ => by
    rw [hv] at h1
    rw [(tk_le' x n R).2.1, (tk_le' x n R).2.2] at h2
    exact ⟨h1, h.read h2 h3⟩
theorem LIn.number8 (h : LIn w wm w1 l s (le x 8 ++ R)) (hx : fits x) : Calls Tryz.prog 33 #[pt (w.heap.size + 3), I 8] w1 fun e w2 => e = .returned (I x) ∧ LIn w wm w2 l s R :=
  h.number (by omega) (rdN_8 x hx R)
theorem LIn.number4 (h : LIn w wm w1 l s (le x 4 ++ R)) (h0 : 0 ≤ x) (h1 : x < 4294967296) : Calls Tryz.prog 33 #[pt (w.heap.size + 3), I 4] w1 fun e w2 => e = .returned (I x) ∧ LIn w wm w2 l s R :=
  h.number (by omega) (rdN_4 x h0 h1 R)
theorem LIn.number1 (h : LIn w wm w1 l s (le x 1 ++ R)) (h0 : 0 ≤ x) (h1 : x < 256) : Calls Tryz.prog 33 #[pt (w.heap.size + 3), I 1] w1 fun e w2 => e = .returned (I x) ∧ LIn w wm w2 l s R :=
  h.number (by omega) (rdN_1 x h0 h1 R)
theorem LIn.store (h : LIn w wm w1 l s rest) {o : Nat} {v : Value} (hl : ltVal l' s' = (ltVal l s).setIfInBounds o v) : LIn w wm (w1.setCell ⟨w.heap.size + 1, o, none⟩ v) l' s' rest := by
  have hs := h.sz
  have hb : Below (w.heap.size + 1) w1 (w1.setCell ⟨w.heap.size + 1, o, none⟩ v) := (Below.refl _ w1).setCell (p := ⟨w.heap.size + 1, o, none⟩) (Nat.le_refl _) _
  refine ⟨?_, ?_, (hb.block _ (by omega)).trans h.res, h.lo.trans (hb.mono (by omega)), Nat.lt_of_lt_of_le h.sz hb.size, Nat.le_trans h.msz hb.size, fun k h1 h2 => (heap_setCell_other w1 _ k _ (by show k ≠ w.heap.size + 1; omega)).trans (h.mem k h1 h2)⟩
  · rw [heap_setCell_same w1 _ o _ _ _ h.blk, hl]
  · obtain ⟨A, c, hr, h1, h2, h3, h4⟩ := h.st
    exact ⟨A, c, ⟨(heap_setCell_other w1 _ _ _ (by simp)).trans hr.rest, (heap_setCell_other w1 _ _ _ (by simp)).trans hr.rd, (heap_setCell_other w1 _ _ _ (by simp)).trans hr.var⟩, h1, h2, h3.keep (hb.mono (by omega)), h4⟩
theorem LIn.draw (h : LIn w wm w1 l s rest) : LIn w wm w1.drew l s rest :=
  ⟨h.blk, by obtain ⟨A, c, hr, h1, h2, h3, h4⟩ := h.st; exact ⟨A, c, hr.draw, h1, h2, h3, h4⟩, h.res, ⟨h.lo.os, h.lo.tape, h.lo.output, h.lo.size, h.lo.block⟩, h.sz, h.msz, h.mem⟩
/-- The memory behind the reader, seen from here on. -/
theorem LIn.rebase (h : LIn w wm w1 l s rest) : LIn w w1 w1 l s rest := ⟨h.blk, h.st, h.res, h.lo, h.sz, Nat.le_refl _, fun _ _ _ => rfl⟩
end
end Go.Proofs.YtoljoigbepdeiaaGreatDoor

/- letter.Read of known bytes: take, a change of the letter's block, the letter whose fields below k are read, the bytes from field k on. -/
namespace Go.Proofs.YtoljoigbepdeiaaGreatDoor
open Go Go.RowKit

theorem BytesAt.via {w w1 w2 : World} {B : Nat} {A : Option Addr} {bs : List UInt8} (h : BytesAt w1 B A bs) (h1 : Below B w w1) (h2 : Below B w w2) : BytesAt w2 B A bs := by
  rcases h with h | ⟨b, off, hA, hb, hc⟩
  · exact .inl h
  · exact .inr ⟨b, off, hA, hb, fun j hj => ((h2.cell (p := ⟨b, off + j, none⟩) hb).trans (h1.cell (p := ⟨b, off + j, none⟩) hb).symm).trans (hc j hj)⟩
section
variable {n : Nat} {w wm w1 w2 : World} {l l' : Lt} {s s' : Sl} {xs rest R : List UInt8}
theorem LIn.fn (h : LIn w wm w1 l s rest) : w1.cell? ⟨w.heap.size + 3, 1, none⟩ = some (.func (.func 59) #[] #[pt (w.heap.size + 4), pt (w.heap.size + 2)]) := by
  obtain ⟨A, c, hr, _⟩ := h.st
  exact cell_of_row w1 _ 1 _ _ _ hr.rd
theorem LIn.fine (h : LIn w wm w1 l s rest) : w1.cell? ⟨w.heap.size + 3, 2, none⟩ = some (.bool false) := by
  obtain ⟨A, c, hr, _⟩ := h.st
  exact cell_of_row w1 _ 2 _ _ _ hr.rd
theorem LIn.rfroz (h : LIn w wm w1 l s rest) (i : Nat) : w1.frozen? ⟨w.heap.size + 3, i, none⟩ = false := by
  obtain ⟨A, c, hr, _⟩ := h.st
  exact frozen_of_row w1 _ i _ _ hr.rd
theorem LIn.take (h : LIn w wm w1 l s (xs ++ R)) (hn : xs.length = n) :
    Calls Tryz.prog 59 #[I n, pt (w.heap.size + 4), pt (w.heap.size + 2)] w1 fun e w2 => ∃ A c, e = .returned (.slice A n c) ∧ n ≤ c ∧ c ≤ 9223372036854775807 ∧ BytesAt w2 w.heap.size A xs ∧ LIn w wm w2 l s R :=
  (take_anyL w1 (w.heap.size + 2) (w.heap.size + 1) w.heap.size (xs ++ R) false n (by omega) (by have := h.sz; omega) h.st).mono fun e w2 hp => by
    unfold TakePostL at hp
    rw [if_neg (by simp; omega)] at hp
    obtain ⟨A, c, h1, h2, h3, h4, h5, h6⟩ := hp
    rw [show (xs ++ R).take n = xs by subst hn; simp] at h4
    rw [show (xs ++ R).drop n = R by subst hn; simp] at h5
    exact ⟨A, c, h1, h2, h3, h4, h.read h5 h6⟩
/-- The letter's block has changed, and memory that is younger than wm. -/
theorem LIn.turn (h : LIn w wm w1 l s rest) (hb : w2.heap[w.heap.size + 1]? = some (.cells (ltVal l' s') 57 (0, 0))) (ho : w2.os = w1.os) (ht : w2.tape = w1.tape) (hu : w2.output = w1.output) (hs : w1.heap.size ≤ w2.heap.size)
    (hk : ∀ k, k < wm.heap.size ∨ k < w.heap.size + 5 → k ≠ w.heap.size + 1 → w2.heap[k]? = w1.heap[k]?) : LIn w wm w2 l' s' rest := by
  have hlo : Below w.heap.size w1 w2 := ⟨ho, ht, hu, hs, fun k h1 => hk k (.inr (by omega)) (by omega)⟩
  refine ⟨hb, ?_, (hk _ (.inr (by omega)) (by omega)).trans h.res, h.lo.trans hlo, Nat.lt_of_lt_of_le h.sz hs, Nat.le_trans h.msz hs, fun k h1 h2 => (hk k (.inl h2) (by omega)).trans (h.mem k h1 h2)⟩
  obtain ⟨A, c, hr, h1, h2, h3, h4⟩ := h.st
  exact ⟨A, c, ⟨(hk _ (.inr (by omega)) (by omega)).trans hr.rest, (hk _ (.inr (by omega)) (by omega)).trans hr.rd, (hk _ (.inr (by omega)) (by omega)).trans hr.var⟩, h1, h2, h3.keep hlo, h4⟩
theorem LIn.setRow (h : LIn w wm w1 l s rest) : LIn w wm (w1.setRow (w.heap.size + 1) (ltVal l' s')) l' s' rest :=
  h.turn (setRow_heap _ _ _ _ _ _ h.blk) rfl rfl rfl (by simp [World.setRow]) fun k _ h2 => setRow_other _ _ k _ h2
theorem LIn.setFine (h : LIn w wm w1 l s rest) : LIn w wm (w1.setCell ⟨w.heap.size + 3, 2, none⟩ (.bool false)) l s rest := by
  have hs := h.sz
  obtain ⟨A, c, hr, h1, h2, h3, h4⟩ := h.st
  have hlo : Below w.heap.size w1 (w1.setCell ⟨w.heap.size + 3, 2, none⟩ (.bool false)) := (Below.refl _ w1).setCell (p := ⟨w.heap.size + 3, 2, none⟩) (by show w.heap.size ≤ w.heap.size + 3; omega) _
  exact ⟨(heap_setCell_other w1 _ _ _ (by simp)).trans h.blk, ⟨A, c, hr.setBad false, h1, h2, h3.keep hlo, h4⟩, (heap_setCell_other w1 _ _ _ (by simp)).trans h.res, h.lo.trans hlo, Nat.lt_of_lt_of_le h.sz hlo.size, Nat.le_trans h.msz hlo.size,
    fun k h5 h6 => (heap_setCell_other w1 _ k _ (by show k ≠ w.heap.size + 3; omega)).trans (h.mem k h5 h6)⟩
end
/-- The fields of L below k, the others zero. -/
def lowTo (L : Lt) (k : Nat) : Lt :=
  ⟨L.kind, L.src, L.dst, if 0 < k then L.meeting else 0, if 1 < k then L.edition else 0, if 2 < k then L.issuer else 0, if 3 < k then L.version else 0, if 4 < k then L.person else 0, if 5 < k then L.other else 0, if 6 < k then L.resource else 0, if 7 < k then L.scope else 0, if 8 < k then L.day else 0,
    if 9 < k then L.move else zMv, if 10 < k then L.series else zSer, if 11 < k then L.deadline else 0, if 12 < k then L.state else 0, if 13 < k then L.grain else 0, if 14 < k then L.wfrom else 0, if 14 < k then L.wto else 0, if 15 < k then L.cells else [], if 16 < k then L.ref else List.replicate 32 0⟩
theorem lowTo_kind (L : Lt) (k : Nat) : (lowTo L k).kind = L.kind := rfl
theorem lowTo_ref (L : Lt) (k : Nat) (h : L.ref.length = 32) : (lowTo L k).ref.length = 32 := by
  unfold lowTo
  dsimp only
  split
  · exact h
  · simp
theorem lowTo_num (L : Lt) (k : Nat) (hk : k < 17) (h : (numOff k).isSome = true) : setNum (lowTo L k) k (numF L k) = lowTo L (k + 1) :=
  all17 (p := fun k => (numOff k).isSome = true → setNum (lowTo L k) k (numF L k) = lowTo L (k + 1)) (by refine ⟨?_, ?_, ?_, ?_, ?_, ?_, ?_, ?_, ?_, ?_, ?_, ?_, ?_, ?_, ?_, ?_, ?_⟩ <;> (intro h; first | (cases h; done) | simp [lowTo, setNum, numF])) k hk h
theorem lowTo_9 (L : Lt) : { lowTo L 9 with move := L.move } = lowTo L 10 := by simp [lowTo]
theorem lowTo_10 (L : Lt) : { lowTo L 10 with series := L.series } = lowTo L 11 := by simp [lowTo]
theorem lowTo_14 (L : Lt) : { lowTo L 14 with wfrom := L.wfrom, wto := L.wto } = lowTo L 15 := by simp [lowTo]
theorem lowTo_15 (L : Lt) : { lowTo L 15 with cells := L.cells } = lowTo L 16 := by simp [lowTo]
theorem lowTo_16 (L : Lt) : { lowTo L 16 with ref := L.ref } = lowTo L 17 := by simp [lowTo]
theorem lowTo_17 (L : Lt) : lowTo L 17 = L := by simp [lowTo]
/-- A field that is zero. -/
def FldZ (L : Lt) (k : Nat) : Prop :=
  if (numOff k).isSome = true then numF L k = 0 else if k = 9 then L.move = zMv else if k = 10 then L.series = zSer else if k = 14 then L.wfrom = 0 ∧ L.wto = 0 else if k = 15 then L.cells = [] else L.ref = List.replicate 32 0
theorem lowTo_skip (L : Lt) (k : Nat) (hk : k < 17) (h : FldZ L k) : lowTo L k = lowTo L (k + 1) :=
  all17 (p := fun k => FldZ L k → lowTo L k = lowTo L (k + 1)) (by refine ⟨?_, ?_, ?_, ?_, ?_, ?_, ?_, ?_, ?_, ?_, ?_, ?_, ?_, ?_, ?_, ?_, ?_⟩ <;> (intro h; simp [FldZ, numOff, numF] at h; simp [lowTo, h])) k hk h
theorem ser_zero {se : Ser} (h : noSer se.rule.length se.moves.length se = true) : se = zSer := by
  unfold noSer at h
  obtain ⟨h1, h2, h3, h4, h5⟩ := of_decide_eq_true h
  obtain ⟨r, mi, le, zo, ga, fo, mo⟩ := se
  simp only at h1 h2 h3 h4 h5
  have e1 : r = [] := List.eq_nil_of_length_eq_zero (by omega)
  have e2 : mo = [] := List.eq_nil_of_length_eq_zero (by omega)
  have e3 : zo = ByteArray.empty := by
    have : zo.size = 0 := by omega
    obtain ⟨d⟩ := zo
    have h : d.size = 0 := this
    rw [Array.size_eq_zero_iff] at h
    subst h; rfl
  subst e1 e2 e3 h2 h3 h4 h5
  rfl
theorem mv_zero {m : Mv} (h : mvZ m = true) : m = zMv := by
  unfold mvZ at h
  simp only [Bool.and_eq_true, decide_eq_true_eq, beq_iff_eq] at h
  obtain ⟨d, r, t, n, l⟩ := m
  simp only at h
  obtain ⟨⟨⟨⟨h1, h2⟩, h3⟩, h4⟩, h5⟩ := h
  subst h1 h2 h3 h4 h5
  rfl
/-- What a valid letter does not use is zero. -/
theorem body_unused {L : Lt} (hb : bodyOK L = true) (k : Nat) (hk : k < 17) (hu : usesB L.kind k = false) : FldZ L k := by
  unfold bodyOK at hb
  rw [Bool.and_eq_true] at hb
  obtain ⟨hn, ho⟩ := hb
  unfold vNums at hn
  rw [Bool.and_eq_true, List.all_eq_true] at hn
  unfold oth vOthers at ho
  simp only [Bool.and_eq_true] at ho
  have hz := ho.1.1.1.1
  unfold zerosOK at hz
  rw [List.all_eq_true] at hz
  unfold FldZ
  split
  · rename_i hs
    have h := hn.1 k (List.mem_range.2 hk)
    unfold numOK numLow numHigh at h
    obtain ⟨o, hof⟩ := Option.isSome_iff_exists.1 hs
    rw [hof, hu] at h
    simp only [Option.isNone_some, Bool.false_or, Bool.and_eq_true, decide_eq_true_eq, Bool.false_and] at h
    obtain ⟨h1, h2⟩ := h
    rw [if_neg (by decide)] at h1 h2
    omega
  · split
    · rename_i e; subst e
      have h := hz 0 (List.mem_range.2 (by omega))
      change (usesB L.kind ((9 : Nat) : Int) || mvZ L.move) = true at h
      rw [hu, Bool.false_or] at h
      exact mv_zero h
    · split
      · rename_i e; subst e
        have h := hz 1 (List.mem_range.2 (by omega))
        change (usesB L.kind ((10 : Nat) : Int) || nzOf L) = true at h
        rw [hu, Bool.false_or] at h
        exact ser_zero h
      · split
        · rename_i e; subst e
          have h := hz 2 (List.mem_range.2 (by omega))
          change (usesB L.kind ((14 : Nat) : Int) || (decide (L.wfrom = 0) && decide (L.wto = 0))) = true at h
          rw [hu, Bool.false_or, Bool.and_eq_true] at h
          exact ⟨of_decide_eq_true h.1, of_decide_eq_true h.2⟩
        · split
          · rename_i e; subst e
            have h := hz 3 (List.mem_range.2 (by omega))
            change (usesB L.kind ((15 : Nat) : Int) || ((L.cells.length : Int) == 0)) = true at h
            rw [hu, Bool.false_or, beq_iff_eq] at h
            exact List.eq_nil_of_length_eq_zero (by omega)
          · rename_i hs h9 h10 h14 h15
            have e : k = 16 := by
              exact all17 (p := fun k => ¬ (numOff k).isSome = true → ¬ k = 9 → ¬ k = 10 → ¬ k = 14 → ¬ k = 15 → k = 16) (by refine ⟨?_, ?_, ?_, ?_, ?_, ?_, ?_, ?_, ?_, ?_, ?_, ?_, ?_, ?_, ?_, ?_, ?_⟩ <;> (intro a b c d f; first | omega | exact absurd rfl a)) k hk hs h9 h10 h14 h15
            subst e
            have h := hz 4 (List.mem_range.2 (by omega))
            change (usesB L.kind ((16 : Nat) : Int) || (L.ref == zero32)) = true at h
            rw [hu, Bool.false_or, beq_iff_eq] at h
            rw [h]; rfl
theorem body_cells {L : Lt} (hb : bodyOK L = true) : ∀ z ∈ L.cells, 0 ≤ z ∧ z ≤ 255 := by
  unfold bodyOK at hb
  rw [Bool.and_eq_true] at hb
  have ho := hb.2
  unfold oth vOthers at ho
  simp only [Bool.and_eq_true] at ho
  have hc := ho.2
  unfold vCells at hc
  rw [Bool.and_eq_true, List.all_eq_true] at hc
  intro z hz
  obtain ⟨j, hj⟩ := List.mem_iff_getElem?.1 hz
  have hjl : j < L.cells.length := (List.getElem?_eq_some_iff.1 hj).1
  have h := hc.1 j (List.mem_range.2 hjl)
  have hg : L.cells[j]?.getD 0 = z := by rw [hj]; rfl
  cases hsr : srvB L.kind with
  | true => rw [hsr, cellOK_t hg rfl] at h; have := of_decide_eq_true h; omega
  | false => rw [hsr, cellOK_f hg] at h; have := of_decide_eq_true h; omega
/-- The bytes of the fields from k on. -/
def fldPart (L : Lt) (sb : List UInt8) (k : Nat) : List UInt8 := if usesB L.kind k then fldBytes L sb k else []
def fldsFrom (L : Lt) (sb : List UInt8) (k : Nat) : List UInt8 := ((List.range 17).drop k).flatMap (fldPart L sb)
theorem fldsFrom_step (L : Lt) (sb : List UInt8) (k : Nat) (hk : k < 17) : fldsFrom L sb k = fldPart L sb k ++ fldsFrom L sb (k + 1) := by
  unfold fldsFrom
  rw [List.drop_eq_getElem_cons (by simpa using hk), List.flatMap_cons, List.getElem_range]
theorem fldsFrom_end (L : Lt) (sb : List UInt8) : fldsFrom L sb 17 = [] := rfl
theorem fldsTo_from (L : Lt) (sb : List UInt8) (j : Nat) : ∀ k, k + j = 17 → fldsTo L sb k ++ fldsFrom L sb k = fldsTo L sb 17 := by
  induction j with
  | zero => intro k h; have e : k = 17 := h; subst e; rw [fldsFrom_end, List.append_nil]
  | succ j ih =>
    intro k h
    rw [fldsFrom_step L sb k (by omega), ← List.append_assoc]
    exact ih (k + 1) (by omega)
theorem ltBytes_read (L : Lt) (sb : List UInt8) : ltBytes L sb = le L.kind 1 ++ (le L.src 1 ++ (le L.dst 1 ++ fldsFrom L sb 0)) := by
  have h := fldsTo_from L sb 17 0 rfl
  rw [show fldsTo L sb 0 = [] from rfl, List.nil_append] at h
  unfold ltBytes hdBytes
  rw [← h]
  simp [cellBytes]
theorem fldsFrom_num (L : Lt) (sb : List UInt8) (k : Nat) (hk : k < 17) (hu : usesB L.kind k = true) (ho : (numOff k).isSome = true) : fldsFrom L sb k = le (numF L k) 8 ++ fldsFrom L sb (k + 1) := by
  rw [fldsFrom_step L sb k hk]
  unfold fldPart fldBytes
  rw [hu, if_pos rfl, if_pos ho]
theorem fldsFrom_skip (L : Lt) (sb : List UInt8) (k : Nat) (hk : k < 17) (hu : usesB L.kind k = false) : fldsFrom L sb k = fldsFrom L sb (k + 1) := by
  rw [fldsFrom_step L sb k hk]
  unfold fldPart
  rw [hu]
  rfl
theorem fldsFrom_9 (L : Lt) (sb : List UInt8) (hu : usesB L.kind (9 : Nat) = true) : fldsFrom L sb 9 = le L.move.day 8 ++ (le (if L.move.drop then 1 else 0) 1 ++ (le L.move.toDay 8 ++ (le L.move.minute 8 ++ (le L.move.length 8 ++ fldsFrom L sb 10)))) := by
  rw [fldsFrom_step L sb 9 (by omega)]
  unfold fldPart
  rw [hu, if_pos rfl]
  show mvBytes L.move ++ _ = _
  unfold mvBytes
  simp only [List.append_assoc]
theorem fldsFrom_10 (L : Lt) (sb : List UInt8) (hu : usesB L.kind (10 : Nat) = true) : fldsFrom L sb 10 = sb ++ fldsFrom L sb 11 := by
  rw [fldsFrom_step L sb 10 (by omega)]
  unfold fldPart
  rw [hu, if_pos rfl]
  rfl
theorem fldsFrom_14 (L : Lt) (sb : List UInt8) (hu : usesB L.kind (14 : Nat) = true) : fldsFrom L sb 14 = le L.wfrom 8 ++ (le L.wto 8 ++ fldsFrom L sb 15) := by
  rw [fldsFrom_step L sb 14 (by omega)]
  unfold fldPart
  rw [hu, if_pos rfl]
  show (le L.wfrom 8 ++ le L.wto 8) ++ _ = _
  rw [List.append_assoc]
theorem fldsFrom_15 (L : Lt) (sb : List UInt8) (hu : usesB L.kind (15 : Nat) = true) : fldsFrom L sb 15 = le L.cells.length 4 ++ (cellBytes L.cells ++ fldsFrom L sb 16) := by
  rw [fldsFrom_step L sb 15 (by omega)]
  unfold fldPart
  rw [hu, if_pos rfl]
  show (le L.cells.length 4 ++ cellBytes L.cells) ++ _ = _
  rw [List.append_assoc]
theorem fldsFrom_16 (L : Lt) (sb : List UInt8) (hu : usesB L.kind (16 : Nat) = true) : fldsFrom L sb 16 = L.ref ++ fldsFrom L sb 17 := by
  rw [fldsFrom_step L sb 16 (by omega)]
  unfold fldPart
  rw [hu, if_pos rfl]
  rfl
end Go.Proofs.YtoljoigbepdeiaaGreatDoor

/- (*letter.reader).window on known bytes. -/
namespace Go.Proofs.YtoljoigbepdeiaaGreatDoor
open Go Go.RowKit

theorem LIn.rdr {w wm w1 : World} {l : Lt} {s : Sl} {rest : List UInt8} (h : LIn w wm w1 l s rest) : w1.cell? ⟨w.heap.size + 3, 0, none⟩ = some (pt (w.heap.size + 1)) := by
  obtain ⟨A, c, hr, _⟩ := h.st
  exact cell_of_row w1 _ 0 _ _ _ hr.rd
attribute [local go_sem] ltVal_get
set_option maxRecDepth 10000 in
set_option maxHeartbeats 2000000 in
theorem rwindow_yes (w wm w1 : World) (l : Lt) (s : Sl) (R : List UInt8) (x y : Int) (hx : fits x) (hy : fits y) (h : LIn w wm w1 l s (le x 8 ++ (le y 8 ++ R))) :
    Calls Tryz.prog 36 #[pt (w.heap.size + 3)] w1 fun e w2 => e = .returned (.tuple #[]) ∧ LIn w wm w2 { l with wfrom := x, wto := y } s R := by
  have HD := Lib.hid h.draw
  have hc := h.rdr
  have hsz := h.sz
  clear h
  go_enter Tryz.func36, Tryz.ntmps36
  go_wp2_with fail
  go_region_law (go_simp; go_at_call 33; refine (HD.out.number8 hx).mono ?_; rintro e w5 ⟨rfl, h5⟩; have H5 := Lib.hid h5; have hc5 := h5.rdr; have hv5 : w5.cell? ⟨w.heap.size + 1, 27, none⟩ = some (I l.wfrom) := h5.row.2 27; have hf5 := h5.froz 27; have hs5 := h5.sz; clear h5)
  all_goals
    have H6 : Hid (LIn w wm (w5.setCell ⟨w.heap.size + 1, 27, none⟩ (I x)) { l with wfrom := x } s (le y 8 ++ R)) := Lib.hid (H5.out.store rfl)
    have hc6 := H6.out.rdr
    have HD6 := Lib.hid H6.out.draw
    go_wp2_with fail
    go_region_law (go_simp; go_at_call 33; refine (HD6.out.number8 hy).mono ?_; rintro e w7 ⟨rfl, h7⟩; have H7 := Lib.hid h7; have hc7 := h7.rdr; have hv7 : w7.cell? ⟨w.heap.size + 1, 28, none⟩ = some (I l.wto) := h7.row.2 28; have hf7 := h7.froz 28; have hs7 := h7.sz; clear h7)
    all_goals
      have H8 : Hid (LIn w wm (w7.setCell ⟨w.heap.size + 1, 28, none⟩ (I y)) { l with wfrom := x, wto := y } s R) := Lib.hid (H7.out.store rfl)
      go_wp2_with fail
      go_end0
      exact ⟨rfl, H8.out⟩
end Go.Proofs.YtoljoigbepdeiaaGreatDoor

/- The methods of letter.writer: ref; cells of a nil slice. -/
namespace Go.Proofs.YtoljoigbepdeiaaGreatDoor
open Go Go.RowKit

theorem ref_one2 (r : List UInt8) : ∀ v ∈ refCells r, v.oneCell' = true := by
  intro v hv; simp only [refCells, List.mem_map] at hv; obtain ⟨x, _, rfl⟩ := hv; rfl
/-- Many bytes more, appended in one piece. -/
theorem wst_app {w W w1 : World} {g gg cap : Nat} {lp v : Value} {bs xs : List UInt8} (h : WSt w g lp v bs) (hg : g < w.heap.size) (hW : W.heap = w.heap) (h1 : W.os = w.os) (h2 : W.tape = w.tape) (h3 : W.output = w.output)
    (hown : w1.ownsRow (g + 1) 5 1 (.slice (some ⟨gg, 0, none⟩) (bs.length + xs.length) cap) (bs.length + xs.length) (bs.map Extern.Stop.cell ++ xs.map Extern.Stop.cell)) (hgrow : W.grownBy w1 v.ownBlock)
    (hat : v.ownBlock = some gg ∨ gg = w.heap.size) :
    w1.heap[g]? = some (.cells #[lp, v] 84 (0, 0)) ∧ WSt (w1.setCell ⟨g, 1, none⟩ (.slice (some ⟨gg, 0, none⟩) (bs.length + xs.length) cap)) g lp (.slice (some ⟨gg, 0, none⟩) (bs.length + xs.length) cap) (bs ++ xs) ∧
      WKeep g v w (.slice (some ⟨gg, 0, none⟩) (bs.length + xs.length) cap) (w1.setCell ⟨g, 1, none⟩ (.slice (some ⟨gg, 0, none⟩) (bs.length + xs.length) cap)) := by
  have hne : some g ≠ v.ownBlock := own_ge h.2 g (Nat.lt_succ_self g)
  have hg1 : w1.heap[g]? = some (.cells #[lp, v] 84 (0, 0)) := by
    rw [hgrow.block g (by rw [hW]; exact hg) hne, hW]; exact h.1
  refine ⟨hg1, ⟨?_, ?_⟩, ?_⟩
  · rw [heap_setCell_same w1 g 1 _ _ _ hg1]; rfl
  · have := ownsRow_far (u := .slice (some ⟨gg, 0, none⟩) (bs.length + xs.length) cap) (p := ⟨g, 1, none⟩) hown (own_ge hown g (Nat.lt_succ_self g))
    simpa using this
  · refine ⟨hgrow.os.trans h1, hgrow.tape.trans h2, hgrow.output.trans h3, ?_, fun k hk hkg hkv => ?_, ?_⟩
    · have := hgrow.size; rw [hW] at this; simp [World.setCell]; omega
    · rw [heap_setCell_other w1 _ k _ hkg, hgrow.block k (by rw [hW]; exact hk) hkv, hW]
    · rcases hat with e | e
      · exact .inl e.symm
      · exact .inr ⟨gg, rfl, by omega⟩
attribute [local go_sem] lt_get29
set_option maxRecDepth 10000 in
set_option maxHeartbeats 1000000 in
theorem refW_any (w : World) (g b : Nat) (l : Lt) (vr vm vc v : Value) (bs : List UInt8) (hin : WIn w g b (ltCells l vr vm vc) v bs) (hl : bs.length ≤ 1000000000000) (hr : l.ref.length = 32) :
    Calls Tryz.prog 29 #[pt g] w (NumPost w g (pt b) v (bs ++ l.ref)) := by
  have hc0 : w.cell? ⟨g, 0, none⟩ = some (pt b) := cell_of_row w g 0 _ _ _ hin.st.1
  have hc1 : w.cell? ⟨g, 1, none⟩ = some v := cell_of_row w g 1 _ _ _ hin.st.1
  have HI := Lib.hid hin
  obtain ⟨i0, hi, hz0, hz1, hz2⟩ := info_parts info_u8
  have hnews : ∀ j u, (refCells l.ref)[j]? = some u → w.drew.cell? ((⟨b, 30, none⟩ : Addr).add j) = some u := fun j u hu => by
    rw [Addr.add_mid]
    exact (hin.row.2 (30 + j)).trans ((lt_getRef l vr vm vc j).trans hu)
  have hmx : bs.length + 32 ≤ maxLen := by unfold maxLen; omega
  have hby : (bs.length + 32) * 1 ≤ 140737488355328 := by omega
  clear hin
  go_enter Tryz.func29, Tryz.ntmps29
  go_wp2_with fail
  go_region_law ((refine step_append_lies _ (by rfl) _ _ _ (by rfl) (g + 1) 5 i0 _ 1 1 Tryz.underlying24 hi hz0 hz1 hz2 rfl (by omega) v bs.length (bs.map Extern.Stop.cell) (by rfl) (HI.out.st.2.drew) ⟨b, 30, none⟩ 32 32 (refCells l.ref) (by rfl) (by simp [refCells, hr]) hnews (ref_one2 l.ref) (by omega) hmx hby (Nat.succ_le_of_lt HI.out.gl) w.heap.size rfl ?_; intro gg cap w1 hown1 hgrow hat hlt; have hS := wst_app (w := w) (W := w.drew) (xs := l.ref) HI.out.st HI.out.gl rfl rfl rfl rfl (by rw [hr]; exact hown1) hgrow hat; rw [hr] at hS; have hc2 : w1.cell? ⟨g, 1, none⟩ = some v := cell_of_row w1 g 1 _ _ _ hS.1; have hf2 := frozen_of_row w1 g 1 _ _ hS.1; have HSS := Lib.hid hS; clear hS hown1 hgrow hat hlt))
  all_goals
    go_wp2
    go_end0
    exact ⟨rfl, _, HSS.out.2.1, HSS.out.2.2⟩

set_option maxRecDepth 10000 in
set_option maxHeartbeats 1000000 in
theorem cellsW_none (w : World) (g b : Nat) (l : Lt) (vr vm v : Value) (A : Option Addr) (c : Nat) (bs : List UInt8) (hin : WIn w g b (ltCells l vr vm (.slice A 0 c)) v bs) (hl : bs.length ≤ 1000000000000) (hz : l.cells.length = 0) :
    Calls Tryz.prog 28 #[pt g] w (NumPost w g (pt b) v (bs ++ (le l.cells.length 4 ++ cellBytes l.cells))) := by
  have HI := Lib.hid hin
  have hc0 := cell_of_row w g 0 _ _ _ hin.st.1
  have hr0 := hin.row.2
  have hfl : fits (0 : Int) := by unfold fits; omega
  have hz' : l.cells = [] := List.eq_nil_of_length_eq_zero hz
  have HZ := Lib.hid hz'
  clear hin hz hz'
  go_enter Tryz.func28, Tryz.ntmps28
  go_wp2_with fail
  refine (number4 _ _ _ _ bs _ hfl (by omega) HI.out.gl HI.out.st).mono ?_
  rintro e w1 ⟨rfl, v1, hs1, hk1⟩
  have HI1 := Lib.hid (HI.out.next hs1 hk1)
  have HK1 := Lib.hid hk1
  have hc1 := cell_of_row w1 g 0 _ _ _ hs1.1
  have hr1 := HI1.out.row.2
  clear hs1 hk1
  go_wp2_with fail
  go_loop [22] (fun i => i = .int .i64 0) (fun _ => 0)
  case atStart => rfl
  case round =>
    subst hrel
    go_wp2
    go_end0
    exact ⟨rfl, v1, by rw [HZ.out]; simpa [cellBytes] using HI1.out.st, HK1.out⟩
theorem cellsW_any (w : World) (g b : Nat) (l : Lt) (vr vm v : Value) (A : Option Addr) (c : Nat) (bs : List UInt8) (hin : WIn w g b (ltCells l vr vm (.slice A l.cells.length c)) v bs) (hl : bs.length ≤ 1000000000000) (hz : l.cells.length ≤ 65536)
    (hi : IntsAt w b A l.cells) (hfit : ∀ j, j < l.cells.length → fits (l.cells[j]?.getD 0)) :
    Calls Tryz.prog 28 #[pt g] w (NumPost w g (pt b) v (bs ++ (le l.cells.length 4 ++ cellBytes l.cells))) := by
  rcases hi with h | ⟨bb, off, rfl, hb, hc⟩
  · rw [h] at hin
    exact cellsW_none w g b l vr vm v A c bs hin hl h
  · exact cellsW_some w g b l vr vm v bb off c bs hin hl hz (.inr ⟨bb, off, rfl, hb, hc⟩) hfit
end Go.Proofs.YtoljoigbepdeiaaGreatDoor
